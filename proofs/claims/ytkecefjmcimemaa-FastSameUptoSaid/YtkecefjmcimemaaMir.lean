/- Functions that mirror the program's. Printed by mir.py. -/
import Derived.Test.YtkecefjmcimemaaHd
namespace Go.Proofs.Ytkecefjmcimemaa
open Go.RowKit
set_option linter.unusedVariables false

def aE1 (N:Nat) (a0:ByteArray):Nat→Nat→Option (D7 Bool Unit)
  |0,k2=>some (.next ())
  |n7+1,k2=>((((byO a0 (k2:Int)).bind fun u14=>(bif decide ((u14.toNat:Int) < (33:Int)) then some (true) else ((byO a0 (k2:Int)).bind fun u17=>some (decide ((126:Int) < (u17.toNat:Int)))))):Option Bool).bind fun v11=>(bif v11 then some (.ret false) else aE1 N a0 n7 (k2+1)))

def aE6 (N:Nat) (a0:ByteArray):Option Bool :=
  ((aE1 N a0 (((a0.size:Int) - ((0:Nat):Int)).toNat) 0).bind fun o=>match o with|.ret r=>some r|.next ()=>(((bif decide ((0:Int) < (a0.size:Int)) then some (decide ((a0.size:Int)≤(12:Int))) else some (false)):Option Bool).bind fun v20=>some v20))

def aG5 (N:Nat) (a0:Wd):Nat→Int→(List Int)→Option ((List Int))
  |0,_,_=>none
  |n11+1,v2,v3=>(((bif decide ((0:Int)≤v2) then (bif decide (v2 < (a0.classes.length:Int)) then some (decide ((v3.length:Int)≤(a0.classes.length:Int))) else some (false)) else some (false)):Option Bool).bind fun v12=>(bif v12 then (bif Nat.ble ((v3.length+[v2].length)*8) 140737488355328 then ((p8 a0.classes v2).bind fun x22=>aG5 N a0 n11 x22.super (v3++[v2])) else none) else some (v3)))

def aT4 (N:Nat) (a0:Wd) (a1:Int):Option (List Int) :=
  ((aG5 N a0 N a1 ([]:List Int)).bind fun v6=>some v6)

def aC7 (N:Nat) (a0:Wd) (r1:(List Int)):List Int→Nat→Int→Option (Int)
  |[],k4,v5=>some (v5)
  |x13::rest10,k4,v5=>((p8 r1 (k4:Int)).bind fun x16=>((p8 a0.classes x16).bind fun x18=>aC7 N a0 r1 rest10 (k4+1) (wr (v5+x18.slots))))

def Y0 (N:Nat) (a0:Wd) (a1:Int):Option Int :=
  ((aT4 N a0 a1).bind fun r1=>((aC7 N a0 r1 r1 0 (0:Int)).bind fun v7=>some v7))

def J3 (N:Nat) (a0:Wd) (a1:Int) (a2:Me) (a3:Ins):Option Int :=
  (((((bif decide (a3.op=(1:Int)) then some (decide (a3.op=(1:Int))) else (((bif decide (a3.op=(6:Int)) then some (decide (a3.op=(6:Int))) else (((bif decide (a3.op=(7:Int)) then some (decide (a3.op=(7:Int))) else (((bif decide (a3.op=(8:Int)) then some (decide (a3.op=(8:Int))) else (((bif decide (a3.op=(9:Int)) then some (decide (a3.op=(9:Int))) else (((bif decide (a3.op=(10:Int)) then some (decide (a3.op=(10:Int))) else some (decide (a3.op=(17:Int)))):Option Bool).bind fun v25=>some (v25))):Option Bool).bind fun v21=>some (v21))):Option Bool).bind fun v17=>some (v17))):Option Bool).bind fun v13=>some (v13))):Option Bool).bind fun v9=>some (v9))):Option Bool).bind fun v5=>(((bif v5 then some (.next ((0:Int),(0:Int))) else (((bif decide (a3.op=(2:Int)) then some (.next ((0:Int),(wr (a2.args - (1:Int))))) else (((bif decide (a3.op=(3:Int)) then some (decide (a3.op=(3:Int))) else some (decide (a3.op=(11:Int)))):Option Bool).bind fun v39=>(((bif v39 then some (.next ((0:Int),(wr (a2.temps - (1:Int))))) else (((bif decide (a3.op=(4:Int)) then some (decide (a3.op=(4:Int))) else some (decide (a3.op=(12:Int)))):Option Bool).bind fun v48=>(((bif v48 then ((Y0 N a0 a1).bind fun r57=>some (.next ((0:Int),(wr (r57 - (1:Int)))))) else (((bif decide (a3.op=(5:Int)) then some (.next ((-1073741824:Int),(1073741824:Int))) else (((bif decide (a3.op=(13:Int)) then (((bif decide ((0:Int) < a3.a) then some (decide (a3.a < (4:Int))) else some (false)):Option Bool).bind fun v69=>(bif v69 then some (.ret (3:Int)) else some (.next (wr ((a0.classes.length:Int) - (1:Int)))))) else (((bif decide (a3.op=(14:Int)) then some (.next (4:Int)) else (((bif decide (a3.op=(15:Int)) then some (decide (a3.op=(15:Int))) else some (decide (a3.op=(16:Int)))):Option Bool).bind fun v78=>(bif v78 then some (.next (wr ((a2.code.length:Int) - (1:Int)))) else some (.ret (1:Int))))):Option (D7 Int Int)).bind fun o=>match o with|.ret r=>some (.ret r)|.next v74=>some (.next v74))):Option (D7 Int Int)).bind fun o=>match o with|.ret r=>some (.ret r)|.next v64=>some (.next ((0:Int),v64)))):Option (D7 Int (Int×Int))).bind fun o=>match o with|.ret r=>some (.ret r)|.next (v59,v60)=>some (.next (v59,v60)))):Option (D7 Int (Int×Int))).bind fun o=>match o with|.ret r=>some (.ret r)|.next (v52,v53)=>some (.next (v52,v53))))):Option (D7 Int (Int×Int))).bind fun o=>match o with|.ret r=>some (.ret r)|.next (v43,v44)=>some (.next (v43,v44))))):Option (D7 Int (Int×Int))).bind fun o=>match o with|.ret r=>some (.ret r)|.next (v34,v35)=>some (.next (v34,v35)))):Option (D7 Int (Int×Int))).bind fun o=>match o with|.ret r=>some (.ret r)|.next (v29,v30)=>some (.next (v29,v30)))):Option (D7 Int (Int×Int))).bind fun o=>match o with|.ret r=>some r|.next (v1,v2)=>(((bif decide (a3.a < v1) then some (true) else some (decide (v2 < a3.a))):Option Bool).bind fun v84=>(bif v84 then some (3:Int) else (((bif decide (a3.op=(14:Int)) then ((aE6 N a3.name).bind fun r93=>(bif (!r93) then some (true) else (bif (!decide (a3.op=(14:Int))) then (bif (!decide (a3.name=(⟨#[]⟩:ByteArray))) then some (true) else (bif (!decide (a3.b=(0:Int))) then some (true) else some ((!decide (a3.c=(0:Int)))))) else (bif (!decide (a3.b=(0:Int))) then some (true) else some ((!decide (a3.c=(0:Int)))))))) else (bif (!decide (a3.op=(14:Int))) then (bif (!decide (a3.name=(⟨#[]⟩:ByteArray))) then some (true) else (bif (!decide (a3.b=(0:Int))) then some (true) else some ((!decide (a3.c=(0:Int)))))) else (bif (!decide (a3.b=(0:Int))) then some (true) else some ((!decide (a3.c=(0:Int))))))):Option Bool).bind fun v89=>(bif v89 then some (2:Int) else some (0:Int))))))

def aV8 (N:Nat) (a0:Ins) (a1:Int):Option (Int×Int×(List Int)) :=
  (((bif decide (a0.op=(9:Int)) then some (decide (a0.op=(9:Int))) else (((bif decide (a0.op=(11:Int)) then some (decide (a0.op=(11:Int))) else some (decide (a0.op=(12:Int)))):Option Bool).bind fun v5=>some (v5))):Option Bool).bind fun v1=>(bif v1 then some ((1:Int),(-1:Int),[(wr (a1+(1:Int)))]) else (bif decide (a0.op=(10:Int)) then some ((1:Int),(1:Int),[(wr (a1+(1:Int)))]) else (bif decide (a0.op=(14:Int)) then (bif decide (D6 (-a0.a)) then some ((wr (a0.a+(1:Int))),(-a0.a),[(wr (a1+(1:Int)))]) else none) else (bif decide (a0.op=(15:Int)) then some ((0:Int),(0:Int),[a0.a]) else (bif decide (a0.op=(16:Int)) then some ((1:Int),(-1:Int),[(wr (a1+(1:Int))),a0.a]) else (bif decide (a0.op=(17:Int)) then some ((1:Int),(-1:Int),([]:List Int)) else some ((0:Int),(1:Int),[(wr (a1+(1:Int)))]))))))))

def U7 (N:Nat):Nat→Nat→(List Int)→Option ((List Int))
  |0,k4,v5=>some (v5)
  |n12+1,k4,v5=>((p8 v5 (k4:Int)).bind fun x16=>U7 N n12 (k4+1) (v5.set ((k4:Int).toNat) (-1:Int)))

def U4 (N:Nat) (x42:Int) (r61:(Int×Int×(List Int))):List Int→Nat→(List Int)→(List Int)→Option (((List Int)×(List Int)))
  |[],k73,v74,v75=>some ((v74,v75))
  |x85::rest82,k73,v74,v75=>((p8 r61.2.2 (k73:Int)).bind fun x88=>(bif Nat.ble ((v74.length+[x88].length)*8) 140737488355328 then (bif Nat.ble ((v75.length+[(wr (x42+r61.2.1))].length)*8) 140737488355328 then U4 N x42 r61 rest82 (k73+1) (v74++[x88]) (v75++[(wr (x42+r61.2.1))]) else none) else none))

def U6 (N:Nat) (a0:Me):Nat→(List Int)→(List Int)→(List Int)→Int→Option (D7 ((List Int)×O9) (List Int))
  |0,_,_,_,_=>none
  |n32+1,v19,v20,v21,v22=>(bif decide (v22 < (v20.length:Int)) then ((((p8 v20 v22).bind fun x40=>((p8 v21 v22).bind fun x42=>(((bif decide ((a0.code.length:Int)≤x40) then some (true) else some (decide (x40 < (0:Int)))):Option Bool).bind fun v44=>(bif v44 then some (.ret (([]:List Int),(⟨(9:Int),(a0.code.length:Int)⟩:O9))) else ((p8 v19 x40).bind fun x51=>(bif decide ((0:Int)≤x51) then ((p8 v19 x40).bind fun x54=>(bif (!decide (x54=x42)) then some (.ret (([]:List Int),(⟨(8:Int),x40⟩:O9))) else some (.next (v19,v20,v21)))) else ((p8 v19 x40).bind fun x57=>((p8 a0.code x40).bind fun x59=>((aV8 N x59 x40).bind fun r61=>(((bif decide (x42 < r61.1) then some (true) else ((p8 a0.code x40).bind fun x67=>(bif decide (x67.op=(17:Int)) then some ((!decide (x42=(1:Int)))) else some (false)))):Option Bool).bind fun v63=>(bif v63 then some (.ret (([]:List Int),(⟨(8:Int),x40⟩:O9))) else (bif decide ((12:Int) < (wr (x42+r61.2.1))) then some (.ret (([]:List Int),(⟨(4:Int),x40⟩:O9))) else ((U4 N x42 r61 r61.2.2 0 v20 v21).bind fun (v78,v79)=>some (.next ((v19.set x40.toNat x42),v78,v79))))))))))))))):Option (D7 ((List Int)×O9) ((List Int)×(List Int)×(List Int)))).bind fun o=>match o with|.ret r=>some (.ret r)|.next (v35,v36,v37)=>U6 N a0 n32 v35 v36 v37 (wr (v22+(1:Int)))) else some (.next v19))

def aI8 (N:Nat) (a0:Me):Option ((List Int)×O9) :=
  (bif (decide (0≤(a0.code.length:Int)) && decide ((a0.code.length:Int)≤140737488355328) && decide ((a0.code.length:Int)*8≤140737488355328)) then ((U7 N ((((List.replicate (a0.code.length:Int).toNat (0:Int)).length:Int) - ((0:Nat):Int)).toNat) 0 (List.replicate (a0.code.length:Int).toNat (0:Int))).bind fun v7=>((U6 N a0 N v7 [(0:Int)] [(0:Int)] (0:Int)).bind fun o=>match o with|.ret r=>some r|.next v27=>some (v27,(⟨(0:Int),(0:Int)⟩:O9)))) else none)

def N7 (N:Nat) (a0:Wd) (a1:Int) (a2:Me):List Ins→Nat→Option (D7 O9 Unit)
  |[],k26=>some (.next ())
  |x32::rest29,k26=>((J3 N a0 a1 a2 x32).bind fun r35=>(bif (!decide (r35=(0:Int))) then some (.ret (⟨r35,(k26:Int)⟩:O9)) else N7 N a0 a1 a2 rest29 (k26+1)))

def Y2 (N:Nat) (a0:Wd) (a1:Int) (a2:Me):Option O9 :=
  (((bif decide (a1 < (0:Int)) then some (true) else some (decide ((a0.classes.length:Int)≤a1))):Option Bool).bind fun v1=>(bif v1 then some (⟨(6:Int),(0:Int)⟩:O9) else ((aE6 N a2.name).bind fun r7=>(bif (!r7) then some (⟨(7:Int),(0:Int)⟩:O9) else (((bif decide (a2.args < (0:Int)) then some (true) else (bif decide ((4:Int) < a2.args) then some (true) else (bif decide (a2.temps < (0:Int)) then some (true) else some (decide ((6:Int) < a2.temps))))):Option Bool).bind fun v10=>(bif v10 then some (⟨(3:Int),(0:Int)⟩:O9) else (bif (!decide (a2.prim=(0:Int))) then some (⟨(1:Int),(0:Int)⟩:O9) else (((bif decide ((a2.code.length:Int)=(0:Int)) then some (true) else some (decide ((60:Int) < (a2.code.length:Int)))):Option Bool).bind fun v18=>(bif v18 then some (⟨(5:Int),(0:Int)⟩:O9) else ((N7 N a0 a1 a2 a2.code 0).bind fun o=>match o with|.ret r=>some r|.next ()=>((aI8 N a2).bind fun r38=>some r38.2)))))))))))

def aJ9 (N:Nat) (a0:V) (a1:Int):Option Int :=
  (((bif decide (a0.k < (0:Int)) then some (true) else some (decide ((4:Int) < a0.k))):Option Bool).bind fun v1=>(bif v1 then some (1:Int) else (((bif decide (a0.k < (3:Int)) then some ((!decide (a0.n=(0:Int)))) else some (false)):Option Bool).bind fun v6=>(bif v6 then some (2:Int) else (((bif decide (a0.k=(3:Int)) then (bif decide (a0.n < (-1073741824:Int)) then some (true) else some (decide ((1073741824:Int) < a0.n))) else some (false)):Option Bool).bind fun v11=>(bif v11 then some (3:Int) else (((bif decide (a0.k=(4:Int)) then (bif decide (a0.n < (0:Int)) then some (true) else some (decide (a1≤a0.n))) else some (false)):Option Bool).bind fun v17=>(bif v17 then some (6:Int) else some (0:Int)))))))))

def aA1 (N:Nat) (x24:Cl):List Cl→Nat→Option (D7 Int Unit)
  |[],k39=>some (.next ())
  |x45::rest42,k39=>(bif decide (x45.name=x24.name) then some (.ret (7:Int)) else aA1 N x24 rest42 (k39+1))

def X0 (N:Nat) (a0:Wd) (r1:Wd):List Cl→Nat→Option (D7 Int Unit)
  |[],k18=>some (.next ())
  |x24::rest21,k18=>((((aE6 N x24.name).bind fun r30=>(bif (!r30) then some (true) else (bif decide ((k18:Int) < (4:Int)) then ((p8 r1.classes (k18:Int)).bind fun x34=>some ((!decide (x24.name=x34.name)))) else some (false)))):Option Bool).bind fun v27=>(bif v27 then some (.ret (7:Int)) else (bif (decide (0≤(k18:Int)) && decide ((k18:Int)≤(a0.classes.length:Int))) then ((aA1 N x24 (a0.classes.take (k18:Int).toNat) 0).bind fun o=>match o with|.ret r=>some (.ret r)|.next ()=>(((bif decide ((k18:Int) < (4:Int)) then ((p8 r1.classes (k18:Int)).bind fun x53=>(bif (!decide (x24.super=x53.super)) then some (.ret (3:Int)) else some (.next (0:Int)))) else (((bif decide (x24.super < (0:Int)) then some (true) else (bif decide ((k18:Int)≤x24.super) then some (true) else (bif decide ((0:Int) < x24.super) then some (decide (x24.super < (4:Int))) else some (false)))):Option Bool).bind fun v56=>(bif v56 then some (.ret (3:Int)) else some (.next (6:Int))))):Option (D7 Int Int)).bind fun o=>match o with|.ret r=>some (.ret r)|.next v49=>(((bif decide (x24.slots < (0:Int)) then some (true) else some (decide (v49 < x24.slots))):Option Bool).bind fun v63=>(bif v63 then some (.ret (3:Int)) else X0 N a0 r1 rest21 (k18+1))))) else none)))

def aA3 (N:Nat) (k69:Nat) (x90:Me):List Me→Nat→Bool→Option (Bool)
  |[],k103,v104=>some (v104)
  |x112::rest109,k103,v104=>(((((bif v104 then some (true) else (bif decide ((k69:Int)=(3:Int)) then (bif decide (x112.name=x90.name) then (bif decide (x112.prim=x90.prim) then (bif decide (x90.args=(1:Int)) then (bif decide (x90.temps=(0:Int)) then some (decide ((x90.code.length:Int)=(0:Int))) else some (false)) else some (false)) else some (false)) else some (false)) else some (false))):Option Bool).bind fun v118=>some (v118)):Option Bool).bind fun v115=>aA3 N k69 x90 rest109 (k103+1) v115)

def V8 (N:Nat) (a0:Wd) (r1:Wd) (k69:Nat) (x75:Cl):List Me→Nat→Option (D7 Int Unit)
  |[],k84=>some (.next ())
  |x90::rest87,k84=>(((bif decide ((0:Int) < (k84:Int)) then ((p8 x75.methods (wr ((k84:Int) - (1:Int)))).bind fun x97=>some ((!ltS x97.name x90.name))) else some (false)):Option Bool).bind fun v93=>(bif v93 then some (.ret (7:Int)) else ((p8 r1.classes (3:Int)).bind fun x100=>((aA3 N k69 x90 x100.methods 0 false).bind fun v106=>((Y2 N a0 (k69:Int) x90).bind fun r128=>(((bif (!v106) then some ((!decide (r128.err=(0:Int)))) else some (false)):Option Bool).bind fun v130=>(bif v130 then some (.ret r128.err) else V8 N a0 r1 k69 x75 rest87 (k84+1))))))))

def aC5 (N:Nat) (a0:Wd) (r1:Wd):List Cl→Nat→Option (D7 Int Unit)
  |[],k69=>some (.next ())
  |x75::rest72,k69=>((Y0 N a0 (k69:Int)).bind fun r78=>(bif decide ((6:Int) < r78) then some (.ret (3:Int)) else (bif decide ((8:Int) < (x75.methods.length:Int)) then some (.ret (5:Int)) else ((V8 N a0 r1 k69 x75 x75.methods 0).bind fun o=>match o with|.ret r=>some (.ret r)|.next ()=>aC5 N a0 r1 rest72 (k69+1)))))

def aA4 (N:Nat) (a0:Wd):List V→Nat→Option (D7 Int Unit)
  |[],k163=>some (.next ())
  |x169::rest166,k163=>((aJ9 N x169 (a0.heap.length:Int)).bind fun r173=>(bif (!decide (r173=(0:Int))) then some (.ret r173) else aA4 N a0 rest166 (k163+1)))

def Z9 (N:Nat) (a0:Wd):List Ob→Nat→Option (D7 Int Unit)
  |[],k136=>some (.next ())
  |x142::rest139,k136=>(((bif decide (x142.cls < (0:Int)) then some (true) else (bif decide ((0:Int) < x142.cls) then (bif decide (x142.cls < (4:Int)) then some (true) else (bif decide ((a0.classes.length:Int)≤x142.cls) then some (true) else ((Y0 N a0 x142.cls).bind fun r154=>some ((!decide ((x142.slots.length:Int)=r154)))))) else (bif decide ((a0.classes.length:Int)≤x142.cls) then some (true) else ((Y0 N a0 x142.cls).bind fun r159=>some ((!decide ((x142.slots.length:Int)=r159))))))):Option Bool).bind fun v145=>(bif v145 then some (.ret (8:Int)) else ((aA4 N a0 x142.slots 0).bind fun o=>match o with|.ret r=>some (.ret r)|.next ()=>Z9 N a0 rest139 (k136+1))))

def aT1 (N:Nat) (a0:Wd):Option Int :=
  ((bF1 N).bind fun r1=>(((bif decide ((a0.classes.length:Int) < (4:Int)) then some (true) else (bif decide ((12:Int) < (a0.classes.length:Int)) then some (true) else some (decide ((60:Int) < (a0.heap.length:Int))))):Option Bool).bind fun v3=>(bif v3 then some (5:Int) else (((bif decide (a0.epoch < (0:Int)) then some (true) else some (decide ((1073741824:Int) < a0.epoch))):Option Bool).bind fun v12=>(bif v12 then some (3:Int) else ((X0 N a0 r1 a0.classes 0).bind fun o=>match o with|.ret r=>some r|.next ()=>((aC5 N a0 r1 a0.classes 0).bind fun o=>match o with|.ret r=>some r|.next ()=>((Z9 N a0 a0.heap 0).bind fun o=>match o with|.ret r=>some r|.next ()=>some (0:Int)))))))))

def aG3 (N:Nat) (a0:ByteArray):Nat→Nat→Option (D7 Bool Unit)
  |0,k9=>some (.next ())
  |n14+1,k9=>((((byO a0 (k9:Int)).bind fun u21=>(bif decide ((u21.toNat:Int)≤(32:Int)) then some (true) else ((byO a0 (k9:Int)).bind fun u24=>some (decide ((126:Int) < (u24.toNat:Int)))))):Option Bool).bind fun v18=>(bif v18 then some (.ret false) else aG3 N a0 n14 (k9+1)))

def a03 (N:Nat) (a0:ByteArray):Option Bool :=
  (((bif decide ((a0.size:Int) < (1:Int)) then some (true) else some (decide ((12:Int) < (a0.size:Int)))):Option Bool).bind fun v1=>(bif v1 then some false else ((aG3 N a0 (((a0.size:Int) - ((0:Nat):Int)).toNat) 0).bind fun o=>match o with|.ret r=>some r|.next ()=>some true)))

def aV6 (N:Nat) (a0:V) (a1:Int):Option Int :=
  (((((bif decide (a0.k=(0:Int)) then some (decide (a0.k=(0:Int))) else (((bif decide (a0.k=(1:Int)) then some (decide (a0.k=(1:Int))) else some (decide (a0.k=(2:Int)))):Option Bool).bind fun v7=>some (v7))):Option Bool).bind fun v3=>(((bif v3 then (bif (!decide (a0.n=(0:Int))) then some (.ret (2:Int)) else some (.next ())) else (((bif decide (a0.k=(3:Int)) then (((bif decide (a0.n < (-1073741824:Int)) then some (true) else some (decide ((1073741824:Int) < a0.n))):Option Bool).bind fun v18=>(bif v18 then some (.ret (3:Int)) else some (.next ()))) else (bif decide (a0.k=(4:Int)) then (((bif decide (a0.n < (0:Int)) then some (true) else some (decide (a1≤a0.n))):Option Bool).bind fun v24=>(bif v24 then some (.ret (6:Int)) else some (.next ()))) else some (.ret (1:Int)))):Option (D7 Int Unit)).bind fun o=>match o with|.ret r=>some (.ret r)|.next ()=>some (.next ()))):Option (D7 Int Unit)).bind fun o=>match o with|.ret r=>some (.ret r)|.next ()=>some (.next ()))):Option (D7 Int Unit)).bind fun o=>match o with|.ret r=>some r|.next ()=>some (0:Int))

def aK5 (N:Nat) (a0:Wd) (a1:O6):List V→Nat→Option (D7 Int Unit)
  |[],k13=>some (.next ())
  |x19::rest16,k13=>((p8 ([a1.self_]++a1.args) (k13:Int)).bind fun x22=>((aV6 N x22 (a0.heap.length:Int)).bind fun r25=>(bif (!decide (r25=(0:Int))) then some (.ret r25) else aK5 N a0 a1 rest16 (k13+1))))

def bC6 (N:Nat) (a0:Wd) (a1:O6) (a2:Int):Option Int :=
  ((a03 N a1.name).bind fun r1=>(bif (!r1) then some (7:Int) else (bif decide ((4:Int) < (a1.args.length:Int)) then some (5:Int) else (((bif decide (a2 < (0:Int)) then some (true) else some (decide ((400:Int) < a2))):Option Bool).bind fun v6=>(bif v6 then some (3:Int) else (bif Nat.ble (([a1.self_].length+a1.args.length)*16) 140737488355328 then ((aK5 N a0 a1 ([a1.self_]++a1.args) 0).bind fun o=>match o with|.ret r=>some r|.next ()=>some (0:Int)) else none))))))

def aI9 (N:Nat) (a0:List V):Option (List V):=bif Nat.ble (a0.length*16) 140737488355328 then some a0 else none

def aF3 (N:Nat):List Ob→Nat→(List Ob)→Option ((List Ob))
  |[],k2,v3=>some (v3)
  |x11::rest8,k2,v3=>((aI9 N x11.slots).bind fun r14=>(bif Nat.ble ((v3.length+[(⟨x11.cls,r14⟩:Ob)].length)*32) 140737488355328 then aF3 N rest8 (k2+1) (v3++[(⟨x11.cls,r14⟩:Ob)]) else none))

def aY4 (N:Nat) (a0:(List Ob)):Option (List Ob) :=
  ((aF3 N a0 0 ([]:List Ob)).bind fun v5=>some v5)

def aO9 (N:Nat) (a0:List Ins):Option (List Ins):=bif Nat.ble (a0.length*48) 140737488355328 then some a0 else none

def aS3 (N:Nat) (a0:Me):Option Me :=
  ((aO9 N a0.code).bind fun r1=>some (⟨a0.name,a0.args,a0.temps,a0.prim,r1⟩:Me))

def aF2 (N:Nat):List Me→Nat→(List Me)→Option ((List Me))
  |[],k17,v18=>some (v18)
  |x26::rest23,k17,v18=>((aS3 N x26).bind fun r29=>(bif Nat.ble ((v18.length+[r29].length)*64) 140737488355328 then aF2 N rest23 (k17+1) (v18++[r29]) else none))

def aF5 (N:Nat):List Cl→Nat→(List Cl)→Option ((List Cl))
  |[],k4,v5=>some (v5)
  |x13::rest10,k4,v5=>((aF2 N x13.methods 0 ([]:List Me)).bind fun v20=>(bif Nat.ble ((v5.length+[(⟨x13.name,x13.super,x13.slots,v20⟩:Cl)].length)*56) 140737488355328 then aF5 N rest10 (k4+1) (v5++[(⟨x13.name,x13.super,x13.slots,v20⟩:Cl)]) else none))

def aO3 (N:Nat) (a0:Wd):Option Wd :=
  ((aY4 N a0.heap).bind fun r1=>((aF5 N a0.classes 0 ([]:List Cl)).bind fun v7=>some (⟨v7,r1,a0.epoch⟩:Wd)))

def aM6 (N:Nat) (a0:(List Ob)) (a1:V):Option Int :=
  (bif decide (a1.k=(0:Int)) then some (1:Int) else (((bif decide (a1.k=(1:Int)) then some (decide (a1.k=(1:Int))) else some (decide (a1.k=(2:Int)))):Option Bool).bind fun v2=>(bif v2 then some (2:Int) else (bif decide (a1.k=(3:Int)) then some (3:Int) else (((bif decide (a1.k=(4:Int)) then (bif decide ((0:Int)≤a1.n) then some (decide (a1.n < (a0.length:Int))) else some (false)) else some (false)):Option Bool).bind fun v8=>(bif v8 then ((p8 a0 a1.n).bind fun x15=>some x15.cls) else some (0:Int)))))))

def y8 (N:Nat) (a0:(List Me)) (a1:ByteArray) (g2:(Me→ByteArray→Option Int)):Nat→Int→Int→Option (Int)
  |0,_,_=>none
  |n12+1,v3,v4=>(bif decide (v3 < v4) then (((bif decide (0≤(wr (v3+v4))) then (bif decide (D6 ((wr (v3+v4)) / 2)) then ((p8 a0 ((wr (v3+v4)) / 2)).bind fun x20=>((g2 x20 a1).bind fun r22=>(((bif decide (r22 < (0:Int)) then some (((wr (((wr (v3+v4)) / 2)+(1:Int))),v4)) else some ((v3,((wr (v3+v4)) / 2)))):Option (Int×Int)).bind fun (v24,v25)=>some ((v24,v25))))) else none) else none):Option (Int×Int)).bind fun (v14,v15)=>y8 N a0 a1 g2 n12 v14 v15) else some (v3))

def F7 (N:Nat) (a0:(List Me)) (a1:ByteArray) (g2:Me→ByteArray→Option Int):Option (Int×Bool) :=
  ((y8 N a0 a1 g2 N (0:Int) (a0.length:Int)).bind fun v7=>(((bif decide (v7 < (a0.length:Int)) then ((p8 a0 v7).bind fun x33=>((g2 x33 a1).bind fun r35=>some (decide (r35=(0:Int))))) else some (false)):Option Bool).bind fun v29=>some (v7,v29)))

def cmp_isNaN_string (N:Nat) (a0:ByteArray):Option Bool :=
  some (!decide (a0=a0))

def aL5 (N:Nat) (a0:ByteArray) (a1:ByteArray):Option Int :=
  ((cmp_isNaN_string N a0).bind fun r1=>((cmp_isNaN_string N a1).bind fun r3=>(bif r1 then (bif r3 then some (0:Int) else some (-1:Int)) else (bif r3 then some (1:Int) else (bif (ltS a0 a1) then some (-1:Int) else (bif (!(ltS a0 a1 || decide (a0=a1))) then some (1:Int) else some (0:Int)))))))

def aE9 (N:Nat) (a0:Me) (a1:ByteArray):Option Int :=
  ((aL5 N a0.name a1).bind fun r1=>some r1)

def aD1 (N:Nat) (a0:Wd) (a2:ByteArray):Nat→Int→Int→Option (D7 (Int×Int) Unit)
  |0,_,_=>none
  |n10+1,v2,v3=>(((bif decide ((0:Int)≤v2) then (bif decide (v2 < (a0.classes.length:Int)) then some (decide (v3≤(a0.classes.length:Int))) else some (false)) else some (false)):Option Bool).bind fun v11=>(bif v11 then ((p8 a0.classes v2).bind fun x19=>((F7 N x19.methods a2 (fun x0_ x1_=>aE9 N x0_ x1_)).bind fun r21=>(bif r21.2 then some (.ret (v2,r21.1)) else ((p8 a0.classes v2).bind fun x24=>aD1 N a0 a2 n10 x24.super (wr (v3+(1:Int))))))) else some (.next ())))

def aI1 (N:Nat) (a0:Wd) (a1:Int) (a2:ByteArray):Option (Int×Int) :=
  ((aD1 N a0 a2 N a1 (0:Int)).bind fun o=>match o with|.ret r=>some r|.next ()=>some ((-1:Int),(-1:Int)))

def K5 (N:Nat) (a0:l9) (a1:Int):Option l9 :=
  (((bif decide (a0.err=(0:Int)) then some (a1) else some (a0.err)):Option Int).bind fun v1=>some (⟨(⟨a0.w.classes,a0.w.heap,a0.w.epoch⟩:Wd),a0.fuel,a0.sends,a0.turns,a0.frames,a0.back,v1⟩:l9))

def Z6 (N:Nat) (a0:l9) (a1:Bool):Option (Bool×l9) :=
  (((((bif decide (a0.fuel≤a0.sends) then ((K5 N (⟨(⟨a0.w.classes,a0.w.heap,a0.w.epoch⟩:Wd),a0.fuel,a0.sends,a0.turns,a0.frames,a0.back,a0.err⟩:l9) (13:Int)).bind fun r18=>some (.next (r18.fuel,r18.sends,r18.turns,r18.back.k,r18.back.n,r18.err))) else (((bif a1 then some (decide ((20:Int)≤(a0.frames.length:Int))) else some (false)):Option Bool).bind fun v20=>(bif v20 then ((K5 N (⟨(⟨a0.w.classes,a0.w.heap,a0.w.epoch⟩:Wd),a0.fuel,a0.sends,a0.turns,a0.frames,a0.back,a0.err⟩:l9) (14:Int)).bind fun r26=>some (.next (r26.fuel,r26.sends,r26.turns,r26.back.k,r26.back.n,r26.err))) else some (.ret (true,(⟨(⟨a0.w.classes,a0.w.heap,a0.w.epoch⟩:Wd),a0.fuel,(wr (a0.sends+(1:Int))),a0.turns,a0.frames,a0.back,a0.err⟩:l9)))))):Option (D7 (Bool×l9) (Int×Int×Int×Int×Int×Int))).bind fun o=>match o with|.ret r=>some (.ret r)|.next (v9,v10,v11,v12,v13,v14)=>some (.next (v9,v10,v11,v12,v13,v14))):Option (D7 (Bool×l9) (Int×Int×Int×Int×Int×Int))).bind fun o=>match o with|.ret r=>some r|.next (v1,v2,v3,v4,v5,v6)=>some (false,(⟨(⟨a0.w.classes,a0.w.heap,a0.w.epoch⟩:Wd),v1,v2,v3,a0.frames,(⟨v4,v5⟩:V),v6⟩:l9)))

def aJ3 (N:Nat) (a0:Int):Option V :=
  (bif (decide ((1073741825:Int)≠0) && decide (D6 (a0.tmod (1073741825:Int)))) then some (⟨(3:Int),(a0.tmod (1073741825:Int))⟩:V) else none)

def aU3 (N:Nat) (a0:Bool):Option V :=
  (bif a0 then some (⟨(2:Int),(0:Int)⟩:V) else some (⟨(1:Int),(0:Int)⟩:V))

def a05 (N:Nat) (a0:Int) (a1:V) (a2:V):Option (V×Int) :=
  (((bif (!decide (a1.k=(3:Int))) then some (true) else some ((!decide (a2.k=(3:Int))))):Option Bool).bind fun v1=>(bif v1 then some ((⟨(0:Int),(0:Int)⟩:V),(12:Int)) else (bif decide (a0=(1:Int)) then ((aJ3 N (wr (a1.n+a2.n))).bind fun r7=>some (r7,(0:Int))) else (bif decide (a0=(2:Int)) then ((aJ3 N (wr (a1.n - a2.n))).bind fun r10=>some (r10,(0:Int))) else (bif decide (a0=(3:Int)) then ((aJ3 N (wr (a1.n*a2.n))).bind fun r13=>some (r13,(0:Int))) else (bif decide (a0=(4:Int)) then ((aU3 N (decide (a1.n < a2.n))).bind fun r16=>some (r16,(0:Int))) else (bif decide (a0=(5:Int)) then ((aU3 N (decide (a1.n=a2.n))).bind fun r19=>some (r19,(0:Int))) else some ((⟨(0:Int),(0:Int)⟩:V),(1:Int)))))))))

def aB2 (N:Nat) (a0:l9) (a1:V):Option l9 :=
  (bif decide ((a0.frames.length:Int)=(0:Int)) then some (⟨(⟨a0.w.classes,a0.w.heap,a0.w.epoch⟩:Wd),a0.fuel,a0.sends,a0.turns,a0.frames,a1,a0.err⟩:l9) else ((p8 a0.frames (wr ((a0.frames.length:Int) - (1:Int)))).bind fun x4=>(bif Nat.ble ((x4.stack.length+[a1].length)*16) 140737488355328 then some (⟨(⟨a0.w.classes,a0.w.heap,a0.w.epoch⟩:Wd),a0.fuel,a0.sends,a0.turns,(a0.frames.set ((wr ((a0.frames.length:Int) - (1:Int))).toNat) (⟨x4.class_,x4.method,x4.fast,x4.code,x4.self_,x4.args,x4.temps,(x4.stack++[a1]),x4.at_⟩:l6)),a0.back,a0.err⟩:l9) else none)))

def aC9 (N:Nat) (a0:l9) (gq:Int→Int→Option (Fs×Bool)) (a1:Int) (a2:Int) (a3:V) (a4:(List V)):Option l9 :=
  ((p8 a0.w.classes a1).bind fun x1=>((p8 x1.methods a2).bind fun x3=>(bif (!decide (x3.args=(a4.length:Int))) then ((K5 N (⟨(⟨a0.w.classes,a0.w.heap,a0.w.epoch⟩:Wd),a0.fuel,a0.sends,a0.turns,a0.frames,a0.back,a0.err⟩:l9) (8:Int)).bind fun r7=>some (⟨(⟨a0.w.classes,a0.w.heap,a0.w.epoch⟩:Wd),r7.fuel,r7.sends,r7.turns,a0.frames,r7.back,r7.err⟩:l9)) else (bif (!decide (x3.prim=(0:Int))) then ((Z6 N (⟨(⟨a0.w.classes,a0.w.heap,a0.w.epoch⟩:Wd),a0.fuel,a0.sends,a0.turns,a0.frames,a0.back,a0.err⟩:l9) false).bind fun r10=>(bif (!r10.1) then some (⟨(⟨a0.w.classes,a0.w.heap,a0.w.epoch⟩:Wd),r10.2.fuel,r10.2.sends,r10.2.turns,a0.frames,r10.2.back,r10.2.err⟩:l9) else ((p8 a4 (0:Int)).bind fun x13=>((a05 N x3.prim a3 x13).bind fun r15=>(bif (!decide (r15.2=(0:Int))) then ((K5 N (⟨(⟨a0.w.classes,a0.w.heap,a0.w.epoch⟩:Wd),r10.2.fuel,r10.2.sends,r10.2.turns,a0.frames,r10.2.back,r10.2.err⟩:l9) r15.2).bind fun r18=>some (⟨(⟨a0.w.classes,a0.w.heap,a0.w.epoch⟩:Wd),r18.fuel,r18.sends,r18.turns,a0.frames,r18.back,r18.err⟩:l9)) else ((aB2 N (⟨(⟨a0.w.classes,a0.w.heap,a0.w.epoch⟩:Wd),r10.2.fuel,r10.2.sends,r10.2.turns,a0.frames,r10.2.back,r10.2.err⟩:l9) r15.1).bind fun r20=>some (⟨(⟨a0.w.classes,a0.w.heap,a0.w.epoch⟩:Wd),r20.fuel,r20.sends,r20.turns,r20.frames,r20.back,r20.err⟩:l9))))))) else ((Z6 N (⟨(⟨a0.w.classes,a0.w.heap,a0.w.epoch⟩:Wd),a0.fuel,a0.sends,a0.turns,a0.frames,a0.back,a0.err⟩:l9) true).bind fun r22=>(bif (!r22.1) then some (⟨(⟨a0.w.classes,a0.w.heap,a0.w.epoch⟩:Wd),r22.2.fuel,r22.2.sends,r22.2.turns,a0.frames,r22.2.back,r22.2.err⟩:l9) else ((aI9 N a4).bind fun r25=>(bif (decide (0≤x3.temps) && decide (x3.temps≤140737488355328) && decide (x3.temps*16≤140737488355328)) then ((gq a1 a2).bind fun r28=>(((bif r28.2 then (bif (decide (0≤r28.1.temps) && decide (r28.1.temps≤140737488355328) && decide (r28.1.temps*16≤140737488355328)) then some ((true,r28.1.code,(List.replicate r28.1.temps.toNat (⟨(0:Int),(0:Int)⟩:V)))) else none) else some ((false,x3.code,(List.replicate x3.temps.toNat (⟨(0:Int),(0:Int)⟩:V))))):Option (Bool×(List Ins)×(List V))).bind fun (v30,v31,v32)=>(bif Nat.ble ((a0.frames.length+[(⟨a1,a2,v30,v31,a3,r25,v32,[],(0:Int)⟩:l6)].length)*144) 140737488355328 then some (⟨(⟨a0.w.classes,a0.w.heap,a0.w.epoch⟩:Wd),r22.2.fuel,r22.2.sends,r22.2.turns,(a0.frames++[(⟨a1,a2,v30,v31,a3,r25,v32,[],(0:Int)⟩:l6)]),r22.2.back,r22.2.err⟩:l9) else none))) else none))))))))

def aJ6 (N:Nat) (a0:l9) (gl:St→Int→ByteArray→Option (Int×Int)) (gq:Int→Int→Option (Fs×Bool)) (a1:Nat) (a2:Ins) (a3:Int):Option l9 :=
  ((a0.frames[a1]?).bind fun x1=>(bif (decide (0≤(wr ((x1.stack.length:Int) - a2.a))) && decide ((wr ((x1.stack.length:Int) - a2.a))≤(x1.stack.length:Int))) then ((aI9 N (x1.stack.drop ((wr ((x1.stack.length:Int) - a2.a)).toNat))).bind fun r5=>((p8 x1.stack (wr ((wr ((x1.stack.length:Int) - a2.a)) - (1:Int)))).bind fun x7=>((p8 a0.w.classes x1.class_).bind fun x9=>((p8 x9.methods x1.method).bind fun x11=>(((bif x1.fast then some (a2.c) else some (a3)):Option Int).bind fun v13=>((aM6 N a0.w.heap x7).bind fun r17=>((gl (⟨x1.class_,x11.name,v13⟩:St) r17 a2.name).bind fun r19=>(bif decide (r19.2 < (0:Int)) then ((K5 N (⟨(⟨a0.w.classes,a0.w.heap,a0.w.epoch⟩:Wd),a0.fuel,a0.sends,a0.turns,a0.frames,a0.back,a0.err⟩:l9) (10:Int)).bind fun r22=>some (⟨(⟨a0.w.classes,a0.w.heap,a0.w.epoch⟩:Wd),r22.fuel,r22.sends,r22.turns,a0.frames,r22.back,r22.err⟩:l9)) else (bif (decide (0≤(wr ((wr ((x1.stack.length:Int) - a2.a)) - (1:Int)))) && decide ((wr ((wr ((x1.stack.length:Int) - a2.a)) - (1:Int)))≤(x1.stack.length:Int))) then ((aC9 N (⟨(⟨a0.w.classes,a0.w.heap,a0.w.epoch⟩:Wd),a0.fuel,a0.sends,a0.turns,(a0.frames.set a1 (⟨x1.class_,x1.method,x1.fast,x1.code,x1.self_,x1.args,x1.temps,(x1.stack.take (wr ((wr ((x1.stack.length:Int) - a2.a)) - (1:Int))).toNat),x1.at_⟩:l6)),a0.back,a0.err⟩:l9) gq r19.1 r19.2 x7 r5).bind fun r25=>some (⟨(⟨a0.w.classes,a0.w.heap,a0.w.epoch⟩:Wd),r25.fuel,r25.sends,r25.turns,r25.frames,r25.back,r25.err⟩:l9)) else none))))))))) else none))

def aE0 (N:Nat) (a0:l9) (a1:Nat) (a2:Int):Option l9 :=
  ((a0.frames[a1]?).bind fun x1=>(((bif decide (a2 < x1.at_) then (((bif decide ((300:Int) < (wr (a0.turns+(1:Int)))) then ((K5 N (⟨(⟨a0.w.classes,a0.w.heap,a0.w.epoch⟩:Wd),a0.fuel,a0.sends,(wr (a0.turns+(1:Int))),a0.frames,a0.back,a0.err⟩:l9) (16:Int)).bind fun r21=>some ((r21.fuel,r21.sends,r21.turns,r21.back.k,r21.back.n,r21.err))) else some ((a0.fuel,a0.sends,(wr (a0.turns+(1:Int))),a0.back.k,a0.back.n,a0.err))):Option (Int×Int×Int×Int×Int×Int)).bind fun (v12,v13,v14,v15,v16,v17)=>some ((v12,v13,v14,v15,v16,v17))) else some ((a0.fuel,a0.sends,a0.turns,a0.back.k,a0.back.n,a0.err))):Option (Int×Int×Int×Int×Int×Int)).bind fun (v3,v4,v5,v6,v7,v8)=>some (⟨(⟨a0.w.classes,a0.w.heap,a0.w.epoch⟩:Wd),v3,v4,v5,(a0.frames.set a1 (⟨x1.class_,x1.method,x1.fast,x1.code,x1.self_,x1.args,x1.temps,x1.stack,a2⟩:l6)),(⟨v6,v7⟩:V),v8⟩:l9)))

def Y5 (N:Nat) (fr:(List l6)) (a0:Nat):Option (V×(List l6)) :=
  ((fr[a0]?).bind fun x1=>((p8 x1.stack (wr ((x1.stack.length:Int) - (1:Int)))).bind fun x4=>(bif (decide (0≤(wr ((x1.stack.length:Int) - (1:Int)))) && decide ((wr ((x1.stack.length:Int) - (1:Int)))≤(x1.stack.length:Int))) then some (x4,(fr.set a0 (⟨x1.class_,x1.method,x1.fast,x1.code,x1.self_,x1.args,x1.temps,(x1.stack.take (wr ((x1.stack.length:Int) - (1:Int))).toNat),x1.at_⟩:l6))) else none)))

def aH0 (N:Nat) (a0:l9) (a1:Nat) (a2:Ins):Option l9 :=
  ((a0.frames[a1]?).bind fun x1=>((p8 x1.stack (wr ((wr ((x1.stack.length:Int) - (1:Int))) - a2.b))).bind fun x4=>((aM6 N a0.w.heap x4).bind fun r6=>(bif decide (r6=a2.a) then some (⟨(⟨a0.w.classes,a0.w.heap,a0.w.epoch⟩:Wd),a0.fuel,a0.sends,a0.turns,a0.frames,a0.back,a0.err⟩:l9) else ((p8 a0.w.classes x1.class_).bind fun x9=>((p8 x9.methods x1.method).bind fun x11=>(bif (decide (0≤x11.temps) && decide (x11.temps≤(x1.temps.length:Int))) then some (⟨(⟨a0.w.classes,a0.w.heap,a0.w.epoch⟩:Wd),a0.fuel,a0.sends,a0.turns,((((a0.frames.set a1 (⟨x1.class_,x1.method,false,x1.code,x1.self_,x1.args,x1.temps,x1.stack,x1.at_⟩:l6)).set a1 (⟨x1.class_,x1.method,false,x11.code,x1.self_,x1.args,x1.temps,x1.stack,x1.at_⟩:l6)).set a1 (⟨x1.class_,x1.method,false,x11.code,x1.self_,x1.args,x1.temps,x1.stack,a2.c⟩:l6)).set a1 (⟨x1.class_,x1.method,false,x11.code,x1.self_,x1.args,(x1.temps.take x11.temps.toNat),x1.stack,a2.c⟩:l6)),a0.back,a0.err⟩:l9) else none)))))))

def L9 (N:Nat) (a0:V) (fr:(List l6)) (b0:Nat):Option (List l6) :=
  ((fr[b0]?).bind fun x1=>(bif Nat.ble ((x1.stack.length+[a0].length)*16) 140737488355328 then some (fr.set b0 (⟨x1.class_,x1.method,x1.fast,x1.code,x1.self_,x1.args,x1.temps,(x1.stack++[a0]),x1.at_⟩:l6)) else none))

def Y6 (N:Nat) (a0:V) (fr:(List l6)) (b0:Nat):Option (List l6) :=
  ((fr[b0]?).bind fun x1=>(bif Nat.ble ((x1.stack.length+[a0].length)*16) 140737488355328 then some (fr.set b0 (⟨x1.class_,x1.method,x1.fast,x1.code,x1.self_,x1.args,x1.temps,(x1.stack++[a0]),x1.at_⟩:l6)) else none))

def aT5 (N:Nat) (a0:(List Ob)) (a1:V) (a2:Int):Option V :=
  (((bif (!decide (a1.k=(4:Int))) then some (true) else (bif decide (a1.n < (0:Int)) then some (true) else (bif decide ((a0.length:Int)≤a1.n) then some (true) else (bif decide (a2 < (0:Int)) then some (true) else ((p8 a0 a1.n).bind fun x9=>some (decide ((x9.slots.length:Int)≤a2))))))):Option Bool).bind fun v1=>(bif v1 then some (⟨(0:Int),(0:Int)⟩:V) else ((p8 a0 a1.n).bind fun x13=>((p8 x13.slots a2).bind fun x15=>some x15))))

def aC6 (N:Nat) (a0:V) (sk:(List V)) (fr:(List l6)) (b0:Nat):Option (List V) :=
  ((fr[b0]?).bind fun x1=>(bif Nat.ble ((sk.length+[a0].length)*16) 140737488355328 then some (sk++[a0]) else none))

def aF6 (N:Nat) (fr:(List l6)) (a0:Nat):Option (V×(List l6)) :=
  ((fr[a0]?).bind fun x1=>((p8 x1.stack (wr ((x1.stack.length:Int) - (1:Int)))).bind fun x4=>(bif (decide (0≤(wr ((x1.stack.length:Int) - (1:Int)))) && decide ((wr ((x1.stack.length:Int) - (1:Int)))≤(x1.stack.length:Int))) then some (x4,(fr.set a0 (⟨x1.class_,x1.method,x1.fast,x1.code,x1.self_,x1.args,x1.temps,(x1.stack.take (wr ((x1.stack.length:Int) - (1:Int))).toNat),x1.at_⟩:l6))) else none)))

def aG0 (N:Nat) (a0:l9) (a1:V) (a2:Int) (a3:V):Option l9 :=
  ((((a0.w.heap[a1.n.toNat]?).elim (bif decide (a1.k=(4:Int)) then (bif decide (a1.n < (a0.w.heap.length:Int)) then none else some (false)) else some (false)) (fun x4=>(bif decide (a1.k=(4:Int)) then (bif decide (a1.n < (a0.w.heap.length:Int)) then ((p8 a0.w.heap a1.n).bind fun x12=>some (decide (a2 < (x4.slots.length:Int)))) else some (false)) else some (false)))):Option Bool).bind fun v1=>(((bif v1 then ((a0.w.heap[a1.n.toNat]?).elim none (fun x19=>((p8 a0.w.heap a1.n).bind fun x21=>((p8 x19.slots a2).bind fun x23=>some ((a0.w.heap.set a1.n.toNat (⟨x19.cls,(x19.slots.set a2.toNat a3)⟩:Ob))))))) else some (a0.w.heap)):Option (List Ob)).bind fun v15=>some (⟨(⟨a0.w.classes,v15,a0.w.epoch⟩:Wd),a0.fuel,a0.sends,a0.turns,a0.frames,a0.back,a0.err⟩:l9)))

def aE4 (N:Nat) (a0:Wd):Nat→Int→Int→Int→Option (Int)
  |0,_,_,_=>none
  |n13+1,v2,v3,v4=>(((bif decide ((0:Int)≤v2) then (bif decide (v2 < (a0.classes.length:Int)) then some (decide (v4≤(a0.classes.length:Int))) else some (false)) else some (false)):Option Bool).bind fun v14=>(bif v14 then ((p8 a0.classes v2).bind fun x22=>((p8 a0.classes v2).bind fun x24=>aE4 N a0 n13 x24.super (wr (v3+x22.slots)) (wr (v4+(1:Int))))) else some (v3)))

def aR0 (N:Nat) (a0:Wd) (a1:Int):Option Int :=
  ((aE4 N a0 N a1 (0:Int) (0:Int)).bind fun v8=>some v8)

def bC8 (N:Nat) (a0:(List Ob)) (a1:Int) (a2:Int):Option ((List Ob)×V×Int) :=
  (bif decide ((60:Int)≤(a0.length:Int)) then some (([]:List Ob),(⟨(0:Int),(0:Int)⟩:V),(15:Int)) else ((aY4 N a0).bind fun r3=>(bif (decide (0≤(max a2 (0:Int))) && decide ((max a2 (0:Int))≤140737488355328) && decide ((max a2 (0:Int))*16≤140737488355328)) then (bif Nat.ble ((r3.length+[(⟨a1,(List.replicate (max a2 (0:Int)).toNat (⟨(0:Int),(0:Int)⟩:V))⟩:Ob)].length)*32) 140737488355328 then some ((r3++[(⟨a1,(List.replicate (max a2 (0:Int)).toNat (⟨(0:Int),(0:Int)⟩:V))⟩:Ob)]),(⟨(4:Int),(a0.length:Int)⟩:V),(0:Int)) else none) else none)))

def aK7 (N:Nat) (a0:l9) (a1:Nat) (a2:Ins):Option l9 :=
  (((((bif decide (a2.op=(1:Int)) then ((a0.frames[a1]?).bind fun x22=>((L9 N x22.self_ a0.frames a1).bind fun r24=>some (.next (a0.w.heap,a0.fuel,a0.sends,a0.turns,r24,a0.back.k,a0.back.n,a0.err)))) else (((bif decide (a2.op=(2:Int)) then ((a0.frames[a1]?).bind fun x37=>((p8 x37.args a2.a).bind fun x39=>((L9 N x39 a0.frames a1).bind fun r41=>some (.next (a0.w.heap,a0.fuel,a0.sends,a0.turns,r41,a0.back.k,a0.back.n,a0.err))))) else (((bif decide (a2.op=(3:Int)) then ((a0.frames[a1]?).bind fun x54=>((p8 x54.temps a2.a).bind fun x56=>((Y6 N x56 a0.frames a1).bind fun r58=>((r58[a1]?).bind fun x60=>some (.next (a0.w.heap,a0.fuel,a0.sends,a0.turns,(r58.set a1 (⟨x60.class_,x60.method,x60.fast,x60.code,x60.self_,x60.args,x54.temps,x60.stack,x60.at_⟩:l6)),a0.back.k,a0.back.n,a0.err)))))) else (((bif decide (a2.op=(4:Int)) then ((a0.frames[a1]?).bind fun x73=>((aT5 N a0.w.heap x73.self_ a2.a).bind fun r75=>((L9 N r75 a0.frames a1).bind fun r77=>some (.next (a0.w.heap,a0.fuel,a0.sends,a0.turns,r77,a0.back.k,a0.back.n,a0.err))))) else (((bif decide (a2.op=(5:Int)) then ((L9 N (⟨(3:Int),a2.a⟩:V) a0.frames a1).bind fun r90=>some (.next (a0.w.heap,a0.fuel,a0.sends,a0.turns,r90,a0.back.k,a0.back.n,a0.err))) else (((bif decide (a2.op=(6:Int)) then ((L9 N (⟨(0:Int),(0:Int)⟩:V) a0.frames a1).bind fun r103=>some (.next (a0.w.heap,a0.fuel,a0.sends,a0.turns,r103,a0.back.k,a0.back.n,a0.err))) else (((bif decide (a2.op=(7:Int)) then some (decide (a2.op=(7:Int))) else some (decide (a2.op=(8:Int)))):Option Bool).bind fun v105=>(((bif v105 then ((aU3 N (decide (a2.op=(8:Int)))).bind fun r120=>((L9 N r120 a0.frames a1).bind fun r122=>some (.next (a0.w.heap,a0.fuel,a0.sends,a0.turns,r122,a0.back.k,a0.back.n,a0.err)))) else (((bif decide (a2.op=(9:Int)) then ((Y5 N a0.frames a1).bind fun r135=>some (.next (a0.w.heap,a0.fuel,a0.sends,a0.turns,r135.2,a0.back.k,a0.back.n,a0.err))) else (((bif decide (a2.op=(10:Int)) then ((a0.frames[a1]?).bind fun x148=>((p8 x148.stack (wr ((x148.stack.length:Int) - (1:Int)))).bind fun x151=>((aC6 N x151 x148.stack a0.frames a1).bind fun r153=>some (.next (a0.w.heap,a0.fuel,a0.sends,a0.turns,(a0.frames.set a1 (⟨x148.class_,x148.method,x148.fast,x148.code,x148.self_,x148.args,x148.temps,r153,x148.at_⟩:l6)),a0.back.k,a0.back.n,a0.err))))) else (((bif decide (a2.op=(11:Int)) then ((a0.frames[a1]?).bind fun x166=>((aF6 N a0.frames a1).bind fun r168=>((r168.2[a1]?).bind fun x170=>((p8 x166.temps a2.a).bind fun x172=>some (.next (a0.w.heap,a0.fuel,a0.sends,a0.turns,(r168.2.set a1 (⟨x170.class_,x170.method,x170.fast,x170.code,x170.self_,x170.args,(x166.temps.set a2.a.toNat r168.1),x170.stack,x170.at_⟩:l6)),a0.back.k,a0.back.n,a0.err)))))) else (((bif decide (a2.op=(12:Int)) then ((a0.frames[a1]?).bind fun x185=>((Y5 N a0.frames a1).bind fun r187=>((r187.2[a1]?).bind fun x189=>((aG0 N (⟨(⟨a0.w.classes,a0.w.heap,a0.w.epoch⟩:Wd),a0.fuel,a0.sends,a0.turns,r187.2,a0.back,a0.err⟩:l9) x185.self_ a2.a r187.1).bind fun r191=>some (.next (r191.w.heap,r191.fuel,r191.sends,r191.turns,r187.2,r191.back.k,r191.back.n,r191.err)))))) else (((bif decide (a2.op=(19:Int)) then ((a0.frames[a1]?).bind fun x204=>((p8 x204.temps a2.a).bind fun x206=>((aT5 N a0.w.heap x206 a2.b).bind fun r208=>((Y6 N r208 a0.frames a1).bind fun r210=>((r210[a1]?).bind fun x212=>some (.next (a0.w.heap,a0.fuel,a0.sends,a0.turns,(r210.set a1 (⟨x212.class_,x212.method,x212.fast,x212.code,x212.self_,x212.args,x204.temps,x212.stack,x212.at_⟩:l6)),a0.back.k,a0.back.n,a0.err))))))) else (((bif decide (a2.op=(20:Int)) then ((a0.frames[a1]?).bind fun x225=>((p8 x225.temps a2.a).bind fun x227=>((aF6 N a0.frames a1).bind fun r229=>((r229.2[a1]?).bind fun x231=>((aG0 N (⟨(⟨a0.w.classes,a0.w.heap,a0.w.epoch⟩:Wd),a0.fuel,a0.sends,a0.turns,r229.2,a0.back,a0.err⟩:l9) x227 a2.b r229.1).bind fun r233=>some (.next (r233.w.heap,r233.fuel,r233.sends,r233.turns,(r229.2.set a1 (⟨x231.class_,x231.method,x231.fast,x231.code,x231.self_,x231.args,x225.temps,x231.stack,x231.at_⟩:l6)),r233.back.k,r233.back.n,r233.err))))))) else (((bif decide (a2.op=(13:Int)) then ((aR0 N (⟨a0.w.classes,a0.w.heap,a0.w.epoch⟩:Wd) a2.a).bind fun r240=>((bC8 N a0.w.heap a2.a r240).bind fun r242=>(bif (!decide (r242.2.2=(0:Int))) then ((K5 N (⟨(⟨a0.w.classes,a0.w.heap,a0.w.epoch⟩:Wd),a0.fuel,a0.sends,a0.turns,a0.frames,a0.back,a0.err⟩:l9) r242.2.2).bind fun r245=>some (.ret (⟨(⟨a0.w.classes,a0.w.heap,a0.w.epoch⟩:Wd),r245.fuel,r245.sends,r245.turns,a0.frames,r245.back,r245.err⟩:l9))) else ((L9 N r242.2.1 a0.frames a1).bind fun r247=>some (.next (r242.1,r247)))))) else some (.next (a0.w.heap,a0.frames))):Option (D7 l9 ((List Ob)×(List l6)))).bind fun o=>match o with|.ret r=>some (.ret r)|.next (v235,v236)=>some (.next (v235,a0.fuel,a0.sends,a0.turns,v236,a0.back.k,a0.back.n,a0.err)))):Option (D7 l9 ((List Ob)×Int×Int×Int×(List l6)×Int×Int×Int))).bind fun o=>match o with|.ret r=>some (.ret r)|.next (v214,v215,v216,v217,v218,v219,v220,v221)=>some (.next (v214,v215,v216,v217,v218,v219,v220,v221)))):Option (D7 l9 ((List Ob)×Int×Int×Int×(List l6)×Int×Int×Int))).bind fun o=>match o with|.ret r=>some (.ret r)|.next (v193,v194,v195,v196,v197,v198,v199,v200)=>some (.next (v193,v194,v195,v196,v197,v198,v199,v200)))):Option (D7 l9 ((List Ob)×Int×Int×Int×(List l6)×Int×Int×Int))).bind fun o=>match o with|.ret r=>some (.ret r)|.next (v174,v175,v176,v177,v178,v179,v180,v181)=>some (.next (v174,v175,v176,v177,v178,v179,v180,v181)))):Option (D7 l9 ((List Ob)×Int×Int×Int×(List l6)×Int×Int×Int))).bind fun o=>match o with|.ret r=>some (.ret r)|.next (v155,v156,v157,v158,v159,v160,v161,v162)=>some (.next (v155,v156,v157,v158,v159,v160,v161,v162)))):Option (D7 l9 ((List Ob)×Int×Int×Int×(List l6)×Int×Int×Int))).bind fun o=>match o with|.ret r=>some (.ret r)|.next (v137,v138,v139,v140,v141,v142,v143,v144)=>some (.next (v137,v138,v139,v140,v141,v142,v143,v144)))):Option (D7 l9 ((List Ob)×Int×Int×Int×(List l6)×Int×Int×Int))).bind fun o=>match o with|.ret r=>some (.ret r)|.next (v124,v125,v126,v127,v128,v129,v130,v131)=>some (.next (v124,v125,v126,v127,v128,v129,v130,v131)))):Option (D7 l9 ((List Ob)×Int×Int×Int×(List l6)×Int×Int×Int))).bind fun o=>match o with|.ret r=>some (.ret r)|.next (v109,v110,v111,v112,v113,v114,v115,v116)=>some (.next (v109,v110,v111,v112,v113,v114,v115,v116))))):Option (D7 l9 ((List Ob)×Int×Int×Int×(List l6)×Int×Int×Int))).bind fun o=>match o with|.ret r=>some (.ret r)|.next (v92,v93,v94,v95,v96,v97,v98,v99)=>some (.next (v92,v93,v94,v95,v96,v97,v98,v99)))):Option (D7 l9 ((List Ob)×Int×Int×Int×(List l6)×Int×Int×Int))).bind fun o=>match o with|.ret r=>some (.ret r)|.next (v79,v80,v81,v82,v83,v84,v85,v86)=>some (.next (v79,v80,v81,v82,v83,v84,v85,v86)))):Option (D7 l9 ((List Ob)×Int×Int×Int×(List l6)×Int×Int×Int))).bind fun o=>match o with|.ret r=>some (.ret r)|.next (v62,v63,v64,v65,v66,v67,v68,v69)=>some (.next (v62,v63,v64,v65,v66,v67,v68,v69)))):Option (D7 l9 ((List Ob)×Int×Int×Int×(List l6)×Int×Int×Int))).bind fun o=>match o with|.ret r=>some (.ret r)|.next (v43,v44,v45,v46,v47,v48,v49,v50)=>some (.next (v43,v44,v45,v46,v47,v48,v49,v50)))):Option (D7 l9 ((List Ob)×Int×Int×Int×(List l6)×Int×Int×Int))).bind fun o=>match o with|.ret r=>some (.ret r)|.next (v26,v27,v28,v29,v30,v31,v32,v33)=>some (.next (v26,v27,v28,v29,v30,v31,v32,v33)))):Option (D7 l9 ((List Ob)×Int×Int×Int×(List l6)×Int×Int×Int))).bind fun o=>match o with|.ret r=>some (.ret r)|.next (v11,v12,v13,v14,v15,v16,v17,v18)=>some (.next (v11,v12,v13,v14,v15,v16,v17,v18))):Option (D7 l9 ((List Ob)×Int×Int×Int×(List l6)×Int×Int×Int))).bind fun o=>match o with|.ret r=>some r|.next (v1,v2,v3,v4,v5,v6,v7,v8)=>some (⟨(⟨a0.w.classes,v1,a0.w.epoch⟩:Wd),v2,v3,v4,v5,(⟨v6,v7⟩:V),v8⟩:l9))

def aK1 (N:Nat) (a0:l9) (gl:St→Int→ByteArray→Option (Int×Int)) (gq:Int→Int→Option (Fs×Bool)):Option l9 :=
  ((p8 a0.frames (wr ((a0.frames.length:Int) - (1:Int)))).bind fun x2=>((p8 x2.code x2.at_).bind fun x4=>(((((bif decide (x4.op=(14:Int)) then ((aJ6 N (⟨(⟨a0.w.classes,a0.w.heap,a0.w.epoch⟩:Wd),a0.fuel,a0.sends,a0.turns,(a0.frames.set ((wr ((a0.frames.length:Int) - (1:Int))).toNat) (⟨x2.class_,x2.method,x2.fast,x2.code,x2.self_,x2.args,x2.temps,x2.stack,(wr (x2.at_+(1:Int)))⟩:l6)),a0.back,a0.err⟩:l9) gl gq ((wr ((a0.frames.length:Int) - (1:Int))).toNat) x4 x2.at_).bind fun r31=>some ((a0.w.classes,a0.w.heap,a0.w.epoch,r31.fuel,r31.sends,r31.turns,r31.frames,r31.back.k,r31.back.n,r31.err))) else (((bif decide (x4.op=(15:Int)) then ((aE0 N (⟨(⟨a0.w.classes,a0.w.heap,a0.w.epoch⟩:Wd),a0.fuel,a0.sends,a0.turns,(a0.frames.set ((wr ((a0.frames.length:Int) - (1:Int))).toNat) (⟨x2.class_,x2.method,x2.fast,x2.code,x2.self_,x2.args,x2.temps,x2.stack,(wr (x2.at_+(1:Int)))⟩:l6)),a0.back,a0.err⟩:l9) ((wr ((a0.frames.length:Int) - (1:Int))).toNat) x4.a).bind fun r46=>some ((a0.w.classes,a0.w.heap,a0.w.epoch,r46.fuel,r46.sends,r46.turns,r46.frames,r46.back.k,r46.back.n,r46.err))) else (((bif decide (x4.op=(16:Int)) then ((Y5 N (a0.frames.set ((wr ((a0.frames.length:Int) - (1:Int))).toNat) (⟨x2.class_,x2.method,x2.fast,x2.code,x2.self_,x2.args,x2.temps,x2.stack,(wr (x2.at_+(1:Int)))⟩:l6)) ((wr ((a0.frames.length:Int) - (1:Int))).toNat)).bind fun r61=>(((((bif decide (r61.1.k=(1:Int)) then ((aE0 N (⟨(⟨a0.w.classes,a0.w.heap,a0.w.epoch⟩:Wd),a0.fuel,a0.sends,a0.turns,r61.2,a0.back,a0.err⟩:l9) ((wr ((a0.frames.length:Int) - (1:Int))).toNat) x4.a).bind fun r82=>some ((r82.fuel,r82.sends,r82.turns,r82.frames,r82.back.k,r82.back.n,r82.err))) else (((bif decide (r61.1.k=(2:Int)) then some ((a0.fuel,a0.sends,a0.turns,a0.back.k,a0.back.n,a0.err)) else ((K5 N (⟨(⟨a0.w.classes,a0.w.heap,a0.w.epoch⟩:Wd),a0.fuel,a0.sends,a0.turns,r61.2,a0.back,a0.err⟩:l9) (11:Int)).bind fun r93=>some ((r93.fuel,r93.sends,r93.turns,r93.back.k,r93.back.n,r93.err)))):Option (Int×Int×Int×Int×Int×Int)).bind fun (v84,v85,v86,v87,v88,v89)=>some ((v84,v85,v86,r61.2,v87,v88,v89)))):Option (Int×Int×Int×(List l6)×Int×Int×Int)).bind fun (v72,v73,v74,v75,v76,v77,v78)=>some ((v72,v73,v74,v75,v76,v77,v78))):Option (Int×Int×Int×(List l6)×Int×Int×Int)).bind fun (v63,v64,v65,v66,v67,v68,v69)=>some ((a0.w.classes,a0.w.heap,a0.w.epoch,v63,v64,v65,v66,v67,v68,v69)))) else (((bif decide (x4.op=(17:Int)) then ((Y5 N (a0.frames.set ((wr ((a0.frames.length:Int) - (1:Int))).toNat) (⟨x2.class_,x2.method,x2.fast,x2.code,x2.self_,x2.args,x2.temps,x2.stack,(wr (x2.at_+(1:Int)))⟩:l6)) ((wr ((a0.frames.length:Int) - (1:Int))).toNat)).bind fun r108=>(bif (decide (0≤(wr ((r108.2.length:Int) - (1:Int)))) && decide ((wr ((r108.2.length:Int) - (1:Int)))≤(r108.2.length:Int))) then ((aB2 N (⟨(⟨a0.w.classes,a0.w.heap,a0.w.epoch⟩:Wd),a0.fuel,a0.sends,a0.turns,(r108.2.take (wr ((r108.2.length:Int) - (1:Int))).toNat),a0.back,a0.err⟩:l9) r108.1).bind fun r112=>some ((a0.w.classes,a0.w.heap,a0.w.epoch,r112.fuel,r112.sends,r112.turns,r112.frames,r112.back.k,r112.back.n,r112.err))) else none)) else (((bif decide (x4.op=(18:Int)) then ((aH0 N (⟨(⟨a0.w.classes,a0.w.heap,a0.w.epoch⟩:Wd),a0.fuel,a0.sends,a0.turns,(a0.frames.set ((wr ((a0.frames.length:Int) - (1:Int))).toNat) (⟨x2.class_,x2.method,x2.fast,x2.code,x2.self_,x2.args,x2.temps,x2.stack,(wr (x2.at_+(1:Int)))⟩:l6)),a0.back,a0.err⟩:l9) ((wr ((a0.frames.length:Int) - (1:Int))).toNat) x4).bind fun r127=>some ((a0.w.classes,a0.w.heap,a0.w.epoch,r127.fuel,r127.sends,r127.turns,r127.frames,r127.back.k,r127.back.n,r127.err))) else (((bif decide (x4.op=(21:Int)) then ((Z6 N (⟨(⟨a0.w.classes,a0.w.heap,a0.w.epoch⟩:Wd),a0.fuel,a0.sends,a0.turns,(a0.frames.set ((wr ((a0.frames.length:Int) - (1:Int))).toNat) (⟨x2.class_,x2.method,x2.fast,x2.code,x2.self_,x2.args,x2.temps,x2.stack,(wr (x2.at_+(1:Int)))⟩:l6)),a0.back,a0.err⟩:l9) true).bind fun r142=>some ((a0.w.classes,a0.w.heap,a0.w.epoch,r142.2.fuel,r142.2.sends,r142.2.turns,(a0.frames.set ((wr ((a0.frames.length:Int) - (1:Int))).toNat) (⟨x2.class_,x2.method,x2.fast,x2.code,x2.self_,x2.args,x2.temps,x2.stack,(wr (x2.at_+(1:Int)))⟩:l6)),r142.2.back.k,r142.2.back.n,r142.2.err))) else ((aK7 N (⟨(⟨a0.w.classes,a0.w.heap,a0.w.epoch⟩:Wd),a0.fuel,a0.sends,a0.turns,(a0.frames.set ((wr ((a0.frames.length:Int) - (1:Int))).toNat) (⟨x2.class_,x2.method,x2.fast,x2.code,x2.self_,x2.args,x2.temps,x2.stack,(wr (x2.at_+(1:Int)))⟩:l6)),a0.back,a0.err⟩:l9) ((wr ((a0.frames.length:Int) - (1:Int))).toNat) x4).bind fun r144=>some ((r144.w.classes,r144.w.heap,r144.w.epoch,r144.fuel,r144.sends,r144.turns,r144.frames,r144.back.k,r144.back.n,r144.err)))):Option ((List Cl)×(List Ob)×Int×Int×Int×Int×(List l6)×Int×Int×Int)).bind fun (v129,v130,v131,v132,v133,v134,v135,v136,v137,v138)=>some ((v129,v130,v131,v132,v133,v134,v135,v136,v137,v138)))):Option ((List Cl)×(List Ob)×Int×Int×Int×Int×(List l6)×Int×Int×Int)).bind fun (v114,v115,v116,v117,v118,v119,v120,v121,v122,v123)=>some ((v114,v115,v116,v117,v118,v119,v120,v121,v122,v123)))):Option ((List Cl)×(List Ob)×Int×Int×Int×Int×(List l6)×Int×Int×Int)).bind fun (v95,v96,v97,v98,v99,v100,v101,v102,v103,v104)=>some ((v95,v96,v97,v98,v99,v100,v101,v102,v103,v104)))):Option ((List Cl)×(List Ob)×Int×Int×Int×Int×(List l6)×Int×Int×Int)).bind fun (v48,v49,v50,v51,v52,v53,v54,v55,v56,v57)=>some ((v48,v49,v50,v51,v52,v53,v54,v55,v56,v57)))):Option ((List Cl)×(List Ob)×Int×Int×Int×Int×(List l6)×Int×Int×Int)).bind fun (v33,v34,v35,v36,v37,v38,v39,v40,v41,v42)=>some ((v33,v34,v35,v36,v37,v38,v39,v40,v41,v42)))):Option ((List Cl)×(List Ob)×Int×Int×Int×Int×(List l6)×Int×Int×Int)).bind fun (v18,v19,v20,v21,v22,v23,v24,v25,v26,v27)=>some ((v18,v19,v20,v21,v22,v23,v24,v25,v26,v27))):Option ((List Cl)×(List Ob)×Int×Int×Int×Int×(List l6)×Int×Int×Int)).bind fun (v6,v7,v8,v9,v10,v11,v12,v13,v14,v15)=>some (⟨(⟨v6,v7,v8⟩:Wd),v9,v10,v11,v12,(⟨v13,v14⟩:V),v15⟩:l9))))

def aI5 (N:Nat) (g3:(St→Int→ByteArray→Option (Int×Int))) (g4:(Int→Int→Option (Fs×Bool))):Nat→(List Cl)→(List Ob)→Int→Int→Int→Int→(List l6)→Int→Int→Int→Option (((List Cl)×(List Ob)×Int×Int×Int×Int×(List l6)×Int×Int×Int))
  |0,_,_,_,_,_,_,_,_,_,_=>none
  |n61+1,v27,v28,v29,v30,v31,v32,v33,v34,v35,v36=>(((bif decide (v36=(0:Int)) then some (decide ((0:Int) < (v33.length:Int))) else some (false)):Option Bool).bind fun v62=>(bif v62 then ((aK1 N (⟨(⟨v27,v28,v29⟩:Wd),v30,v31,v32,v33,(⟨v34,v35⟩:V),v36⟩:l9) g3 g4).bind fun r68=>aI5 N g3 g4 n61 r68.w.classes r68.w.heap r68.w.epoch r68.fuel r68.sends r68.turns r68.frames r68.back.k r68.back.n r68.err) else some ((v27,v28,v29,v30,v31,v32,v33,v34,v35,v36))))

def aP7 (N:Nat) (a0:Wd) (a1:O6) (a2:Int) (g3:St→Int→ByteArray→Option (Int×Int)) (g4:Int→Int→Option (Fs×Bool)):Option (Wd×aL3) :=
  ((bC6 N a0 a1 a2).bind fun r1=>(bif (!decide (r1=(0:Int))) then ((aO3 N a0).bind fun r4=>some (r4,(⟨(⟨(0:Int),(0:Int)⟩:V),r1,(0:Int)⟩:aL3))) else ((aO3 N a0).bind fun r6=>((aM6 N r6.heap a1.self_).bind fun r8=>((aI1 N (⟨r6.classes,r6.heap,r6.epoch⟩:Wd) r8 a1.name).bind fun r10=>(((bif decide (r10.2 < (0:Int)) then ((K5 N (⟨(⟨r6.classes,r6.heap,r6.epoch⟩:Wd),a2,(0:Int),(0:Int),([]:List l6),(⟨(0:Int),(0:Int)⟩:V),(0:Int)⟩:l9) (10:Int)).bind fun r22=>some ((r22.fuel,r22.sends,r22.turns,([]:List l6),r22.back.k,r22.back.n,r22.err))) else ((aC9 N (⟨(⟨r6.classes,r6.heap,r6.epoch⟩:Wd),a2,(0:Int),(0:Int),([]:List l6),(⟨(0:Int),(0:Int)⟩:V),(0:Int)⟩:l9) g4 r10.1 r10.2 a1.self_ a1.args).bind fun r24=>some ((r24.fuel,r24.sends,r24.turns,r24.frames,r24.back.k,r24.back.n,r24.err)))):Option (Int×Int×Int×(List l6)×Int×Int×Int)).bind fun (v12,v13,v14,v15,v16,v17,v18)=>((aI5 N g3 g4 N r6.classes r6.heap r6.epoch v12 v13 v14 v15 v16 v17 v18).bind fun (v47,v48,v49,v50,v51,v52,v53,v54,v55,v56)=>(bif (!decide (v56=(0:Int))) then ((aO3 N a0).bind fun r71=>some (r71,(⟨(⟨(0:Int),(0:Int)⟩:V),v56,v51⟩:aL3))) else some ((⟨v47,v48,v49⟩:Wd),(⟨(⟨v54,v55⟩:V),(0:Int),v51⟩:aL3))))))))))

def U8 (N:Nat) (a0:Wd):List V→Nat→Option (D7 Int Unit)
  |[],k16=>some (.next ())
  |x22::rest19,k16=>((aJ9 N x22 (a0.heap.length:Int)).bind fun r26=>(bif (!decide (r26=(0:Int))) then some (.ret r26) else U8 N a0 rest19 (k16+1)))

def aJ1 (N:Nat) (a0:Wd) (a1:O6) (a2:Int):Option Int :=
  ((aE6 N a1.name).bind fun r1=>(bif (!r1) then some (7:Int) else (bif decide ((4:Int) < (a1.args.length:Int)) then some (5:Int) else (((bif decide (a2 < (0:Int)) then some (true) else some (decide ((400:Int) < a2))):Option Bool).bind fun v6=>(bif v6 then some (3:Int) else ((aJ9 N a1.self_ (a0.heap.length:Int)).bind fun r12=>(bif (!decide (r12=(0:Int))) then some r12 else ((U8 N a0 a1.args 0).bind fun o=>match o with|.ret r=>some r|.next ()=>some (0:Int)))))))))

def aN5 (N:Nat) (a0:(List Ob)) (a1:V):Option Int :=
  (((bif decide (a1.k=(4:Int)) then (bif decide ((0:Int)≤a1.n) then some (decide (a1.n < (a0.length:Int))) else some (false)) else some (false)):Option Bool).bind fun v1=>(bif v1 then ((p8 a0 a1.n).bind fun x8=>some x8.cls) else (((bif decide (a1.k < (0:Int)) then some (true) else some (decide ((3:Int) < a1.k))):Option Bool).bind fun v10=>(bif v10 then some (0:Int) else ((p8 [(1:Int),(2:Int),(2:Int),(3:Int)] a1.k).bind fun x15=>some x15)))))

def aD8 (N:Nat) (a2:ByteArray) (x13:Int):List Me→Nat→Option (D7 (Int×Int) Unit)
  |[],k18=>some (.next ())
  |x24::rest21,k18=>(bif decide (x24.name=a2) then some (.ret (x13,(k18:Int))) else aD8 N a2 x13 rest21 (k18+1))

def aD7 (N:Nat) (a0:Wd) (a2:ByteArray) (r1:(List Int)):List Int→Nat→Option (D7 (Int×Int) Unit)
  |[],k4=>some (.next ())
  |x10::rest7,k4=>((p8 r1 (k4:Int)).bind fun x13=>((p8 a0.classes x13).bind fun x15=>((aD8 N a2 x13 x15.methods 0).bind fun o=>match o with|.ret r=>some (.ret r)|.next ()=>aD7 N a0 a2 r1 rest7 (k4+1))))

def aM4 (N:Nat) (a0:Wd) (a1:Int) (a2:ByteArray):Option (Int×Int) :=
  ((aT4 N a0 a1).bind fun r1=>((aD7 N a0 a2 r1 r1 0).bind fun o=>match o with|.ret r=>some r|.next ()=>some ((-1:Int),(-1:Int))))

def aM8 (N:Nat) (a0:Bool):Option V :=
  (bif a0 then some (⟨(2:Int),(0:Int)⟩:V) else some (⟨(1:Int),(0:Int)⟩:V))

def aW3 (N:Nat) (a0:Int) (a1:V) (a2:V):Option (V×Int) :=
  (((bif (!decide (a1.k=(3:Int))) then some (true) else some ((!decide (a2.k=(3:Int))))):Option Bool).bind fun v1=>(bif v1 then some ((⟨(0:Int),(0:Int)⟩:V),(12:Int)) else (((((bif decide (a0=(1:Int)) then some (.next (wr (a1.n+a2.n))) else (((bif decide (a0=(2:Int)) then some (.next (wr (a1.n - a2.n))) else (bif decide (a0=(3:Int)) then some (.next (wr (a1.n*a2.n))) else (bif decide (a0=(4:Int)) then ((aM8 N (decide (a1.n < a2.n))).bind fun r19=>some (.ret (r19,(0:Int)))) else (bif decide (a0=(5:Int)) then ((aM8 N (decide (a1.n=a2.n))).bind fun r22=>some (.ret (r22,(0:Int)))) else some (.ret ((⟨(0:Int),(0:Int)⟩:V),(1:Int))))))):Option (D7 (V×Int) Int)).bind fun o=>match o with|.ret r=>some (.ret r)|.next v13=>some (.next v13))):Option (D7 (V×Int) Int)).bind fun o=>match o with|.ret r=>some (.ret r)|.next v9=>some (.next v9)):Option (D7 (V×Int) Int)).bind fun o=>match o with|.ret r=>some r|.next v6=>(bif decide ((0:Int)≤v6) then (bif (decide ((1073741825:Int)≠0) && decide (D6 (v6.tdiv (1073741825:Int)))) then some ((⟨(3:Int),(wr (v6 - (wr ((v6.tdiv (1073741825:Int))*(1073741825:Int)))))⟩:V),(0:Int)) else none) else (bif decide (D6 (-v6)) then (bif (decide ((1073741825:Int)≠0) && decide (D6 ((-v6).tdiv (1073741825:Int)))) then some ((⟨(3:Int),(wr (v6+(wr (((-v6).tdiv (1073741825:Int))*(1073741825:Int)))))⟩:V),(0:Int)) else none) else none)))))

def aB5 (N:Nat) (a2:Int):List V→Nat→Option (D7 V Unit)
  |[],k13=>some (.next ())
  |x19::rest16,k13=>(bif decide ((k13:Int)=a2) then some (.ret x19) else aB5 N a2 rest16 (k13+1))

def aW1 (N:Nat) (a0:(List Ob)) (a1:V) (a2:Int):Option V :=
  (((bif decide (a1.k=(4:Int)) then (bif decide ((0:Int)≤a1.n) then some (decide (a1.n < (a0.length:Int))) else some (false)) else some (false)):Option Bool).bind fun v1=>(((bif v1 then ((p8 a0 a1.n).bind fun x10=>((aB5 N a2 x10.slots 0).bind fun o=>match o with|.ret r=>some (.ret r)|.next ()=>some (.next ()))) else some (.next ())):Option (D7 V Unit)).bind fun o=>match o with|.ret r=>some r|.next ()=>some (⟨(0:Int),(0:Int)⟩:V)))

def Q9 (N:Nat) (b0:(List V)):Option (V×(List V)) :=
  ((p8 b0 (wr ((b0.length:Int) - (1:Int)))).bind fun x2=>(bif (decide (0≤(wr ((b0.length:Int) - (1:Int)))) && decide ((wr ((b0.length:Int) - (1:Int)))≤(b0.length:Int))) then some (x2,(b0.take (wr ((b0.length:Int) - (1:Int))).toNat)) else none))

def aQ0 (N:Nat) (a0:TR) (a1:V) (a2:Int) (a3:V):Option TR :=
  (bif Nat.ble ((([]:List Ob).length+a0.w.heap.length)*32) 140737488355328 then (((bif decide (a1.k=(4:Int)) then (bif decide (a1.n < ((([]:List Ob)++a0.w.heap).length:Int)) then ((p8 (([]:List Ob)++a0.w.heap) a1.n).bind fun x8=>some (decide (a2 < (x8.slots.length:Int)))) else some (false)) else some (false)):Option Bool).bind fun v2=>(((bif v2 then ((p8 (([]:List Ob)++a0.w.heap) a1.n).bind fun x15=>(bif Nat.ble ((([]:List V).length+x15.slots.length)*16) 140737488355328 then ((p8 (([]:List V)++x15.slots) a2).bind fun x18=>((p8 (([]:List Ob)++a0.w.heap) a1.n).bind fun x20=>some (((([]:List Ob)++a0.w.heap).set a1.n.toNat (⟨x20.cls,((([]:List V)++x15.slots).set a2.toNat a3)⟩:Ob))))) else none)) else some (a0.w.heap)):Option (List Ob)).bind fun v11=>some (⟨(⟨a0.w.classes,v11,a0.w.epoch⟩:Wd),a0.fuel,a0.sends,a0.turns,a0.deep,a0.err,a0.sites,a0.of⟩:TR))) else none)

def aK6 (N:Nat) (gR:(Nat→TR→Int→Me→V→(List V)→Option (V×TR))) (a0:TR) (a1:Int) (a2:Int) (a3:V) (a4:(List V)):Option (V×TR) :=
  ((p8 a0.w.classes a1).bind fun x1=>((p8 x1.methods a2).bind fun x3=>(bif (!decide (x3.args=(a4.length:Int))) then some ((⟨(0:Int),(0:Int)⟩:V),(⟨a0.w,a0.fuel,a0.sends,a0.turns,a0.deep,(8:Int),a0.sites,a0.of⟩:TR)) else (bif decide (a0.fuel≤a0.sends) then some ((⟨(0:Int),(0:Int)⟩:V),(⟨a0.w,a0.fuel,a0.sends,a0.turns,a0.deep,(13:Int),a0.sites,a0.of⟩:TR)) else (bif (!decide (x3.prim=(0:Int))) then ((p8 a4 (0:Int)).bind fun x9=>((aW3 N x3.prim a3 x9).bind fun r11=>some (r11.1,(⟨a0.w,a0.fuel,(wr (a0.sends+(1:Int))),a0.turns,a0.deep,r11.2,a0.sites,a0.of⟩:TR)))) else (bif decide ((20:Int)≤a0.deep) then some ((⟨(0:Int),(0:Int)⟩:V),(⟨a0.w,a0.fuel,a0.sends,a0.turns,a0.deep,(14:Int),a0.sites,a0.of⟩:TR)) else ((gR N (⟨a0.w,a0.fuel,(wr (a0.sends+(1:Int))),a0.turns,(wr (a0.deep+(1:Int))),a0.err,a0.sites,a0.of⟩:TR) a1 x3 a3 a4).bind fun r14=>some (r14.1,(⟨r14.2.w,r14.2.fuel,r14.2.sends,r14.2.turns,(wr (r14.2.deep - (1:Int))),r14.2.err,r14.2.sites,r14.2.of⟩:TR)))))))))

def G7 (N:Nat) (gR:(Nat→TR→Int→Int→V→(List V)→Option (V×TR))) (a1:Int) (a2:Me) (a3:V) (a4:(List V)):Nat→(List Cl)→(List Ob)→Int→Int→Int→Int→Int→Int→(List St)→(List Int)→(List V)→(List V)→Int→Option (D7 (V×TR) ((List Cl)×(List Ob)×Int×Int×Int×Int×Int×Int×(List St)×(List Int)))
  |0,_,_,_,_,_,_,_,_,_,_,_,_,_=>none
  |n43+1,v3,v4,v5,v6,v7,v8,v9,v10,v11,v12,v13,v14,v15=>(bif decide (v10=(0:Int)) then ((p8 a2.code v15).bind fun x45=>(((bif decide (x45.op=(1:Int)) then (bif Nat.ble ((v14.length+[a3].length)*16) 140737488355328 then some (.next (v3,v4,v5,v6,v7,v8,v9,v10,v11,v12,v13,(v14++[a3]),(wr (v15+(1:Int))))) else none) else (bif decide (x45.op=(2:Int)) then ((p8 a4 x45.a).bind fun x65=>(bif Nat.ble ((v14.length+[x65].length)*16) 140737488355328 then some (.next (v3,v4,v5,v6,v7,v8,v9,v10,v11,v12,v13,(v14++[x65]),(wr (v15+(1:Int))))) else none)) else (bif decide (x45.op=(3:Int)) then ((p8 v13 x45.a).bind fun x69=>(bif Nat.ble ((v14.length+[x69].length)*16) 140737488355328 then some (.next (v3,v4,v5,v6,v7,v8,v9,v10,v11,v12,v13,(v14++[x69]),(wr (v15+(1:Int))))) else none)) else (bif decide (x45.op=(4:Int)) then ((aW1 N v4 a3 x45.a).bind fun r73=>(bif Nat.ble ((v14.length+[r73].length)*16) 140737488355328 then some (.next (v3,v4,v5,v6,v7,v8,v9,v10,v11,v12,v13,(v14++[r73]),(wr (v15+(1:Int))))) else none)) else (bif decide (x45.op=(5:Int)) then (bif Nat.ble ((v14.length+[(⟨(3:Int),x45.a⟩:V)].length)*16) 140737488355328 then some (.next (v3,v4,v5,v6,v7,v8,v9,v10,v11,v12,v13,(v14++[(⟨(3:Int),x45.a⟩:V)]),(wr (v15+(1:Int))))) else none) else (bif decide (x45.op=(6:Int)) then (bif Nat.ble ((v14.length+[(⟨(0:Int),(0:Int)⟩:V)].length)*16) 140737488355328 then some (.next (v3,v4,v5,v6,v7,v8,v9,v10,v11,v12,v13,(v14++[(⟨(0:Int),(0:Int)⟩:V)]),(wr (v15+(1:Int))))) else none) else (bif decide (x45.op=(7:Int)) then ((aM8 N false).bind fun r81=>(bif Nat.ble ((v14.length+[r81].length)*16) 140737488355328 then some (.next (v3,v4,v5,v6,v7,v8,v9,v10,v11,v12,v13,(v14++[r81]),(wr (v15+(1:Int))))) else none)) else (bif decide (x45.op=(8:Int)) then ((aM8 N true).bind fun r85=>(bif Nat.ble ((v14.length+[r85].length)*16) 140737488355328 then some (.next (v3,v4,v5,v6,v7,v8,v9,v10,v11,v12,v13,(v14++[r85]),(wr (v15+(1:Int))))) else none)) else (bif decide (x45.op=(9:Int)) then ((Q9 N v14).bind fun r89=>some (.next (v3,v4,v5,v6,v7,v8,v9,v10,v11,v12,v13,r89.2,(wr (v15+(1:Int)))))) else (bif decide (x45.op=(10:Int)) then ((Q9 N v14).bind fun r92=>(bif Nat.ble ((r92.2.length+[r92.1,r92.1].length)*16) 140737488355328 then some (.next (v3,v4,v5,v6,v7,v8,v9,v10,v11,v12,v13,(r92.2++[r92.1,r92.1]),(wr (v15+(1:Int))))) else none)) else (bif decide (x45.op=(11:Int)) then ((Q9 N v14).bind fun r96=>((p8 v13 x45.a).bind fun x98=>some (.next (v3,v4,v5,v6,v7,v8,v9,v10,v11,v12,(v13.set x45.a.toNat r96.1),r96.2,(wr (v15+(1:Int))))))) else (bif decide (x45.op=(12:Int)) then ((Q9 N v14).bind fun r101=>((aQ0 N (⟨(⟨v3,v4,v5⟩:Wd),v6,v7,v8,v9,v10,v11,v12⟩:TR) a3 x45.a r101.1).bind fun r103=>some (.next (r103.w.classes,r103.w.heap,r103.w.epoch,r103.fuel,r103.sends,r103.turns,r103.deep,r103.err,r103.sites,r103.of,v13,r101.2,(wr (v15+(1:Int))))))) else (bif decide (x45.op=(13:Int)) then (bif decide ((60:Int)≤(v4.length:Int)) then some (.next (v3,v4,v5,v6,v7,v8,v9,(15:Int),v11,v12,v13,v14,(wr (v15+(1:Int))))) else (bif Nat.ble ((v14.length+[(⟨(4:Int),(v4.length:Int)⟩:V)].length)*16) 140737488355328 then (bif Nat.ble ((([]:List Ob).length+v4.length)*32) 140737488355328 then ((Y0 N (⟨v3,v4,v5⟩:Wd) x45.a).bind fun r111=>(bif (decide (0≤r111) && decide (r111≤140737488355328) && decide (r111*16≤140737488355328)) then (bif Nat.ble (((([]:List Ob)++v4).length+[(⟨x45.a,(List.replicate r111.toNat (⟨(0:Int),(0:Int)⟩:V))⟩:Ob)].length)*32) 140737488355328 then some (.next (v3,((([]:List Ob)++v4)++[(⟨x45.a,(List.replicate r111.toNat (⟨(0:Int),(0:Int)⟩:V))⟩:Ob)]),v5,v6,v7,v8,v9,v10,v11,v12,v13,(v14++[(⟨(4:Int),(v4.length:Int)⟩:V)]),(wr (v15+(1:Int))))) else none) else none)) else none) else none)) else (bif decide (x45.op=(14:Int)) then (bif (decide (0≤(wr ((v14.length:Int) - x45.a))) && decide ((wr ((v14.length:Int) - x45.a))≤(v14.length:Int))) then (bif Nat.ble ((([]:List V).length+(v14.drop ((wr ((v14.length:Int) - x45.a)).toNat)).length)*16) 140737488355328 then ((p8 v14 (wr ((wr ((v14.length:Int) - x45.a)) - (1:Int)))).bind fun x119=>(bif (decide (0≤(wr ((wr ((v14.length:Int) - x45.a)) - (1:Int)))) && decide ((wr ((wr ((v14.length:Int) - x45.a)) - (1:Int)))≤(v14.length:Int))) then ((aN5 N v4 x119).bind fun r122=>(bif Nat.ble ((v11.length+[(⟨a1,a2.name,v15⟩:St)].length)*32) 140737488355328 then (bif Nat.ble ((v12.length+[r122].length)*8) 140737488355328 then ((aM4 N (⟨v3,v4,v5⟩:Wd) r122 x45.name).bind fun r126=>(bif decide (r126.2 < (0:Int)) then some (.next (v3,v4,v5,v6,v7,v8,v9,(10:Int),(v11++[(⟨a1,a2.name,v15⟩:St)]),(v12++[r122]),v13,(v14.take (wr ((wr ((v14.length:Int) - x45.a)) - (1:Int))).toNat),(wr (v15+(1:Int))))) else ((gR N (⟨(⟨v3,v4,v5⟩:Wd),v6,v7,v8,v9,v10,(v11++[(⟨a1,a2.name,v15⟩:St)]),(v12++[r122])⟩:TR) r126.1 r126.2 x119 (([]:List V)++(v14.drop ((wr ((v14.length:Int) - x45.a)).toNat)))).bind fun r129=>(bif Nat.ble (((v14.take (wr ((wr ((v14.length:Int) - x45.a)) - (1:Int))).toNat).length+[r129.1].length)*16) 140737488355328 then some (.next (r129.2.w.classes,r129.2.w.heap,r129.2.w.epoch,r129.2.fuel,r129.2.sends,r129.2.turns,r129.2.deep,r129.2.err,r129.2.sites,r129.2.of,v13,((v14.take (wr ((wr ((v14.length:Int) - x45.a)) - (1:Int))).toNat)++[r129.1]),(wr (v15+(1:Int))))) else none)))) else none) else none)) else none)) else none) else none) else (((bif decide (x45.op=(15:Int)) then some (.next (v10,v14,x45.a)) else (((bif decide (x45.op=(16:Int)) then ((Q9 N v14).bind fun r144=>(((bif decide (r144.1.k=(1:Int)) then some ((v10,x45.a)) else (((bif (!decide (r144.1.k=(2:Int))) then some ((11:Int)) else some (v10)):Option Int).bind fun v151=>some ((v151,(wr (v15+(1:Int))))))):Option (Int×Int)).bind fun (v146,v147)=>some (.next (v146,r144.2,v147)))) else (bif decide (x45.op=(17:Int)) then ((Q9 N v14).bind fun r156=>some (.ret (r156.1,(⟨(⟨v3,v4,v5⟩:Wd),v6,v7,v8,v9,v10,v11,v12⟩:TR)))) else some (.next (v10,v14,(wr (v15+(1:Int))))))):Option (D7 (V×TR) (Int×(List V)×Int))).bind fun o=>match o with|.ret r=>some (.ret r)|.next (v138,v139,v140)=>some (.next (v138,v139,v140)))):Option (D7 (V×TR) (Int×(List V)×Int))).bind fun o=>match o with|.ret r=>some (.ret r)|.next (v132,v133,v134)=>some (.next (v3,v4,v5,v6,v7,v8,v9,v132,v11,v12,v13,v133,v134))))))))))))))))):Option (D7 (V×TR) ((List Cl)×(List Ob)×Int×Int×Int×Int×Int×Int×(List St)×(List Int)×(List V)×(List V)×Int))).bind fun o=>match o with|.ret r=>some (.ret r)|.next (v47,v48,v49,v50,v51,v52,v53,v54,v55,v56,v57,v58,v59)=>(((bif decide (v59≤v15) then (((bif decide ((300:Int) < (wr (v52+(1:Int)))) then some ((16:Int)) else some (v54)):Option Int).bind fun v163=>some (((wr (v52+(1:Int))),v163))) else some ((v52,v54))):Option (Int×Int)).bind fun (v158,v159)=>G7 N gR a1 a2 a3 a4 n43 v47 v48 v49 v50 v51 v158 v53 v159 v55 v56 v57 v58 v59))) else some (.next (v3,v4,v5,v6,v7,v8,v9,v10,v11,v12)))

def aL9 (N:Nat) (gR:(Nat→TR→Int→Int→V→(List V)→Option (V×TR))) (a0:TR) (a1:Int) (a2:Me) (a3:V) (a4:(List V)):Option (V×TR) :=
  (bif (decide (0≤a2.temps) && decide (a2.temps≤140737488355328) && decide (a2.temps*16≤140737488355328)) then ((G7 N gR a1 a2 a3 a4 N a0.w.classes a0.w.heap a0.w.epoch a0.fuel a0.sends a0.turns a0.deep a0.err a0.sites a0.of (List.replicate a2.temps.toNat (⟨(0:Int),(0:Int)⟩:V)) ([]:List V) (0:Int)).bind fun o=>match o with|.ret r=>some r|.next (v29,v30,v31,v32,v33,v34,v35,v36,v37,v38)=>some ((⟨(0:Int),(0:Int)⟩:V),(⟨(⟨v29,v30,v31⟩:Wd),v32,v33,v34,v35,v36,v37,v38⟩:TR))) else none)

def K6 (N:Nat):Nat→(TR→Int→Int→V→(List V)→Option (V×TR))
  |0=>fun _ _ _ _ _=>none
  |n+1=>aK6 N (fun _=>aL9 N (fun _=>K6 N n))
def bA2 (N:Nat):TR→Int→Int→V→(List V)→Option (V×TR):=K6 N N

def aZ6 (N:Nat) (a0:Wd) (a1:O6) (a2:Int):Option (Wd×aL3×TR) :=
  ((aJ1 N a0 a1 a2).bind fun r1=>(bif (!decide (r1=(0:Int))) then some (a0,(⟨(⟨(0:Int),(0:Int)⟩:V),r1,(0:Int)⟩:aL3),(⟨a0,a2,(0:Int),(0:Int),(0:Int),(0:Int),([]:List St),([]:List Int)⟩:TR)) else ((aN5 N a0.heap a1.self_).bind fun r4=>((aM4 N a0 r4 a1.name).bind fun r6=>(bif decide (r6.2 < (0:Int)) then some (a0,(⟨(⟨(0:Int),(0:Int)⟩:V),(10:Int),(0:Int)⟩:aL3),(⟨a0,a2,(0:Int),(0:Int),(0:Int),(0:Int),([]:List St),([]:List Int)⟩:TR)) else ((bA2 N (⟨a0,a2,(0:Int),(0:Int),(0:Int),(0:Int),([]:List St),([]:List Int)⟩:TR) r6.1 r6.2 a1.self_ a1.args).bind fun r9=>(bif (!decide (r9.2.err=(0:Int))) then some (a0,(⟨(⟨(0:Int),(0:Int)⟩:V),r9.2.err,r9.2.sends⟩:aL3),r9.2) else some (r9.2.w,(⟨r9.1,(0:Int),r9.2.sends⟩:aL3),r9.2))))))))

def Y4 (N:Nat) (a1:(List Ins)):List Ins→Nat→Option (D7 Bool Unit)
  |[],k5=>some (.next ())
  |x11::rest8,k5=>((p8 a1 (k5:Int)).bind fun x14=>(bif (!(aH4 (J2 x11) (J2 x14))) then some (.ret false) else Y4 N a1 rest8 (k5+1)))

def aL7 (N:Nat) (a0:(List Ins)) (a1:(List Ins)):Option Bool :=
  (bif (!decide ((a0.length:Int)=(a1.length:Int))) then some false else ((Y4 N a1 a0 0).bind fun o=>match o with|.ret r=>some r|.next ()=>some true))

def U9 (N:Nat) (x21:Cl):List Me→Nat→Option (D7 Bool Unit)
  |[],k33=>some (.next ())
  |x39::rest36,k33=>((p8 x21.methods (k33:Int)).bind fun x42=>(((bif (!decide (x39.name=x42.name)) then some (true) else (bif (!decide (x39.args=x42.args)) then some (true) else (bif (!decide (x39.temps=x42.temps)) then some (true) else (bif (!decide (x39.prim=x42.prim)) then some (true) else ((aL7 N x39.code x42.code).bind fun r51=>some ((!r51))))))):Option Bool).bind fun v44=>(bif v44 then some (.ret false) else U9 N x21 rest36 (k33+1))))

def V3 (N:Nat) (a1:Wd):List Cl→Nat→Option (D7 Bool Unit)
  |[],k12=>some (.next ())
  |x18::rest15,k12=>((p8 a1.classes (k12:Int)).bind fun x21=>(((bif (!decide (x18.name=x21.name)) then some (true) else (bif (!decide (x18.super=x21.super)) then some (true) else (bif (!decide (x18.slots=x21.slots)) then some (true) else some ((!decide ((x18.methods.length:Int)=(x21.methods.length:Int))))))):Option Bool).bind fun v23=>(bif v23 then some (.ret false) else ((U9 N x21 x18.methods 0).bind fun o=>match o with|.ret r=>some (.ret r)|.next ()=>V3 N a1 rest15 (k12+1)))))

def V7 (N:Nat) (a1:Wd) (k55:Nat):List V→Nat→Option (D7 Bool Unit)
  |[],k76=>some (.next ())
  |x82::rest79,k76=>((p8 a1.heap (k55:Int)).bind fun x85=>((p8 x85.slots (k76:Int)).bind fun x87=>(bif (!(aH4 (eV x82) (eV x87))) then some (.ret false) else V7 N a1 k55 rest79 (k76+1))))

def V4 (N:Nat) (a1:Wd):List Ob→Nat→Option (D7 Bool Unit)
  |[],k55=>some (.next ())
  |x61::rest58,k55=>((((p8 a1.heap (k55:Int)).bind fun x67=>(bif (!decide (x61.cls=x67.cls)) then some (true) else ((p8 a1.heap (k55:Int)).bind fun x71=>some ((!decide ((x61.slots.length:Int)=(x71.slots.length:Int))))))):Option Bool).bind fun v64=>(bif v64 then some (.ret false) else ((V7 N a1 k55 x61.slots 0).bind fun o=>match o with|.ret r=>some (.ret r)|.next ()=>V4 N a1 rest58 (k55+1))))

def aJ8 (N:Nat) (a0:Wd) (a1:Wd):Option Bool :=
  (((bif (!decide (a0.epoch=a1.epoch)) then some (true) else (bif (!decide ((a0.classes.length:Int)=(a1.classes.length:Int))) then some (true) else some ((!decide ((a0.heap.length:Int)=(a1.heap.length:Int)))))):Option Bool).bind fun v1=>(bif v1 then some false else ((V3 N a1 a0.classes 0).bind fun o=>match o with|.ret r=>some r|.next ()=>((V4 N a1 a0.heap 0).bind fun o=>match o with|.ret r=>some r|.next ()=>some true))))

def aN3 (N:Nat) (a1:ByteArray):List Cl→Nat→Option (D7 (Wd×Int×Int) Unit)
  |[],k5=>some (.next ())
  |x11::rest8,k5=>(bif decide (x11.name=a1) then some (.ret ((⟨[],[],(0:Int)⟩:Wd),(0:Int),(7:Int))) else aN3 N a1 rest8 (k5+1))

def bM1 (N:Nat) (a0:Wd) (a1:ByteArray) (a2:Int) (a3:Int):Option (Wd×Int×Int) :=
  ((aE6 N a1).bind fun r1=>(bif (!r1) then some ((⟨[],[],(0:Int)⟩:Wd),(0:Int),(7:Int)) else ((aN3 N a1 a0.classes 0).bind fun o=>match o with|.ret r=>some r|.next ()=>(((bif decide (a2 < (0:Int)) then some (true) else some (decide ((a0.classes.length:Int)≤a2))):Option Bool).bind fun v15=>(bif v15 then some ((⟨[],[],(0:Int)⟩:Wd),(0:Int),(6:Int)) else (((bif decide (a3 < (0:Int)) then some (true) else (bif decide ((6:Int) < a3) then some (true) else ((Y0 N a0 a2).bind fun r26=>(bif decide ((6:Int) < (wr (a3+r26))) then some (true) else (bif decide ((0:Int) < a2) then some (decide (a2 < (4:Int))) else some (false)))))):Option Bool).bind fun v21=>(bif v21 then some ((⟨[],[],(0:Int)⟩:Wd),(0:Int),(3:Int)) else (bif decide ((12:Int)≤(a0.classes.length:Int)) then some ((⟨[],[],(0:Int)⟩:Wd),(0:Int),(5:Int)) else (bif Nat.ble ((([]:List Cl).length+a0.classes.length)*56) 140737488355328 then (bif Nat.ble (((([]:List Cl)++a0.classes).length+[(⟨a1,a2,a3,[]⟩:Cl)].length)*56) 140737488355328 then some ((⟨((([]:List Cl)++a0.classes)++[(⟨a1,a2,a3,[]⟩:Cl)]),a0.heap,a0.epoch⟩:Wd),(a0.classes.length:Int),(0:Int)) else none) else none)))))))))

def aH1 (N:Nat) (a2:Me):List Me→Nat→(List Me)→Bool→Bool→Option (((List Me)×Bool×Bool))
  |[],k10,v11,v12,v13=>some ((v11,v12,v13))
  |x25::rest22,k10,v11,v12,v13=>(((bif decide (x25.name=a2.name) then (bif Nat.ble ((v11.length+[a2].length)*64) 140737488355328 then some (((v11++[a2]),true,true)) else none) else (((bif (!v12) then some ((!(ltS x25.name a2.name || decide (x25.name=a2.name)))) else some (false)):Option Bool).bind fun v35=>(((bif v35 then (bif Nat.ble ((v11.length+[a2].length)*64) 140737488355328 then some (((v11++[a2]),true)) else none) else some ((v11,v12))):Option ((List Me)×Bool)).bind fun (v39,v40)=>(bif Nat.ble ((v39.length+[x25].length)*64) 140737488355328 then some (((v39++[x25]),v40,v13)) else none)))):Option ((List Me)×Bool×Bool)).bind fun (v28,v29,v30)=>aH1 N a2 rest22 (k10+1) v28 v29 v30)

def aT6 (N:Nat) (a0:Wd) (a1:Int) (a2:Me):Option (Wd×Int) :=
  (((bif decide (a1 < (0:Int)) then some (true) else some (decide ((a0.classes.length:Int)≤a1))):Option Bool).bind fun v1=>(bif v1 then some ((⟨[],[],(0:Int)⟩:Wd),(6:Int)) else ((p8 a0.classes a1).bind fun x7=>((aH1 N a2 x7.methods 0 ([]:List Me) false false).bind fun (v17,v18,v19)=>(((bif (!v18) then (bif Nat.ble ((v17.length+[a2].length)*64) 140737488355328 then some ((v17++[a2])) else none) else some (v17)):Option (List Me)).bind fun v46=>(((bif (!v19) then ((p8 a0.classes a1).bind fun x55=>some (decide ((8:Int)≤(x55.methods.length:Int)))) else some (false)):Option Bool).bind fun v51=>(bif v51 then some ((⟨[],[],(0:Int)⟩:Wd),(5:Int)) else (bif Nat.ble ((([]:List Cl).length+a0.classes.length)*56) 140737488355328 then ((p8 (([]:List Cl)++a0.classes) a1).bind fun x60=>some ((⟨((([]:List Cl)++a0.classes).set a1.toNat (⟨x60.name,x60.super,x60.slots,v46⟩:Cl)),a0.heap,(wr (a0.epoch+(1:Int)))⟩:Wd),(0:Int))) else none))))))))

def aC0 (N:Nat) (a0:F4) (a1:Int) (a2:ByteArray):Option ((Option Me)×F4) :=
  ((aI1 N a0.w a1 a2).bind fun r1=>(bif decide (r1.2 < (0:Int)) then some (none,(⟨a0.w,a0.m,a0.out,a0.temps,a0.at_,a0.fix⟩:F4)) else ((p8 a0.w.classes r1.1).bind fun x4=>((p8 x4.methods r1.2).bind fun x6=>some ((some x6),(⟨a0.w,a0.m,a0.out,a0.temps,a0.at_,a0.fix⟩:F4))))))

def F8 (N:Nat) (g1:(Ins→Option Bool)):List Ins→Nat→Option (D7 Int Unit)
  |[],k2=>some (.next ())
  |x8::rest5,k2=>((g1 x8).bind fun r11=>(bif r11 then some (.ret (k2:Int)) else F8 N g1 rest5 (k2+1)))

def P6 (N:Nat) (a0:(List Ins)) (g1:Ins→Option Bool):Option Int :=
  ((F8 N g1 a0 0).bind fun o=>match o with|.ret r=>some r|.next ()=>some (-1:Int))

def N8 (N:Nat) (a0:(List Ins)) (g1:Ins→Option Bool):Option Bool :=
  ((P6 N a0 g1).bind fun r1=>some (decide ((0:Int)≤r1)))

def aG7 (N:Nat) (a0:Ins):Option Bool :=
  (((bif decide (a0.op=(14:Int)) then some (true) else some (decide (a0.op=(13:Int)))):Option Bool).bind fun v1=>some v1)

def aQ9 (N:Nat) (a0:Me):Option Bool :=
  (((bif decide (a0.prim=(0:Int)) then ((N8 N a0.code (fun x0_=>aG7 N x0_)).bind fun r5=>some ((!r5))) else some (false)):Option Bool).bind fun v1=>some v1)

def aR5 (N:Nat) (a0:Me):Option Int :=
  some (wr ((wr ((wr ((3:Int)+a0.args))+(wr ((2:Int)*a0.temps))))+(a0.code.length:Int)))

def F9 (N:Nat) (a0:F4) (a1:Int) (a2:Int) (a3:Int) (a4:Int):Option F4 :=
  (bif Nat.ble ((a0.out.length+[(⟨a1,a2,a3,a4,ByteArray.empty⟩:Ins)].length)*48) 140737488355328 then some (⟨a0.w,a0.m,(a0.out++[(⟨a1,a2,a3,a4,ByteArray.empty⟩:Ins)]),a0.temps,a0.at_,a0.fix⟩:F4) else none)

def O4 (N:Nat) (a0:F4):Nat→Wd→Me→(List Ins)→Int→(List Int)→(List Int)→Int→Option ((Wd×Me×(List Ins)×Int×(List Int)×(List Int)))
  |0,_,_,_,_,_,_,_=>none
  |n30+1,v6,v7,v8,v9,v10,v11,v12=>(bif decide ((0:Int)≤v12) then ((F9 N (⟨v6,v7,v8,v9,v10,v11⟩:F4) (11:Int) (wr (a0.temps+v12)) (0:Int) (0:Int)).bind fun r32=>O4 N a0 n30 r32.w r32.m r32.out r32.temps r32.at_ r32.fix (wr (v12 - (1:Int)))) else some ((v6,v7,v8,v9,v10,v11)))

def O3 (N:Nat) (a0:F4) (a4:Me):Nat→Nat→Wd→Me→(List Ins)→Int→(List Int)→(List Int)→Option ((Wd×Me×(List Ins)×Int×(List Int)×(List Int)))
  |0,k34,v35,v36,v37,v38,v39,v40=>some ((v35,v36,v37,v38,v39,v40))
  |n57+1,k34,v35,v36,v37,v38,v39,v40=>((F9 N (⟨v35,v36,v37,v38,v39,v40⟩:F4) (6:Int) (0:Int) (0:Int) (0:Int)).bind fun r61=>((F9 N (⟨r61.w,r61.m,r61.out,r61.temps,r61.at_,r61.fix⟩:F4) (11:Int) (wr ((wr ((wr (a0.temps+(1:Int)))+a4.args))+(k34:Int))) (0:Int) (0:Int)).bind fun r63=>O3 N a0 a4 n57 (k34+1) r63.w r63.m r63.out r63.temps r63.at_ r63.fix))

def M4 (N:Nat) (a0:F4) (a4:Me) (v49:(List Ins)):List Ins→Nat→Wd→Me→(List Ins)→Int→(List Int)→(List Int)→Option ((Wd×Me×(List Ins)×Int×(List Int)×(List Int)))
  |[],k67,v68,v69,v70,v71,v72,v73=>some ((v68,v69,v70,v71,v72,v73))
  |x91::rest88,k67,v68,v69,v70,v71,v72,v73=>(((((((bif decide (x91.op=(1:Int)) then ((F9 N (⟨v68,v69,v70,v71,v72,v73⟩:F4) (3:Int) a0.temps (0:Int) (0:Int)).bind fun r119=>some ((r119.w,r119.m,r119.out,r119.temps,r119.at_,r119.fix))) else (((bif decide (x91.op=(2:Int)) then ((F9 N (⟨v68,v69,v70,v71,v72,v73⟩:F4) (3:Int) (wr ((wr (a0.temps+(1:Int)))+x91.a)) (0:Int) (0:Int)).bind fun r130=>some ((r130.w,r130.m,r130.out,r130.temps,r130.at_,r130.fix))) else (((bif decide (x91.op=(3:Int)) then some (decide (x91.op=(3:Int))) else some (decide (x91.op=(11:Int)))):Option Bool).bind fun v132=>(((bif v132 then ((F9 N (⟨v68,v69,v70,v71,v72,v73⟩:F4) x91.op (wr ((wr ((wr (a0.temps+(1:Int)))+a4.args))+x91.a)) (0:Int) (0:Int)).bind fun r145=>some ((r145.w,r145.m,r145.out,r145.temps,r145.at_,r145.fix))) else (((bif decide (x91.op=(4:Int)) then ((F9 N (⟨v68,v69,v70,v71,v72,v73⟩:F4) (19:Int) a0.temps x91.a (0:Int)).bind fun r156=>some ((r156.w,r156.m,r156.out,r156.temps,r156.at_,r156.fix))) else (((bif decide (x91.op=(12:Int)) then ((F9 N (⟨v68,v69,v70,v71,v72,v73⟩:F4) (20:Int) a0.temps x91.a (0:Int)).bind fun r167=>some ((r167.w,r167.m,r167.out,r167.temps,r167.at_,r167.fix))) else (((bif decide (x91.op=(15:Int)) then some (decide (x91.op=(15:Int))) else some (decide (x91.op=(16:Int)))):Option Bool).bind fun v169=>(((bif v169 then ((F9 N (⟨v68,v69,v70,v71,v72,v73⟩:F4) x91.op (wr ((v49.length:Int)+x91.a)) (0:Int) (0:Int)).bind fun r182=>some ((r182.w,r182.m,r182.out,r182.temps,r182.at_,r182.fix))) else (((bif decide (x91.op=(17:Int)) then ((F9 N (⟨v68,v69,v70,v71,v72,v73⟩:F4) (15:Int) (wr ((v49.length:Int)+(a4.code.length:Int))) (0:Int) (0:Int)).bind fun r194=>some ((r194.w,r194.m,r194.out,r194.temps,r194.at_,r194.fix))) else ((F9 N (⟨v68,v69,v70,v71,v72,v73⟩:F4) x91.op x91.a (0:Int) (0:Int)).bind fun r196=>some ((r196.w,r196.m,r196.out,r196.temps,r196.at_,r196.fix)))):Option (Wd×Me×(List Ins)×Int×(List Int)×(List Int))).bind fun (v184,v185,v186,v187,v188,v189)=>some ((v184,v185,v186,v187,v188,v189)))):Option (Wd×Me×(List Ins)×Int×(List Int)×(List Int))).bind fun (v173,v174,v175,v176,v177,v178)=>some ((v173,v174,v175,v176,v177,v178))))):Option (Wd×Me×(List Ins)×Int×(List Int)×(List Int))).bind fun (v158,v159,v160,v161,v162,v163)=>some ((v158,v159,v160,v161,v162,v163)))):Option (Wd×Me×(List Ins)×Int×(List Int)×(List Int))).bind fun (v147,v148,v149,v150,v151,v152)=>some ((v147,v148,v149,v150,v151,v152)))):Option (Wd×Me×(List Ins)×Int×(List Int)×(List Int))).bind fun (v136,v137,v138,v139,v140,v141)=>some ((v136,v137,v138,v139,v140,v141))))):Option (Wd×Me×(List Ins)×Int×(List Int)×(List Int))).bind fun (v121,v122,v123,v124,v125,v126)=>some ((v121,v122,v123,v124,v125,v126)))):Option (Wd×Me×(List Ins)×Int×(List Int)×(List Int))).bind fun (v110,v111,v112,v113,v114,v115)=>some ((v110,v111,v112,v113,v114,v115))):Option (Wd×Me×(List Ins)×Int×(List Int)×(List Int))).bind fun (v102,v103,v104,v105,v106,v107)=>some ((v102,v103,v104,v105,v106,v107))):Option (Wd×Me×(List Ins)×Int×(List Int)×(List Int))).bind fun (v94,v95,v96,v97,v98,v99)=>M4 N a0 a4 v49 rest88 (k67+1) v94 v95 v96 v97 v98 v99)

def aF1 (N:Nat) (a0:F4) (a1:Int) (a2:Int) (a3:Ins) (a4:Me):Option F4 :=
  ((F9 N (⟨a0.w,a0.m,a0.out,(wr (a0.temps+(wr ((wr ((1:Int)+a4.args))+a4.temps)))),a0.at_,a0.fix⟩:F4) (18:Int) a1 a3.a a2).bind fun r1=>((F9 N (⟨r1.w,r1.m,r1.out,r1.temps,r1.at_,r1.fix⟩:F4) (21:Int) (0:Int) (0:Int) (0:Int)).bind fun r3=>((O4 N a0 N r3.w r3.m r3.out r3.temps r3.at_ r3.fix a4.args).bind fun (v20,v21,v22,v23,v24,v25)=>((O3 N a0 a4 ((a4.temps - ((0:Nat):Int)).toNat) 0 v20 v21 v22 v23 v24 v25).bind fun (v47,v48,v49,v50,v51,v52)=>((M4 N a0 a4 v49 a4.code 0 v47 v48 v49 v50 v51 v52).bind fun (v80,v81,v82,v83,v84,v85)=>some (⟨v80,v81,v82,v83,v84,v85⟩:F4))))))

def U1 (N:Nat) (a3:(List Int)) (x14:Me):List Ins→Nat→Wd→Me→(List Ins)→Int→(List Int)→(List Int)→Bool→Option ((Wd×Me×(List Ins)×Int×(List Int)×(List Int)×Bool))
  |[],k17,v18,v19,v20,v21,v22,v23,v24=>some ((v18,v19,v20,v21,v22,v23,v24))
  |x44::rest41,k17,v18,v19,v20,v21,v22,v23,v24=>(((bif Nat.ble ((v22.length+[(v20.length:Int)].length)*8) 140737488355328 then (((bif decide (x44.op=(14:Int)) then (bif decide ((k17:Int) < (a3.length:Int)) then ((p8 a3 (k17:Int)).bind fun x64=>some (decide ((0:Int)≤x64))) else some (false)) else some (false)):Option Bool).bind fun v58=>(bif v58 then ((p8 a3 (k17:Int)).bind fun x67=>((aC0 N (⟨v18,v19,v20,v21,(v22++[(v20.length:Int)]),v23⟩:F4) x67 x44.name).bind fun r69=>match r69 with|(none,w71)=>(((bif decide (x44.op=(15:Int)) then some (true) else some (decide (x44.op=(16:Int)))):Option Bool).bind fun v73=>(((bif v73 then (bif Nat.ble ((w71.fix.length+[(w71.out.length:Int)].length)*8) 140737488355328 then some ((w71.fix++[(w71.out.length:Int)])) else none) else some (w71.fix)):Option (List Int)).bind fun v77=>(((bif decide (x44.op=(14:Int)) then some ((⟨x44.op,x44.a,x44.b,(k17:Int),x44.name⟩:Ins)) else some (x44)):Option Ins).bind fun v83=>(bif Nat.ble ((w71.out.length+[v83].length)*48) 140737488355328 then some ((w71.w,w71.m,(w71.out++[v83]),w71.temps,w71.at_,v77,v24)) else none))))|(some x72,w71)=>((((aQ9 N x72).bind fun r91=>(bif r91 then (bif decide (x72.args=x44.a) then ((aR5 N x72).bind fun r96=>(bif decide ((wr ((wr ((wr ((w71.out.length:Int)+r96))+(x14.code.length:Int))) - (k17:Int)))≤(240:Int)) then some (decide ((wr ((wr ((wr (w71.temps+(1:Int)))+x72.args))+x72.temps))≤(40:Int))) else some (false))) else some (false)) else some (false))):Option Bool).bind fun v88=>(bif v88 then ((p8 a3 (k17:Int)).bind fun x101=>((aF1 N (⟨w71.w,w71.m,w71.out,w71.temps,w71.at_,w71.fix⟩:F4) x101 (k17:Int) x44 x72).bind fun r103=>some ((r103.w,r103.m,r103.out,r103.temps,r103.at_,r103.fix,true)))) else (((bif decide (x44.op=(15:Int)) then some (true) else some (decide (x44.op=(16:Int)))):Option Bool).bind fun v105=>(((bif v105 then (bif Nat.ble ((w71.fix.length+[(w71.out.length:Int)].length)*8) 140737488355328 then some ((w71.fix++[(w71.out.length:Int)])) else none) else some (w71.fix)):Option (List Int)).bind fun v109=>(((bif decide (x44.op=(14:Int)) then some ((⟨x44.op,x44.a,x44.b,(k17:Int),x44.name⟩:Ins)) else some (x44)):Option Ins).bind fun v115=>(bif Nat.ble ((w71.out.length+[v115].length)*48) 140737488355328 then some ((w71.w,w71.m,(w71.out++[v115]),w71.temps,w71.at_,v109,v24)) else none)))))))) else (((bif decide (x44.op=(15:Int)) then some (true) else some (decide (x44.op=(16:Int)))):Option Bool).bind fun v120=>(((bif v120 then (bif Nat.ble ((v23.length+[(v20.length:Int)].length)*8) 140737488355328 then some ((v23++[(v20.length:Int)])) else none) else some (v23)):Option (List Int)).bind fun v124=>(((bif decide (x44.op=(14:Int)) then some ((⟨x44.op,x44.a,x44.b,(k17:Int),x44.name⟩:Ins)) else some (x44)):Option Ins).bind fun v130=>(bif Nat.ble ((v20.length+[v130].length)*48) 140737488355328 then some ((v18,v19,(v20++[v130]),v21,(v22++[(v20.length:Int)]),v124,v24)) else none)))))) else none):Option (Wd×Me×(List Ins)×Int×(List Int)×(List Int)×Bool)).bind fun (v47,v48,v49,v50,v51,v52,v53)=>U1 N a3 x14 rest41 (k17+1) v47 v48 v49 v50 v51 v52 v53)

def S9 (N:Nat) (v36:(List Int)) (v37:(List Int)):List Int→Nat→(List Ins)→Option ((List Ins))
  |[],k137,v138=>some (v138)
  |x146::rest143,k137,v138=>((p8 v37 (k137:Int)).bind fun x149=>((p8 v138 x149).bind fun x151=>((p8 v36 x151.a).bind fun x153=>((p8 v138 x149).bind fun x155=>S9 N v36 v37 rest143 (k137+1) (v138.set x149.toNat (⟨x155.op,x153,x155.b,x155.c,x155.name⟩:Ins))))))

def aQ5 (N:Nat) (a0:Wd) (a1:Int) (a2:Int) (a3:(List Int)):Option (Fs×Bool) :=
  (((bif decide (a1 < (0:Int)) then some (true) else (bif decide ((a0.classes.length:Int)≤a1) then some (true) else (bif decide (a2 < (0:Int)) then some (true) else ((p8 a0.classes a1).bind fun x8=>some (decide ((x8.methods.length:Int)≤a2)))))):Option Bool).bind fun v1=>(bif v1 then some ((⟨(0:Int),ByteArray.empty,(0:Int),(0:Int),[]⟩:Fs),false) else ((p8 a0.classes a1).bind fun x12=>((p8 x12.methods a2).bind fun x14=>((U1 N a3 x14 x14.code 0 a0 x14 ([]:List Ins) x14.temps ([]:List Int) ([]:List Int) false).bind fun (v32,v33,v34,v35,v36,v37,v38)=>(bif (!v38) then some ((⟨(0:Int),ByteArray.empty,(0:Int),(0:Int),[]⟩:Fs),false) else ((S9 N v36 v37 v37 0 v34).bind fun v140=>some ((⟨a1,x14.name,a0.epoch,v35,v140⟩:Fs),true))))))))

def aG4 (N:Nat):List Ln→Nat→Int→Int→Option ((Int×Int))
  |[],k23,v24,v25=>some ((v24,v25))
  |x35::rest32,k23,v24,v25=>(((((bif decide (v25 < x35.found) then some (true) else (bif decide (x35.found=v25) then (bif decide ((0:Int) < v25) then some (decide (x35.cls < v24)) else some (false)) else some (false))):Option Bool).bind fun v42=>(((bif v42 then some ((x35.cls,x35.found)) else some ((v24,v25))):Option (Int×Int)).bind fun (v48,v49)=>some ((v48,v49)))):Option (Int×Int)).bind fun (v38,v39)=>aG4 N rest32 (k23+1) v38 v39)

def aG6 (N:Nat) (a1:St):List Tl→Nat→Int→Int→Option ((Int×Int))
  |[],k2,v3,v4=>some ((v3,v4))
  |x14::rest11,k2,v3,v4=>(((bif (!(aH4 (eSt x14.site) (eSt a1))) then some ((v3,v4)) else ((aG4 N x14.classes 0 v3 v4).bind fun (v28,v29)=>some ((v28,v29)))):Option (Int×Int)).bind fun (v17,v18)=>aG6 N a1 rest11 (k2+1) v17 v18)

def a02 (N:Nat) (a0:(List Tl)) (a1:St):Option (Int×Int) :=
  ((aG6 N a1 a0 0 (-1:Int) (0:Int)).bind fun (v7,v8)=>some (v7,v8))

def aK0 (N:Nat):List Ln→Nat→Int→Option (Int)
  |[],k19,v20=>some (v20)
  |x28::rest25,k19,v20=>aK0 N rest25 (k19+1) (wr (v20+x28.found))

def aK4 (N:Nat) (a1:St):List Tl→Nat→Int→Option (Int)
  |[],k2,v3=>some (v3)
  |x11::rest8,k2,v3=>(((bif (!(aH4 (eSt x11.site) (eSt a1))) then some (v3) else ((aK0 N x11.classes 0 v3).bind fun v22=>some (v22))):Option Int).bind fun v14=>aK4 N a1 rest8 (k2+1) v14)

def bB8 (N:Nat) (a0:(List Tl)) (a1:St):Option Int :=
  ((aK4 N a1 a0 0 (0:Int)).bind fun v5=>some v5)

def aW2 (N:Nat) (a0:Wd) (a1:(List Tl)) (a2:St) (a3:ByteArray) (a4:Int):Option Int :=
  ((a02 N a1 a2).bind fun r1=>((bB8 N a1 a2).bind fun r3=>(((bif decide (r1.1 < (0:Int)) then some (true) else (bif decide (r3 < (2:Int)) then some (true) else some (decide ((wr ((2:Int)*r1.2))≤r3)))):Option Bool).bind fun v5=>(bif v5 then some (-1:Int) else ((aI1 N a0 r1.1 a3).bind fun r11=>(((bif decide (r11.2 < (0:Int)) then some (true) else ((p8 a0.classes r11.1).bind fun x17=>((p8 x17.methods r11.2).bind fun x19=>((aQ9 N x19).bind fun r21=>(bif (!r21) then some (true) else ((p8 a0.classes r11.1).bind fun x24=>((p8 x24.methods r11.2).bind fun x26=>some ((!decide (x26.args=a4)))))))))):Option Bool).bind fun v13=>(bif v13 then some (-1:Int) else some r1.1)))))))

def aC3 (N:Nat) (a0:Wd) (a1:(List Tl)) (a2:Int) (x14:Me):List Ins→Nat→(List Int)→Option ((List Int))
  |[],k17,v18=>some (v18)
  |x26::rest23,k17,v18=>(((bif decide (x26.op=(14:Int)) then ((aW2 N a0 a1 (⟨a2,x14.name,(k17:Int)⟩:St) x26.name x26.a).bind fun r33=>some (r33)) else some ((-1:Int))):Option Int).bind fun v29=>(bif Nat.ble ((v18.length+[v29].length)*8) 140737488355328 then aC3 N a0 a1 a2 x14 rest23 (k17+1) (v18++[v29]) else none))

def aJ4 (N:Nat) (a0:Wd) (a1:(List Tl)) (a2:Int) (a3:Int):Option (List Int) :=
  (((bif decide (a2 < (0:Int)) then some (true) else (bif decide ((a0.classes.length:Int)≤a2) then some (true) else (bif decide (a3 < (0:Int)) then some (true) else ((p8 a0.classes a2).bind fun x8=>some (decide ((x8.methods.length:Int)≤a3)))))):Option Bool).bind fun v1=>(bif v1 then some ([]:List Int) else ((p8 a0.classes a2).bind fun x12=>((p8 x12.methods a3).bind fun x14=>((aC3 N a0 a1 a2 x14 x14.code 0 ([]:List Int)).bind fun v20=>some v20)))))

def aI4 (N:Nat) (a0:Wd) (a1:(List Tl)) (k2:Nat):List Me→Nat→(List Fs)→Option ((List Fs))
  |[],k15,v16=>some (v16)
  |x24::rest21,k15,v16=>((((aJ4 N a0 a1 (k2:Int) (k15:Int)).bind fun r30=>((aQ5 N a0 (k2:Int) (k15:Int) r30).bind fun r32=>(((bif r32.2 then (bif Nat.ble ((v16.length+[r32.1].length)*64) 140737488355328 then some ((v16++[r32.1])) else none) else some (v16)):Option (List Fs)).bind fun v34=>some (v34)))):Option (List Fs)).bind fun v27=>aI4 N a0 a1 k2 rest21 (k15+1) v27)

def aI2 (N:Nat) (a0:Wd) (a1:(List Tl)):List Cl→Nat→(List Fs)→Option ((List Fs))
  |[],k2,v3=>some (v3)
  |x11::rest8,k2,v3=>((aI4 N a0 a1 k2 x11.methods 0 v3).bind fun v18=>aI2 N a0 a1 rest8 (k2+1) v18)

def bA0 (N:Nat) (a0:Wd) (a1:(List Tl)):Option (List Fs) :=
  ((aI2 N a0 a1 a0.classes 0 ([]:List Fs)).bind fun v5=>some v5)

def aP6 (N:Nat) (a0:St) (a1:Int) (a2:ByteArray) (b0:Wd):Option (Int×Int) :=
  ((aI1 N b0 a1 a2).bind fun r1=>some (r1.1,r1.2))

def aD2 (N:Nat) (a0:Int) (a1:Int) (b1:Wd):List Fs→Nat→Option (D7 (Fs×Bool) Unit)
  |[],k2=>some (.next ())
  |x8::rest5,k2=>(((bif decide (x8.cls=a0) then ((p8 b1.classes a0).bind fun x15=>((p8 x15.methods a1).bind fun x17=>(bif decide (x8.name=x17.name) then some (decide (x8.epoch=b1.epoch)) else some (false)))) else some (false)):Option Bool).bind fun v11=>(bif v11 then some (.ret (x8,true)) else aD2 N a0 a1 b1 rest5 (k2+1)))

def aP0 (N:Nat) (a0:Int) (a1:Int) (b0:(List Fs)) (b1:Wd):Option (Fs×Bool) :=
  ((aD2 N a0 a1 b1 b0 0).bind fun o=>match o with|.ret r=>some r|.next ()=>some ((⟨(0:Int),ByteArray.empty,(0:Int),(0:Int),[]⟩:Fs),false))

def a94 (N:Nat) (a0:Wd) (a1:O6) (a2:Int) (a3:(List Fs)):Option (Wd×aL3) :=
  ((aP7 N a0 a1 a2 (fun x0_ x1_ x2_=>aP6 N x0_ x1_ x2_ a0) (fun x0_ x1_=>aP0 N x0_ x1_ a3 a0)).bind fun r1=>some (r1.1,r1.2))

def aQ6 (N:Nat):Option Bool :=
  ((bF1 N).bind fun r1=>((bM1 N r1 (⟨#[65]⟩:ByteArray) (0:Int) (0:Int)).bind fun r3=>((aT6 N r3.1 r3.2.1 (⟨(⟨#[103]⟩:ByteArray),(0:Int),(0:Int),(0:Int),[(⟨(5:Int),(7:Int),(0:Int),(0:Int),ByteArray.empty⟩:Ins),(⟨(17:Int),(0:Int),(0:Int),(0:Int),ByteArray.empty⟩:Ins)]⟩:Me)).bind fun r5=>((aT6 N r5.1 r3.2.1 (⟨(⟨#[109]⟩:ByteArray),(0:Int),(0:Int),(0:Int),[(⟨(1:Int),(0:Int),(0:Int),(0:Int),ByteArray.empty⟩:Ins),(⟨(14:Int),(0:Int),(0:Int),(0:Int),(⟨#[103]⟩:ByteArray)⟩:Ins),(⟨(17:Int),(0:Int),(0:Int),(0:Int),ByteArray.empty⟩:Ins)]⟩:Me)).bind fun r7=>((bA0 N (⟨r7.1.classes,[(⟨r3.2.1,[]⟩:Ob)],r7.1.epoch⟩:Wd) [(⟨(⟨r3.2.1,(⟨#[109]⟩:ByteArray),(1:Int)⟩:St),[(⟨r3.2.1,(9:Int)⟩:Ln)]⟩:Tl)]).bind fun r9=>((a94 N (⟨r7.1.classes,[(⟨r3.2.1,[]⟩:Ob)],r7.1.epoch⟩:Wd) (⟨(⟨(4:Int),(0:Int)⟩:V),(⟨#[109]⟩:ByteArray),[]⟩:O6) (9:Int) r9).bind fun r11=>(((bif decide ((r9.length:Int)=(1:Int)) then ((p8 r9 (0:Int)).bind fun x18=>(bif decide (x18.name=(⟨#[109]⟩:ByteArray)) then some ((aH4 (bE9 r11.2) [.int (3:Int),.int (7:Int),.int (0:Int),.int (2:Int)])) else some (false))) else some (false)):Option Bool).bind fun v13=>some v13)))))))

def aB1 (N:Nat):List Ln→Nat→Option (D7 Bool Unit)
  |[],k12=>some (.next ())
  |x18::rest15,k12=>(((bif decide (x18.found < (0:Int)) then some (true) else some (decide ((1000000:Int) < x18.found))):Option Bool).bind fun v21=>(bif v21 then some (.ret false) else aB1 N rest15 (k12+1)))

def aB0 (N:Nat):List Tl→Nat→Option (D7 Bool Unit)
  |[],k2=>some (.next ())
  |x8::rest5,k2=>((aB1 N x8.classes 0).bind fun o=>match o with|.ret r=>some (.ret r)|.next ()=>aB0 N rest5 (k2+1))

def aP9 (N:Nat) (a0:(List Tl)):Option Bool :=
  ((aB0 N a0 0).bind fun o=>match o with|.ret r=>some r|.next ()=>some true)

def aO4 (N:Nat) (a0:Wd) (a1:O6) (a2:Int) (a3:(List Tl)):Option Bool :=
  ((aQ6 N).bind fun r1=>(bif (!r1) then some false else ((((aT1 N a0).bind fun r7=>(bif (!decide (r7=(0:Int))) then some (true) else ((aP9 N a3).bind fun r10=>some ((!r10))))):Option Bool).bind fun v4=>(bif v4 then some true else ((bA0 N a0 a3).bind fun r13=>((a94 N a0 a1 a2 r13).bind fun r15=>((aZ6 N a0 a1 a2).bind fun r17=>(((bif (aH4 (bE9 r15.2) (bE9 r17.2.1)) then ((aJ8 N r15.1 r17.1).bind fun r23=>some (r23)) else some (false)):Option Bool).bind fun v19=>some v19))))))))

theorem bV5 {N:Nat} {fr:List l6} {i:Nat} {r:V×List l6} (h:Y5 N fr i=some r) {x x':l6} (hx:fr[i]?=some x) (hx':r.2[i]?=some x'):x'.self_=x.self_:=by
  unfold Y5 at h
  obtain ⟨y,hy,h⟩:=j4 h
  rw [hx] at hy
  cases hy
  obtain ⟨v,hv,h⟩:=j4 h
  obtain ⟨hg,h⟩:=C9 h
  obtain rfl:=Option.some.inj h
  have hl:=(List.getElem?_eq_some_iff.1 hx).1
  simp only [List.getElem?_set_self hl,Option.some.injEq] at hx'
  rw [←hx']
end Go.Proofs.Ytkecefjmcimemaa
