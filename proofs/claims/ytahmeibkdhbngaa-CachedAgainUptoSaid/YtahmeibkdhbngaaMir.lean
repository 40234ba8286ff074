/- Functions that mirror the program's. Printed by mir.py. -/
import Derived.Test.YtahmeibkdhbngaaHd
namespace Go.Proofs.Ytahmeibkdhbngaa
open Go.RowKit
set_option linter.unusedVariables false

def M4 (N:Nat) (a0:List Ln):Option (List Ln):=bif Nat.ble (a0.length*16) 140737488355328 then some a0 else none

def aB2 (N:Nat):List Ce→Nat→(List Ce)→Option ((List Ce))
  |[],k2,v3=>some (v3)
  |x11::rest8,k2,v3=>((M4 N x11.lines).bind fun r14=>(bif Nat.ble ((v3.length+[(⟨x11.site,x11.epoch,x11.many,r14⟩:Ce)].length)*72) 140737488355328 then aB2 N rest8 (k2+1) (v3++[(⟨x11.site,x11.epoch,x11.many,r14⟩:Ce)]) else none))

def aN8 (N:Nat) (a0:(List Ce)):Option (List Ce) :=
  ((aB2 N a0 0 ([]:List Ce)).bind fun v5=>some v5)

def y8 (N:Nat) (g1:(Ce→Option Bool)):List Ce→Nat→Option (D9 Int Unit)
  |[],k2=>some (.next ())
  |x8::rest5,k2=>((g1 x8).bind fun r11=>(bif r11 then some (.ret (k2:Int)) else y8 N g1 rest5 (k2+1)))

def I6 (N:Nat) (a0:(List Ce)) (g1:Ce→Option Bool):Option Int :=
  ((y8 N g1 a0 0).bind fun o=>match o with|.ret r=>some r|.next ()=>some (-1:Int))

def Y9 (N:Nat) (a0:Ce) (b0:St):Option Bool :=
  some (aF1 (eSt a0.site) (eSt b0))

def aH6 (N:Nat) (a0:(List Ce)) (a1:St):Option Int :=
  ((I6 N a0 (fun x0_=>Y9 N x0_ a1)).bind fun r1=>some r1)

def y9 (N:Nat) (g1:(Ln→Option Bool)):List Ln→Nat→Option (D9 Int Unit)
  |[],k2=>some (.next ())
  |x8::rest5,k2=>((g1 x8).bind fun r11=>(bif r11 then some (.ret (k2:Int)) else y9 N g1 rest5 (k2+1)))

def G7 (N:Nat) (a0:(List Ln)) (g1:Ln→Option Bool):Option Int :=
  ((y9 N g1 a0 0).bind fun o=>match o with|.ret r=>some r|.next ()=>some (-1:Int))

def J6 (N:Nat) (a0:(List Ln)) (g1:Ln→Option Bool):Option Bool :=
  ((G7 N a0 g1).bind fun r1=>some (decide ((0:Int)≤r1)))

def aK8 (N:Nat) (a0:Ln) (b0:Int):Option Bool :=
  some (decide (a0.cls=b0))

/-- a cell, once something is put into it -/
def aB7 (e:Int) (x:Ce):Ce:=if x.epoch=e then x else ⟨x.site,e,false,[]⟩
def K9 (c f:Int) (y:Ce):Ce:=if y.many=true∨0≤ixf (fun t:Ln=>decide (t.cls=c)) y.lines then y else if (3:Int)≤(y.lines.length:Int) then ⟨y.site,y.epoch,true,[]⟩ else ⟨y.site,y.epoch,y.many,y.lines++[⟨c,f⟩]⟩
def aJ0 (e c f:Int) (x:Ce):Ce:=K9 c f (aB7 e x)
def aZ0 (N:Nat) (a0:List Ce) (a1:St) (a2:Int) (a3:Int) (a4:Int):Option (List Ce) :=
  bif (Nat.ble ((a0.length+1)*72) 140737488355328 && a0.all fun t=>Nat.ble ((t.lines.length+1)*16) 140737488355328) then
    some ((ixd (fun t:Ce=>decide (t.site=a1)) ⟨a1,a2,false,[]⟩ a0).1.modify (ixd (fun t:Ce=>decide (t.site=a1)) ⟨a1,a2,false,[]⟩ a0).2 (aJ0 a2 a3 a4)) else none

def aE7 (N:Nat) (a3:Int):List Ln→Nat→Option (D9 Int Unit)
  |[],k13=>some (.next ())
  |x19::rest16,k13=>(bif decide (x19.cls=a3) then some (.ret x19.found) else aE7 N a3 rest16 (k13+1))

def aY1 (N:Nat) (a0:(List Ce)) (a1:St) (a2:Int) (a3:Int):Option Int :=
  ((aH6 N a0 a1).bind fun r1=>(((bif decide (r1 < (0:Int)) then some (true) else ((w9 a0 r1).bind fun x7=>some ((!decide (x7.epoch=a2))))):Option Bool).bind fun v3=>(bif v3 then some (-1:Int) else ((w9 a0 r1).bind fun x10=>((aE7 N a3 x10.lines 0).bind fun o=>match o with|.ret r=>some r|.next ()=>some (-1:Int))))))

def y5 (N:Nat) (a0:(List Me)) (a1:ByteArray) (g2:(Me→ByteArray→Option Int)):Nat→Int→Int→Option (Int)
  |0,_,_=>none
  |n12+1,v3,v4=>(bif decide (v3 < v4) then (((bif decide (0≤(wr (v3+v4))) then (bif decide (F9 ((wr (v3+v4)) / 2)) then ((w9 a0 ((wr (v3+v4)) / 2)).bind fun x20=>((g2 x20 a1).bind fun r22=>(((bif decide (r22 < (0:Int)) then some (((wr (((wr (v3+v4)) / 2)+(1:Int))),v4)) else some ((v3,((wr (v3+v4)) / 2)))):Option (Int×Int)).bind fun (v24,v25)=>some ((v24,v25))))) else none) else none):Option (Int×Int)).bind fun (v14,v15)=>y5 N a0 a1 g2 n12 v14 v15) else some (v3))

def E9 (N:Nat) (a0:(List Me)) (a1:ByteArray) (g2:Me→ByteArray→Option Int):Option (Int×Bool) :=
  ((y5 N a0 a1 g2 N (0:Int) (a0.length:Int)).bind fun v7=>(((bif decide (v7 < (a0.length:Int)) then ((w9 a0 v7).bind fun x33=>((g2 x33 a1).bind fun r35=>some (decide (r35=(0:Int))))) else some (false)):Option Bool).bind fun v29=>some (v7,v29)))

def cmp_isNaN_string (N:Nat) (a0:ByteArray):Option Bool :=
  some (!decide (a0=a0))

def aH2 (N:Nat) (a0:ByteArray) (a1:ByteArray):Option Int :=
  ((cmp_isNaN_string N a0).bind fun r1=>((cmp_isNaN_string N a1).bind fun r3=>(bif r1 then (bif r3 then some (0:Int) else some (-1:Int)) else (bif r3 then some (1:Int) else (bif (Z6 a0 a1) then some (-1:Int) else (bif (!(Z6 a0 a1 || decide (a0=a1))) then some (1:Int) else some (0:Int)))))))

def aB0 (N:Nat) (a0:Me) (a1:ByteArray):Option Int :=
  ((aH2 N a0.name a1).bind fun r1=>some r1)

def Z4 (N:Nat) (a0:Wd) (a2:ByteArray):Nat→Int→Int→Option (D9 (Int×Int) Unit)
  |0,_,_=>none
  |n10+1,v2,v3=>(((bif decide ((0:Int)≤v2) then (bif decide (v2 < (a0.classes.length:Int)) then some (decide (v3≤(a0.classes.length:Int))) else some (false)) else some (false)):Option Bool).bind fun v11=>(bif v11 then ((w9 a0.classes v2).bind fun x19=>((E9 N x19.methods a2 (fun x0_ x1_=>aB0 N x0_ x1_)).bind fun r21=>(bif r21.2 then some (.ret (v2,r21.1)) else ((w9 a0.classes v2).bind fun x24=>Z4 N a0 a2 n10 x24.super (wr (v3+(1:Int))))))) else some (.next ())))

def aG5 (N:Nat) (a0:Wd) (a1:Int) (a2:ByteArray):Option (Int×Int) :=
  ((Z4 N a0 a2 N a1 (0:Int)).bind fun o=>match o with|.ret r=>some r|.next ()=>some ((-1:Int),(-1:Int)))

def aU5 (N:Nat) (a0:(List Ce)) (a1:Wd) (a2:St) (a3:Int) (a4:ByteArray):Option ((List Ce)×Int×Int×Bool) :=
  ((aY1 N a0 a2 a1.epoch a3).bind fun r1=>(((bif decide ((0:Int)≤r1) then some (decide (r1 < (a1.classes.length:Int))) else some (false)):Option Bool).bind fun v3=>(bif v3 then ((aG5 N a1 r1 a4).bind fun r9=>((aN8 N a0).bind fun r11=>some (r11,r9.1,r9.2,true))) else ((aG5 N a1 a3 a4).bind fun r13=>(bif decide (r13.2 < (0:Int)) then ((aN8 N a0).bind fun r16=>some (r16,r13.1,r13.2,false)) else ((aZ0 N a0 a2 a1.epoch a3 r13.1).bind fun r18=>some (r18,r13.1,r13.2,false)))))))

def aA5 (N:Nat) (a0:ByteArray):Nat→Nat→Option (D9 Bool Unit)
  |0,k2=>some (.next ())
  |n7+1,k2=>((((byO a0 (k2:Int)).bind fun u14=>(bif decide ((u14.toNat:Int) < (33:Int)) then some (true) else ((byO a0 (k2:Int)).bind fun u17=>some (decide ((126:Int) < (u17.toNat:Int)))))):Option Bool).bind fun v11=>(bif v11 then some (.ret false) else aA5 N a0 n7 (k2+1)))

def aD6 (N:Nat) (a0:ByteArray):Option Bool :=
  ((aA5 N a0 (((a0.size:Int) - ((0:Nat):Int)).toNat) 0).bind fun o=>match o with|.ret r=>some r|.next ()=>(((bif decide ((0:Int) < (a0.size:Int)) then some (decide ((a0.size:Int)≤(12:Int))) else some (false)):Option Bool).bind fun v20=>some v20))

def aC7 (N:Nat) (a0:Wd):Nat→Int→(List Int)→Option ((List Int))
  |0,_,_=>none
  |n11+1,v2,v3=>(((bif decide ((0:Int)≤v2) then (bif decide (v2 < (a0.classes.length:Int)) then some (decide ((v3.length:Int)≤(a0.classes.length:Int))) else some (false)) else some (false)):Option Bool).bind fun v12=>(bif v12 then (bif Nat.ble ((v3.length+[v2].length)*8) 140737488355328 then ((w9 a0.classes v2).bind fun x22=>aC7 N a0 n11 x22.super (v3++[v2])) else none) else some (v3)))

def aU8 (N:Nat) (a0:Wd) (a1:Int):Option (List Int) :=
  ((aC7 N a0 N a1 ([]:List Int)).bind fun v6=>some v6)

def Y3 (N:Nat) (a0:Wd) (r1:(List Int)):List Int→Nat→Int→Option (Int)
  |[],k4,v5=>some (v5)
  |x13::rest10,k4,v5=>((w9 r1 (k4:Int)).bind fun x16=>((w9 a0.classes x16).bind fun x18=>Y3 N a0 r1 rest10 (k4+1) (wr (v5+x18.slots))))

def X0 (N:Nat) (a0:Wd) (a1:Int):Option Int :=
  ((aU8 N a0 a1).bind fun r1=>((Y3 N a0 r1 r1 0 (0:Int)).bind fun v7=>some v7))

def J9 (N:Nat) (a0:Wd) (a1:Int) (a2:Me) (a3:Ins):Option Int :=
  (((((bif decide (a3.op=(1:Int)) then some (decide (a3.op=(1:Int))) else (((bif decide (a3.op=(6:Int)) then some (decide (a3.op=(6:Int))) else (((bif decide (a3.op=(7:Int)) then some (decide (a3.op=(7:Int))) else (((bif decide (a3.op=(8:Int)) then some (decide (a3.op=(8:Int))) else (((bif decide (a3.op=(9:Int)) then some (decide (a3.op=(9:Int))) else (((bif decide (a3.op=(10:Int)) then some (decide (a3.op=(10:Int))) else some (decide (a3.op=(17:Int)))):Option Bool).bind fun v25=>some (v25))):Option Bool).bind fun v21=>some (v21))):Option Bool).bind fun v17=>some (v17))):Option Bool).bind fun v13=>some (v13))):Option Bool).bind fun v9=>some (v9))):Option Bool).bind fun v5=>(((bif v5 then some (.next ((0:Int),(0:Int))) else (((bif decide (a3.op=(2:Int)) then some (.next ((0:Int),(wr (a2.args - (1:Int))))) else (((bif decide (a3.op=(3:Int)) then some (decide (a3.op=(3:Int))) else some (decide (a3.op=(11:Int)))):Option Bool).bind fun v39=>(((bif v39 then some (.next ((0:Int),(wr (a2.temps - (1:Int))))) else (((bif decide (a3.op=(4:Int)) then some (decide (a3.op=(4:Int))) else some (decide (a3.op=(12:Int)))):Option Bool).bind fun v48=>(((bif v48 then ((X0 N a0 a1).bind fun r57=>some (.next ((0:Int),(wr (r57 - (1:Int)))))) else (((bif decide (a3.op=(5:Int)) then some (.next ((-1073741824:Int),(1073741824:Int))) else (((bif decide (a3.op=(13:Int)) then (((bif decide ((0:Int) < a3.a) then some (decide (a3.a < (4:Int))) else some (false)):Option Bool).bind fun v69=>(bif v69 then some (.ret (3:Int)) else some (.next (wr ((a0.classes.length:Int) - (1:Int)))))) else (((bif decide (a3.op=(14:Int)) then some (.next (4:Int)) else (((bif decide (a3.op=(15:Int)) then some (decide (a3.op=(15:Int))) else some (decide (a3.op=(16:Int)))):Option Bool).bind fun v78=>(bif v78 then some (.next (wr ((a2.code.length:Int) - (1:Int)))) else some (.ret (1:Int))))):Option (D9 Int Int)).bind fun o=>match o with|.ret r=>some (.ret r)|.next v74=>some (.next v74))):Option (D9 Int Int)).bind fun o=>match o with|.ret r=>some (.ret r)|.next v64=>some (.next ((0:Int),v64)))):Option (D9 Int (Int×Int))).bind fun o=>match o with|.ret r=>some (.ret r)|.next (v59,v60)=>some (.next (v59,v60)))):Option (D9 Int (Int×Int))).bind fun o=>match o with|.ret r=>some (.ret r)|.next (v52,v53)=>some (.next (v52,v53))))):Option (D9 Int (Int×Int))).bind fun o=>match o with|.ret r=>some (.ret r)|.next (v43,v44)=>some (.next (v43,v44))))):Option (D9 Int (Int×Int))).bind fun o=>match o with|.ret r=>some (.ret r)|.next (v34,v35)=>some (.next (v34,v35)))):Option (D9 Int (Int×Int))).bind fun o=>match o with|.ret r=>some (.ret r)|.next (v29,v30)=>some (.next (v29,v30)))):Option (D9 Int (Int×Int))).bind fun o=>match o with|.ret r=>some r|.next (v1,v2)=>(((bif decide (a3.a < v1) then some (true) else some (decide (v2 < a3.a))):Option Bool).bind fun v84=>(bif v84 then some (3:Int) else (((bif decide (a3.op=(14:Int)) then ((aD6 N a3.name).bind fun r93=>(bif (!r93) then some (true) else (bif (!decide (a3.op=(14:Int))) then (bif (!decide (a3.name=(⟨#[]⟩:ByteArray))) then some (true) else (bif (!decide (a3.b=(0:Int))) then some (true) else some ((!decide (a3.c=(0:Int)))))) else (bif (!decide (a3.b=(0:Int))) then some (true) else some ((!decide (a3.c=(0:Int)))))))) else (bif (!decide (a3.op=(14:Int))) then (bif (!decide (a3.name=(⟨#[]⟩:ByteArray))) then some (true) else (bif (!decide (a3.b=(0:Int))) then some (true) else some ((!decide (a3.c=(0:Int)))))) else (bif (!decide (a3.b=(0:Int))) then some (true) else some ((!decide (a3.c=(0:Int))))))):Option Bool).bind fun v89=>(bif v89 then some (2:Int) else some (0:Int))))))

def aQ8 (N:Nat) (a0:Ins) (a1:Int):Option (Int×Int×(List Int)) :=
  (((bif decide (a0.op=(9:Int)) then some (decide (a0.op=(9:Int))) else (((bif decide (a0.op=(11:Int)) then some (decide (a0.op=(11:Int))) else some (decide (a0.op=(12:Int)))):Option Bool).bind fun v5=>some (v5))):Option Bool).bind fun v1=>(bif v1 then some ((1:Int),(-1:Int),[(wr (a1+(1:Int)))]) else (bif decide (a0.op=(10:Int)) then some ((1:Int),(1:Int),[(wr (a1+(1:Int)))]) else (bif decide (a0.op=(14:Int)) then (bif decide (F9 (-a0.a)) then some ((wr (a0.a+(1:Int))),(-a0.a),[(wr (a1+(1:Int)))]) else none) else (bif decide (a0.op=(15:Int)) then some ((0:Int),(0:Int),[a0.a]) else (bif decide (a0.op=(16:Int)) then some ((1:Int),(-1:Int),[(wr (a1+(1:Int))),a0.a]) else (bif decide (a0.op=(17:Int)) then some ((1:Int),(-1:Int),([]:List Int)) else some ((0:Int),(1:Int),[(wr (a1+(1:Int)))]))))))))

def P9 (N:Nat):Nat→Nat→(List Int)→Option ((List Int))
  |0,k4,v5=>some (v5)
  |n12+1,k4,v5=>((w9 v5 (k4:Int)).bind fun x16=>P9 N n12 (k4+1) (v5.set ((k4:Int).toNat) (-1:Int)))

def P8 (N:Nat) (x42:Int) (r61:(Int×Int×(List Int))):List Int→Nat→(List Int)→(List Int)→Option (((List Int)×(List Int)))
  |[],k73,v74,v75=>some ((v74,v75))
  |x85::rest82,k73,v74,v75=>((w9 r61.2.2 (k73:Int)).bind fun x88=>(bif Nat.ble ((v74.length+[x88].length)*8) 140737488355328 then (bif Nat.ble ((v75.length+[(wr (x42+r61.2.1))].length)*8) 140737488355328 then P8 N x42 r61 rest82 (k73+1) (v74++[x88]) (v75++[(wr (x42+r61.2.1))]) else none) else none))

def P7 (N:Nat) (a0:Me):Nat→(List Int)→(List Int)→(List Int)→Int→Option (D9 ((List Int)×M0) (List Int))
  |0,_,_,_,_=>none
  |n32+1,v19,v20,v21,v22=>(bif decide (v22 < (v20.length:Int)) then ((((w9 v20 v22).bind fun x40=>((w9 v21 v22).bind fun x42=>(((bif decide ((a0.code.length:Int)≤x40) then some (true) else some (decide (x40 < (0:Int)))):Option Bool).bind fun v44=>(bif v44 then some (.ret (([]:List Int),(⟨(9:Int),(a0.code.length:Int)⟩:M0))) else ((w9 v19 x40).bind fun x51=>(bif decide ((0:Int)≤x51) then ((w9 v19 x40).bind fun x54=>(bif (!decide (x54=x42)) then some (.ret (([]:List Int),(⟨(8:Int),x40⟩:M0))) else some (.next (v19,v20,v21)))) else ((w9 v19 x40).bind fun x57=>((w9 a0.code x40).bind fun x59=>((aQ8 N x59 x40).bind fun r61=>(((bif decide (x42 < r61.1) then some (true) else ((w9 a0.code x40).bind fun x67=>(bif decide (x67.op=(17:Int)) then some ((!decide (x42=(1:Int)))) else some (false)))):Option Bool).bind fun v63=>(bif v63 then some (.ret (([]:List Int),(⟨(8:Int),x40⟩:M0))) else (bif decide ((12:Int) < (wr (x42+r61.2.1))) then some (.ret (([]:List Int),(⟨(4:Int),x40⟩:M0))) else ((P8 N x42 r61 r61.2.2 0 v20 v21).bind fun (v78,v79)=>some (.next ((v19.set x40.toNat x42),v78,v79))))))))))))))):Option (D9 ((List Int)×M0) ((List Int)×(List Int)×(List Int)))).bind fun o=>match o with|.ret r=>some (.ret r)|.next (v35,v36,v37)=>P7 N a0 n32 v35 v36 v37 (wr (v22+(1:Int)))) else some (.next v19))

def aD8 (N:Nat) (a0:Me):Option ((List Int)×M0) :=
  (bif (decide (0≤(a0.code.length:Int)) && decide ((a0.code.length:Int)≤140737488355328) && decide ((a0.code.length:Int)*8≤140737488355328)) then ((P9 N ((((List.replicate (a0.code.length:Int).toNat (0:Int)).length:Int) - ((0:Nat):Int)).toNat) 0 (List.replicate (a0.code.length:Int).toNat (0:Int))).bind fun v7=>((P7 N a0 N v7 [(0:Int)] [(0:Int)] (0:Int)).bind fun o=>match o with|.ret r=>some r|.next v27=>some (v27,(⟨(0:Int),(0:Int)⟩:M0)))) else none)

def K5 (N:Nat) (a0:Wd) (a1:Int) (a2:Me):List Ins→Nat→Option (D9 M0 Unit)
  |[],k26=>some (.next ())
  |x32::rest29,k26=>((J9 N a0 a1 a2 x32).bind fun r35=>(bif (!decide (r35=(0:Int))) then some (.ret (⟨r35,(k26:Int)⟩:M0)) else K5 N a0 a1 a2 rest29 (k26+1)))

def T9 (N:Nat) (a0:Wd) (a1:Int) (a2:Me):Option M0 :=
  (((bif decide (a1 < (0:Int)) then some (true) else some (decide ((a0.classes.length:Int)≤a1))):Option Bool).bind fun v1=>(bif v1 then some (⟨(6:Int),(0:Int)⟩:M0) else ((aD6 N a2.name).bind fun r7=>(bif (!r7) then some (⟨(7:Int),(0:Int)⟩:M0) else (((bif decide (a2.args < (0:Int)) then some (true) else (bif decide ((4:Int) < a2.args) then some (true) else (bif decide (a2.temps < (0:Int)) then some (true) else some (decide ((6:Int) < a2.temps))))):Option Bool).bind fun v10=>(bif v10 then some (⟨(3:Int),(0:Int)⟩:M0) else (bif (!decide (a2.prim=(0:Int))) then some (⟨(1:Int),(0:Int)⟩:M0) else (((bif decide ((a2.code.length:Int)=(0:Int)) then some (true) else some (decide ((60:Int) < (a2.code.length:Int)))):Option Bool).bind fun v18=>(bif v18 then some (⟨(5:Int),(0:Int)⟩:M0) else ((K5 N a0 a1 a2 a2.code 0).bind fun o=>match o with|.ret r=>some r|.next ()=>((aD8 N a2).bind fun r38=>some r38.2)))))))))))

def aN9 (N:Nat) (a0:V) (a1:Int):Option Int :=
  (((bif decide (a0.k < (0:Int)) then some (true) else some (decide ((4:Int) < a0.k))):Option Bool).bind fun v1=>(bif v1 then some (1:Int) else (((bif decide (a0.k < (3:Int)) then some ((!decide (a0.n=(0:Int)))) else some (false)):Option Bool).bind fun v6=>(bif v6 then some (2:Int) else (((bif decide (a0.k=(3:Int)) then (bif decide (a0.n < (-1073741824:Int)) then some (true) else some (decide ((1073741824:Int) < a0.n))) else some (false)):Option Bool).bind fun v11=>(bif v11 then some (3:Int) else (((bif decide (a0.k=(4:Int)) then (bif decide (a0.n < (0:Int)) then some (true) else some (decide (a1≤a0.n))) else some (false)):Option Bool).bind fun v17=>(bif v17 then some (6:Int) else some (0:Int)))))))))

def U6 (N:Nat) (x24:Cl):List Cl→Nat→Option (D9 Int Unit)
  |[],k39=>some (.next ())
  |x45::rest42,k39=>(bif decide (x45.name=x24.name) then some (.ret (7:Int)) else U6 N x24 rest42 (k39+1))

def Q8 (N:Nat) (a0:Wd) (r1:Wd):List Cl→Nat→Option (D9 Int Unit)
  |[],k18=>some (.next ())
  |x24::rest21,k18=>((((aD6 N x24.name).bind fun r30=>(bif (!r30) then some (true) else (bif decide ((k18:Int) < (4:Int)) then ((w9 r1.classes (k18:Int)).bind fun x34=>some ((!decide (x24.name=x34.name)))) else some (false)))):Option Bool).bind fun v27=>(bif v27 then some (.ret (7:Int)) else (bif (decide (0≤(k18:Int)) && decide ((k18:Int)≤(a0.classes.length:Int))) then ((U6 N x24 (a0.classes.take (k18:Int).toNat) 0).bind fun o=>match o with|.ret r=>some (.ret r)|.next ()=>(((bif decide ((k18:Int) < (4:Int)) then ((w9 r1.classes (k18:Int)).bind fun x53=>(bif (!decide (x24.super=x53.super)) then some (.ret (3:Int)) else some (.next (0:Int)))) else (((bif decide (x24.super < (0:Int)) then some (true) else (bif decide ((k18:Int)≤x24.super) then some (true) else (bif decide ((0:Int) < x24.super) then some (decide (x24.super < (4:Int))) else some (false)))):Option Bool).bind fun v56=>(bif v56 then some (.ret (3:Int)) else some (.next (6:Int))))):Option (D9 Int Int)).bind fun o=>match o with|.ret r=>some (.ret r)|.next v49=>(((bif decide (x24.slots < (0:Int)) then some (true) else some (decide (v49 < x24.slots))):Option Bool).bind fun v63=>(bif v63 then some (.ret (3:Int)) else Q8 N a0 r1 rest21 (k18+1))))) else none)))

def U5 (N:Nat) (k69:Nat) (x90:Me):List Me→Nat→Bool→Option (Bool)
  |[],k103,v104=>some (v104)
  |x112::rest109,k103,v104=>(((((bif v104 then some (true) else (bif decide ((k69:Int)=(3:Int)) then (bif decide (x112.name=x90.name) then (bif decide (x112.prim=x90.prim) then (bif decide (x90.args=(1:Int)) then (bif decide (x90.temps=(0:Int)) then some (decide ((x90.code.length:Int)=(0:Int))) else some (false)) else some (false)) else some (false)) else some (false)) else some (false))):Option Bool).bind fun v118=>some (v118)):Option Bool).bind fun v115=>U5 N k69 x90 rest109 (k103+1) v115)

def Q5 (N:Nat) (a0:Wd) (r1:Wd) (k69:Nat) (x75:Cl):List Me→Nat→Option (D9 Int Unit)
  |[],k84=>some (.next ())
  |x90::rest87,k84=>(((bif decide ((0:Int) < (k84:Int)) then ((w9 x75.methods (wr ((k84:Int) - (1:Int)))).bind fun x97=>some ((!Z6 x97.name x90.name))) else some (false)):Option Bool).bind fun v93=>(bif v93 then some (.ret (7:Int)) else ((w9 r1.classes (3:Int)).bind fun x100=>((U5 N k69 x90 x100.methods 0 false).bind fun v106=>((T9 N a0 (k69:Int) x90).bind fun r128=>(((bif (!v106) then some ((!decide (r128.err=(0:Int)))) else some (false)):Option Bool).bind fun v130=>(bif v130 then some (.ret r128.err) else Q5 N a0 r1 k69 x75 rest87 (k84+1))))))))

def Y2 (N:Nat) (a0:Wd) (r1:Wd):List Cl→Nat→Option (D9 Int Unit)
  |[],k69=>some (.next ())
  |x75::rest72,k69=>((X0 N a0 (k69:Int)).bind fun r78=>(bif decide ((6:Int) < r78) then some (.ret (3:Int)) else (bif decide ((8:Int) < (x75.methods.length:Int)) then some (.ret (5:Int)) else ((Q5 N a0 r1 k69 x75 x75.methods 0).bind fun o=>match o with|.ret r=>some (.ret r)|.next ()=>Y2 N a0 r1 rest72 (k69+1)))))

def U8 (N:Nat) (a0:Wd):List V→Nat→Option (D9 Int Unit)
  |[],k163=>some (.next ())
  |x169::rest166,k163=>((aN9 N x169 (a0.heap.length:Int)).bind fun r173=>(bif (!decide (r173=(0:Int))) then some (.ret r173) else U8 N a0 rest166 (k163+1)))

def U7 (N:Nat) (a0:Wd):List Ob→Nat→Option (D9 Int Unit)
  |[],k136=>some (.next ())
  |x142::rest139,k136=>(((bif decide (x142.cls < (0:Int)) then some (true) else (bif decide ((0:Int) < x142.cls) then (bif decide (x142.cls < (4:Int)) then some (true) else (bif decide ((a0.classes.length:Int)≤x142.cls) then some (true) else ((X0 N a0 x142.cls).bind fun r154=>some ((!decide ((x142.slots.length:Int)=r154)))))) else (bif decide ((a0.classes.length:Int)≤x142.cls) then some (true) else ((X0 N a0 x142.cls).bind fun r159=>some ((!decide ((x142.slots.length:Int)=r159))))))):Option Bool).bind fun v145=>(bif v145 then some (.ret (8:Int)) else ((U8 N a0 x142.slots 0).bind fun o=>match o with|.ret r=>some (.ret r)|.next ()=>U7 N a0 rest139 (k136+1))))

def aN7 (N:Nat) (a0:Wd):Option Int :=
  ((a15 N).bind fun r1=>(((bif decide ((a0.classes.length:Int) < (4:Int)) then some (true) else (bif decide ((12:Int) < (a0.classes.length:Int)) then some (true) else some (decide ((60:Int) < (a0.heap.length:Int))))):Option Bool).bind fun v3=>(bif v3 then some (5:Int) else (((bif decide (a0.epoch < (0:Int)) then some (true) else some (decide ((1073741824:Int) < a0.epoch))):Option Bool).bind fun v12=>(bif v12 then some (3:Int) else ((Q8 N a0 r1 a0.classes 0).bind fun o=>match o with|.ret r=>some r|.next ()=>((Y2 N a0 r1 a0.classes 0).bind fun o=>match o with|.ret r=>some r|.next ()=>((U7 N a0 a0.heap 0).bind fun o=>match o with|.ret r=>some r|.next ()=>some (0:Int)))))))))

def aB3 (N:Nat):List Tl→Nat→(List Tl)→Option ((List Tl))
  |[],k2,v3=>some (v3)
  |x11::rest8,k2,v3=>((M4 N x11.classes).bind fun r14=>(bif Nat.ble ((v3.length+[(⟨x11.site,r14⟩:Tl)].length)*56) 140737488355328 then aB3 N rest8 (k2+1) (v3++[(⟨x11.site,r14⟩:Tl)]) else none))

def aX7 (N:Nat) (a0:(List Tl)):Option (List Tl) :=
  ((aB3 N a0 0 ([]:List Tl)).bind fun v5=>some v5)

def aC5 (N:Nat) (a0:ByteArray):Nat→Nat→Option (D9 Bool Unit)
  |0,k9=>some (.next ())
  |n14+1,k9=>((((byO a0 (k9:Int)).bind fun u21=>(bif decide ((u21.toNat:Int)≤(32:Int)) then some (true) else ((byO a0 (k9:Int)).bind fun u24=>some (decide ((126:Int) < (u24.toNat:Int)))))):Option Bool).bind fun v18=>(bif v18 then some (.ret false) else aC5 N a0 n14 (k9+1)))

def aT9 (N:Nat) (a0:ByteArray):Option Bool :=
  (((bif decide ((a0.size:Int) < (1:Int)) then some (true) else some (decide ((12:Int) < (a0.size:Int)))):Option Bool).bind fun v1=>(bif v1 then some false else ((aC5 N a0 (((a0.size:Int) - ((0:Nat):Int)).toNat) 0).bind fun o=>match o with|.ret r=>some r|.next ()=>some true)))

def aQ6 (N:Nat) (a0:V) (a1:Int):Option Int :=
  (((((bif decide (a0.k=(0:Int)) then some (decide (a0.k=(0:Int))) else (((bif decide (a0.k=(1:Int)) then some (decide (a0.k=(1:Int))) else some (decide (a0.k=(2:Int)))):Option Bool).bind fun v7=>some (v7))):Option Bool).bind fun v3=>(((bif v3 then (bif (!decide (a0.n=(0:Int))) then some (.ret (2:Int)) else some (.next ())) else (((bif decide (a0.k=(3:Int)) then (((bif decide (a0.n < (-1073741824:Int)) then some (true) else some (decide ((1073741824:Int) < a0.n))):Option Bool).bind fun v18=>(bif v18 then some (.ret (3:Int)) else some (.next ()))) else (bif decide (a0.k=(4:Int)) then (((bif decide (a0.n < (0:Int)) then some (true) else some (decide (a1≤a0.n))):Option Bool).bind fun v24=>(bif v24 then some (.ret (6:Int)) else some (.next ()))) else some (.ret (1:Int)))):Option (D9 Int Unit)).bind fun o=>match o with|.ret r=>some (.ret r)|.next ()=>some (.next ()))):Option (D9 Int Unit)).bind fun o=>match o with|.ret r=>some (.ret r)|.next ()=>some (.next ()))):Option (D9 Int Unit)).bind fun o=>match o with|.ret r=>some r|.next ()=>some (0:Int))

def aE5 (N:Nat) (a0:Wd) (a1:O4):List V→Nat→Option (D9 Int Unit)
  |[],k13=>some (.next ())
  |x19::rest16,k13=>((w9 ([a1.self_]++a1.args) (k13:Int)).bind fun x22=>((aQ6 N x22 (a0.heap.length:Int)).bind fun r25=>(bif (!decide (r25=(0:Int))) then some (.ret r25) else aE5 N a0 a1 rest16 (k13+1))))

def aY7 (N:Nat) (a0:Wd) (a1:O4) (a2:Int):Option Int :=
  ((aT9 N a1.name).bind fun r1=>(bif (!r1) then some (7:Int) else (bif decide ((4:Int) < (a1.args.length:Int)) then some (5:Int) else (((bif decide (a2 < (0:Int)) then some (true) else some (decide ((400:Int) < a2))):Option Bool).bind fun v6=>(bif v6 then some (3:Int) else (bif Nat.ble (([a1.self_].length+a1.args.length)*16) 140737488355328 then ((aE5 N a0 a1 ([a1.self_]++a1.args) 0).bind fun o=>match o with|.ret r=>some r|.next ()=>some (0:Int)) else none))))))

def aD9 (N:Nat) (a0:List V):Option (List V):=bif Nat.ble (a0.length*16) 140737488355328 then some a0 else none

def aB5 (N:Nat):List Ob→Nat→(List Ob)→Option ((List Ob))
  |[],k2,v3=>some (v3)
  |x11::rest8,k2,v3=>((aD9 N x11.slots).bind fun r14=>(bif Nat.ble ((v3.length+[(⟨x11.cls,r14⟩:Ob)].length)*32) 140737488355328 then aB5 N rest8 (k2+1) (v3++[(⟨x11.cls,r14⟩:Ob)]) else none))

def aS0 (N:Nat) (a0:(List Ob)):Option (List Ob) :=
  ((aB5 N a0 0 ([]:List Ob)).bind fun v5=>some v5)

def aK6 (N:Nat) (a0:List Ins):Option (List Ins):=bif Nat.ble (a0.length*48) 140737488355328 then some a0 else none

def aM8 (N:Nat) (a0:Me):Option Me :=
  ((aK6 N a0.code).bind fun r1=>some (⟨a0.name,a0.args,a0.temps,a0.prim,r1⟩:Me))

def aB9 (N:Nat):List Me→Nat→(List Me)→Option ((List Me))
  |[],k17,v18=>some (v18)
  |x26::rest23,k17,v18=>((aM8 N x26).bind fun r29=>(bif Nat.ble ((v18.length+[r29].length)*64) 140737488355328 then aB9 N rest23 (k17+1) (v18++[r29]) else none))

def aB6 (N:Nat):List Cl→Nat→(List Cl)→Option ((List Cl))
  |[],k4,v5=>some (v5)
  |x13::rest10,k4,v5=>((aB9 N x13.methods 0 ([]:List Me)).bind fun v20=>(bif Nat.ble ((v5.length+[(⟨x13.name,x13.super,x13.slots,v20⟩:Cl)].length)*56) 140737488355328 then aB6 N rest10 (k4+1) (v5++[(⟨x13.name,x13.super,x13.slots,v20⟩:Cl)]) else none))

def aJ2 (N:Nat) (a0:Wd):Option Wd :=
  ((aS0 N a0.heap).bind fun r1=>((aB6 N a0.classes 0 ([]:List Cl)).bind fun v7=>some (⟨v7,r1,a0.epoch⟩:Wd)))

def aH8 (N:Nat) (a0:(List Ob)) (a1:V):Option Int :=
  (bif decide (a1.k=(0:Int)) then some (1:Int) else (((bif decide (a1.k=(1:Int)) then some (decide (a1.k=(1:Int))) else some (decide (a1.k=(2:Int)))):Option Bool).bind fun v2=>(bif v2 then some (2:Int) else (bif decide (a1.k=(3:Int)) then some (3:Int) else (((bif decide (a1.k=(4:Int)) then (bif decide ((0:Int)≤a1.n) then some (decide (a1.n < (a0.length:Int))) else some (false)) else some (false)):Option Bool).bind fun v8=>(bif v8 then ((w9 a0 a1.n).bind fun x15=>some x15.cls) else some (0:Int)))))))

def I5 (N:Nat) (a0:l7) (a1:Int):Option l7 :=
  (((bif decide (a0.err=(0:Int)) then some (a1) else some (a0.err)):Option Int).bind fun v1=>some (⟨(⟨a0.w.classes,a0.w.heap,a0.w.epoch⟩:Wd),a0.fuel,a0.sends,a0.turns,a0.frames,a0.back,v1⟩:l7))

def U4 (N:Nat) (a0:l7) (a1:Bool):Option (Bool×l7) :=
  (((((bif decide (a0.fuel≤a0.sends) then ((I5 N (⟨(⟨a0.w.classes,a0.w.heap,a0.w.epoch⟩:Wd),a0.fuel,a0.sends,a0.turns,a0.frames,a0.back,a0.err⟩:l7) (13:Int)).bind fun r18=>some (.next (r18.fuel,r18.sends,r18.turns,r18.back.k,r18.back.n,r18.err))) else (((bif a1 then some (decide ((20:Int)≤(a0.frames.length:Int))) else some (false)):Option Bool).bind fun v20=>(bif v20 then ((I5 N (⟨(⟨a0.w.classes,a0.w.heap,a0.w.epoch⟩:Wd),a0.fuel,a0.sends,a0.turns,a0.frames,a0.back,a0.err⟩:l7) (14:Int)).bind fun r26=>some (.next (r26.fuel,r26.sends,r26.turns,r26.back.k,r26.back.n,r26.err))) else some (.ret (true,(⟨(⟨a0.w.classes,a0.w.heap,a0.w.epoch⟩:Wd),a0.fuel,(wr (a0.sends+(1:Int))),a0.turns,a0.frames,a0.back,a0.err⟩:l7)))))):Option (D9 (Bool×l7) (Int×Int×Int×Int×Int×Int))).bind fun o=>match o with|.ret r=>some (.ret r)|.next (v9,v10,v11,v12,v13,v14)=>some (.next (v9,v10,v11,v12,v13,v14))):Option (D9 (Bool×l7) (Int×Int×Int×Int×Int×Int))).bind fun o=>match o with|.ret r=>some r|.next (v1,v2,v3,v4,v5,v6)=>some (false,(⟨(⟨a0.w.classes,a0.w.heap,a0.w.epoch⟩:Wd),v1,v2,v3,a0.frames,(⟨v4,v5⟩:V),v6⟩:l7)))

def aE2 (N:Nat) (a0:Int):Option V :=
  (bif (decide ((1073741825:Int)≠0) && decide (F9 (a0.tmod (1073741825:Int)))) then some (⟨(3:Int),(a0.tmod (1073741825:Int))⟩:V) else none)

def aP0 (N:Nat) (a0:Bool):Option V :=
  (bif a0 then some (⟨(2:Int),(0:Int)⟩:V) else some (⟨(1:Int),(0:Int)⟩:V))

def aU4 (N:Nat) (a0:Int) (a1:V) (a2:V):Option (V×Int) :=
  (((bif (!decide (a1.k=(3:Int))) then some (true) else some ((!decide (a2.k=(3:Int))))):Option Bool).bind fun v1=>(bif v1 then some ((⟨(0:Int),(0:Int)⟩:V),(12:Int)) else (bif decide (a0=(1:Int)) then ((aE2 N (wr (a1.n+a2.n))).bind fun r7=>some (r7,(0:Int))) else (bif decide (a0=(2:Int)) then ((aE2 N (wr (a1.n - a2.n))).bind fun r10=>some (r10,(0:Int))) else (bif decide (a0=(3:Int)) then ((aE2 N (wr (a1.n*a2.n))).bind fun r13=>some (r13,(0:Int))) else (bif decide (a0=(4:Int)) then ((aP0 N (decide (a1.n < a2.n))).bind fun r16=>some (r16,(0:Int))) else (bif decide (a0=(5:Int)) then ((aP0 N (decide (a1.n=a2.n))).bind fun r19=>some (r19,(0:Int))) else some ((⟨(0:Int),(0:Int)⟩:V),(1:Int)))))))))

def V7 (N:Nat) (a0:l7) (a1:V):Option l7 :=
  (bif decide ((a0.frames.length:Int)=(0:Int)) then some (⟨(⟨a0.w.classes,a0.w.heap,a0.w.epoch⟩:Wd),a0.fuel,a0.sends,a0.turns,a0.frames,a1,a0.err⟩:l7) else ((w9 a0.frames (wr ((a0.frames.length:Int) - (1:Int)))).bind fun x4=>(bif Nat.ble ((x4.stack.length+[a1].length)*16) 140737488355328 then some (⟨(⟨a0.w.classes,a0.w.heap,a0.w.epoch⟩:Wd),a0.fuel,a0.sends,a0.turns,(a0.frames.set ((wr ((a0.frames.length:Int) - (1:Int))).toNat) (⟨x4.class_,x4.method,x4.fast,x4.code,x4.self_,x4.args,x4.temps,(x4.stack++[a1]),x4.at_⟩:l6)),a0.back,a0.err⟩:l7) else none)))

def Y6 (N:Nat) (a0:l7) (gq:Int→Int→Option (Fs×Bool)) (a1:Int) (a2:Int) (a3:V) (a4:(List V)):Option l7 :=
  ((w9 a0.w.classes a1).bind fun x1=>((w9 x1.methods a2).bind fun x3=>(bif (!decide (x3.args=(a4.length:Int))) then ((I5 N (⟨(⟨a0.w.classes,a0.w.heap,a0.w.epoch⟩:Wd),a0.fuel,a0.sends,a0.turns,a0.frames,a0.back,a0.err⟩:l7) (8:Int)).bind fun r7=>some (⟨(⟨a0.w.classes,a0.w.heap,a0.w.epoch⟩:Wd),r7.fuel,r7.sends,r7.turns,a0.frames,r7.back,r7.err⟩:l7)) else (bif (!decide (x3.prim=(0:Int))) then ((U4 N (⟨(⟨a0.w.classes,a0.w.heap,a0.w.epoch⟩:Wd),a0.fuel,a0.sends,a0.turns,a0.frames,a0.back,a0.err⟩:l7) false).bind fun r10=>(bif (!r10.1) then some (⟨(⟨a0.w.classes,a0.w.heap,a0.w.epoch⟩:Wd),r10.2.fuel,r10.2.sends,r10.2.turns,a0.frames,r10.2.back,r10.2.err⟩:l7) else ((w9 a4 (0:Int)).bind fun x13=>((aU4 N x3.prim a3 x13).bind fun r15=>(bif (!decide (r15.2=(0:Int))) then ((I5 N (⟨(⟨a0.w.classes,a0.w.heap,a0.w.epoch⟩:Wd),r10.2.fuel,r10.2.sends,r10.2.turns,a0.frames,r10.2.back,r10.2.err⟩:l7) r15.2).bind fun r18=>some (⟨(⟨a0.w.classes,a0.w.heap,a0.w.epoch⟩:Wd),r18.fuel,r18.sends,r18.turns,a0.frames,r18.back,r18.err⟩:l7)) else ((V7 N (⟨(⟨a0.w.classes,a0.w.heap,a0.w.epoch⟩:Wd),r10.2.fuel,r10.2.sends,r10.2.turns,a0.frames,r10.2.back,r10.2.err⟩:l7) r15.1).bind fun r20=>some (⟨(⟨a0.w.classes,a0.w.heap,a0.w.epoch⟩:Wd),r20.fuel,r20.sends,r20.turns,r20.frames,r20.back,r20.err⟩:l7))))))) else ((U4 N (⟨(⟨a0.w.classes,a0.w.heap,a0.w.epoch⟩:Wd),a0.fuel,a0.sends,a0.turns,a0.frames,a0.back,a0.err⟩:l7) true).bind fun r22=>(bif (!r22.1) then some (⟨(⟨a0.w.classes,a0.w.heap,a0.w.epoch⟩:Wd),r22.2.fuel,r22.2.sends,r22.2.turns,a0.frames,r22.2.back,r22.2.err⟩:l7) else ((aD9 N a4).bind fun r25=>(bif (decide (0≤x3.temps) && decide (x3.temps≤140737488355328) && decide (x3.temps*16≤140737488355328)) then ((gq a1 a2).bind fun r28=>(((bif r28.2 then (bif (decide (0≤r28.1.temps) && decide (r28.1.temps≤140737488355328) && decide (r28.1.temps*16≤140737488355328)) then some ((true,r28.1.code,(List.replicate r28.1.temps.toNat (⟨(0:Int),(0:Int)⟩:V)))) else none) else some ((false,x3.code,(List.replicate x3.temps.toNat (⟨(0:Int),(0:Int)⟩:V))))):Option (Bool×(List Ins)×(List V))).bind fun (v30,v31,v32)=>(bif Nat.ble ((a0.frames.length+[(⟨a1,a2,v30,v31,a3,r25,v32,[],(0:Int)⟩:l6)].length)*144) 140737488355328 then some (⟨(⟨a0.w.classes,a0.w.heap,a0.w.epoch⟩:Wd),r22.2.fuel,r22.2.sends,r22.2.turns,(a0.frames++[(⟨a1,a2,v30,v31,a3,r25,v32,[],(0:Int)⟩:l6)]),r22.2.back,r22.2.err⟩:l7) else none))) else none))))))))

def aB8 (N:Nat) (a0:l7) (gl:St→Int→ByteArray→q9→Option (Int×Int×q9)) (gq:Int→Int→Option (Fs×Bool)) (sb:q9) (a1:Nat) (a2:Ins) (a3:Int):Option (q9×l7) :=
  ((a0.frames[a1]?).bind fun x1=>(bif (decide (0≤(wr ((x1.stack.length:Int) - a2.a))) && decide ((wr ((x1.stack.length:Int) - a2.a))≤(x1.stack.length:Int))) then ((aD9 N (x1.stack.drop ((wr ((x1.stack.length:Int) - a2.a)).toNat))).bind fun r5=>((w9 x1.stack (wr ((wr ((x1.stack.length:Int) - a2.a)) - (1:Int)))).bind fun x7=>((w9 a0.w.classes x1.class_).bind fun x9=>((w9 x9.methods x1.method).bind fun x11=>(((bif x1.fast then some (a2.c) else some (a3)):Option Int).bind fun v13=>((aH8 N a0.w.heap x7).bind fun r17=>((gl (⟨x1.class_,x11.name,v13⟩:St) r17 a2.name sb).bind fun r19=>(bif decide (r19.2.1 < (0:Int)) then ((I5 N (⟨(⟨a0.w.classes,a0.w.heap,a0.w.epoch⟩:Wd),a0.fuel,a0.sends,a0.turns,a0.frames,a0.back,a0.err⟩:l7) (10:Int)).bind fun r22=>some (r19.2.2,(⟨(⟨a0.w.classes,a0.w.heap,a0.w.epoch⟩:Wd),r22.fuel,r22.sends,r22.turns,a0.frames,r22.back,r22.err⟩:l7))) else (bif (decide (0≤(wr ((wr ((x1.stack.length:Int) - a2.a)) - (1:Int)))) && decide ((wr ((wr ((x1.stack.length:Int) - a2.a)) - (1:Int)))≤(x1.stack.length:Int))) then ((Y6 N (⟨(⟨a0.w.classes,a0.w.heap,a0.w.epoch⟩:Wd),a0.fuel,a0.sends,a0.turns,(a0.frames.set a1 (⟨x1.class_,x1.method,x1.fast,x1.code,x1.self_,x1.args,x1.temps,(x1.stack.take (wr ((wr ((x1.stack.length:Int) - a2.a)) - (1:Int))).toNat),x1.at_⟩:l6)),a0.back,a0.err⟩:l7) gq r19.1 r19.2.1 x7 r5).bind fun r25=>some (r19.2.2,(⟨(⟨a0.w.classes,a0.w.heap,a0.w.epoch⟩:Wd),r25.fuel,r25.sends,r25.turns,r25.frames,r25.back,r25.err⟩:l7))) else none))))))))) else none))

def aA3 (N:Nat) (a0:l7) (a1:Nat) (a2:Int):Option l7 :=
  ((a0.frames[a1]?).bind fun x1=>(((bif decide (a2 < x1.at_) then (((bif decide ((300:Int) < (wr (a0.turns+(1:Int)))) then ((I5 N (⟨(⟨a0.w.classes,a0.w.heap,a0.w.epoch⟩:Wd),a0.fuel,a0.sends,(wr (a0.turns+(1:Int))),a0.frames,a0.back,a0.err⟩:l7) (16:Int)).bind fun r21=>some ((r21.fuel,r21.sends,r21.turns,r21.back.k,r21.back.n,r21.err))) else some ((a0.fuel,a0.sends,(wr (a0.turns+(1:Int))),a0.back.k,a0.back.n,a0.err))):Option (Int×Int×Int×Int×Int×Int)).bind fun (v12,v13,v14,v15,v16,v17)=>some ((v12,v13,v14,v15,v16,v17))) else some ((a0.fuel,a0.sends,a0.turns,a0.back.k,a0.back.n,a0.err))):Option (Int×Int×Int×Int×Int×Int)).bind fun (v3,v4,v5,v6,v7,v8)=>some (⟨(⟨a0.w.classes,a0.w.heap,a0.w.epoch⟩:Wd),v3,v4,v5,(a0.frames.set a1 (⟨x1.class_,x1.method,x1.fast,x1.code,x1.self_,x1.args,x1.temps,x1.stack,a2⟩:l6)),(⟨v6,v7⟩:V),v8⟩:l7)))

def U0 (N:Nat) (fr:(List l6)) (a0:Nat):Option (V×(List l6)) :=
  ((fr[a0]?).bind fun x1=>((w9 x1.stack (wr ((x1.stack.length:Int) - (1:Int)))).bind fun x4=>(bif (decide (0≤(wr ((x1.stack.length:Int) - (1:Int)))) && decide ((wr ((x1.stack.length:Int) - (1:Int)))≤(x1.stack.length:Int))) then some (x4,(fr.set a0 (⟨x1.class_,x1.method,x1.fast,x1.code,x1.self_,x1.args,x1.temps,(x1.stack.take (wr ((x1.stack.length:Int) - (1:Int))).toNat),x1.at_⟩:l6))) else none)))

def aC9 (N:Nat) (a0:l7) (a1:Nat) (a2:Ins):Option l7 :=
  ((a0.frames[a1]?).bind fun x1=>((w9 x1.stack (wr ((wr ((x1.stack.length:Int) - (1:Int))) - a2.b))).bind fun x4=>((aH8 N a0.w.heap x4).bind fun r6=>(bif decide (r6=a2.a) then some (⟨(⟨a0.w.classes,a0.w.heap,a0.w.epoch⟩:Wd),a0.fuel,a0.sends,a0.turns,a0.frames,a0.back,a0.err⟩:l7) else ((w9 a0.w.classes x1.class_).bind fun x9=>((w9 x9.methods x1.method).bind fun x11=>(bif (decide (0≤x11.temps) && decide (x11.temps≤(x1.temps.length:Int))) then some (⟨(⟨a0.w.classes,a0.w.heap,a0.w.epoch⟩:Wd),a0.fuel,a0.sends,a0.turns,((((a0.frames.set a1 (⟨x1.class_,x1.method,false,x1.code,x1.self_,x1.args,x1.temps,x1.stack,x1.at_⟩:l6)).set a1 (⟨x1.class_,x1.method,false,x11.code,x1.self_,x1.args,x1.temps,x1.stack,x1.at_⟩:l6)).set a1 (⟨x1.class_,x1.method,false,x11.code,x1.self_,x1.args,x1.temps,x1.stack,a2.c⟩:l6)).set a1 (⟨x1.class_,x1.method,false,x11.code,x1.self_,x1.args,(x1.temps.take x11.temps.toNat),x1.stack,a2.c⟩:l6)),a0.back,a0.err⟩:l7) else none)))))))

def I9 (N:Nat) (a0:V) (fr:(List l6)) (b0:Nat):Option (List l6) :=
  ((fr[b0]?).bind fun x1=>(bif Nat.ble ((x1.stack.length+[a0].length)*16) 140737488355328 then some (fr.set b0 (⟨x1.class_,x1.method,x1.fast,x1.code,x1.self_,x1.args,x1.temps,(x1.stack++[a0]),x1.at_⟩:l6)) else none))

def U1 (N:Nat) (a0:V) (fr:(List l6)) (b0:Nat):Option (List l6) :=
  ((fr[b0]?).bind fun x1=>(bif Nat.ble ((x1.stack.length+[a0].length)*16) 140737488355328 then some (fr.set b0 (⟨x1.class_,x1.method,x1.fast,x1.code,x1.self_,x1.args,x1.temps,(x1.stack++[a0]),x1.at_⟩:l6)) else none))

def aO5 (N:Nat) (a0:(List Ob)) (a1:V) (a2:Int):Option V :=
  (((bif (!decide (a1.k=(4:Int))) then some (true) else (bif decide (a1.n < (0:Int)) then some (true) else (bif decide ((a0.length:Int)≤a1.n) then some (true) else (bif decide (a2 < (0:Int)) then some (true) else ((w9 a0 a1.n).bind fun x9=>some (decide ((x9.slots.length:Int)≤a2))))))):Option Bool).bind fun v1=>(bif v1 then some (⟨(0:Int),(0:Int)⟩:V) else ((w9 a0 a1.n).bind fun x13=>((w9 x13.slots a2).bind fun x15=>some x15))))

def Y5 (N:Nat) (a0:V) (sk:(List V)) (fr:(List l6)) (b0:Nat):Option (List V) :=
  ((fr[b0]?).bind fun x1=>(bif Nat.ble ((sk.length+[a0].length)*16) 140737488355328 then some (sk++[a0]) else none))

def aC3 (N:Nat) (fr:(List l6)) (a0:Nat):Option (V×(List l6)) :=
  ((fr[a0]?).bind fun x1=>((w9 x1.stack (wr ((x1.stack.length:Int) - (1:Int)))).bind fun x4=>(bif (decide (0≤(wr ((x1.stack.length:Int) - (1:Int)))) && decide ((wr ((x1.stack.length:Int) - (1:Int)))≤(x1.stack.length:Int))) then some (x4,(fr.set a0 (⟨x1.class_,x1.method,x1.fast,x1.code,x1.self_,x1.args,x1.temps,(x1.stack.take (wr ((x1.stack.length:Int) - (1:Int))).toNat),x1.at_⟩:l6))) else none)))

def aC0 (N:Nat) (a0:l7) (a1:V) (a2:Int) (a3:V):Option l7 :=
  ((((a0.w.heap[a1.n.toNat]?).elim (bif decide (a1.k=(4:Int)) then (bif decide (a1.n < (a0.w.heap.length:Int)) then none else some (false)) else some (false)) (fun x4=>(bif decide (a1.k=(4:Int)) then (bif decide (a1.n < (a0.w.heap.length:Int)) then ((w9 a0.w.heap a1.n).bind fun x12=>some (decide (a2 < (x4.slots.length:Int)))) else some (false)) else some (false)))):Option Bool).bind fun v1=>(((bif v1 then ((a0.w.heap[a1.n.toNat]?).elim none (fun x19=>((w9 a0.w.heap a1.n).bind fun x21=>((w9 x19.slots a2).bind fun x23=>some ((a0.w.heap.set a1.n.toNat (⟨x19.cls,(x19.slots.set a2.toNat a3)⟩:Ob))))))) else some (a0.w.heap)):Option (List Ob)).bind fun v15=>some (⟨(⟨a0.w.classes,v15,a0.w.epoch⟩:Wd),a0.fuel,a0.sends,a0.turns,a0.frames,a0.back,a0.err⟩:l7)))

def aA2 (N:Nat) (a0:Wd):Nat→Int→Int→Int→Option (Int)
  |0,_,_,_=>none
  |n13+1,v2,v3,v4=>(((bif decide ((0:Int)≤v2) then (bif decide (v2 < (a0.classes.length:Int)) then some (decide (v4≤(a0.classes.length:Int))) else some (false)) else some (false)):Option Bool).bind fun v14=>(bif v14 then ((w9 a0.classes v2).bind fun x22=>((w9 a0.classes v2).bind fun x24=>aA2 N a0 n13 x24.super (wr (v3+x22.slots)) (wr (v4+(1:Int))))) else some (v3)))

def aL3 (N:Nat) (a0:Wd) (a1:Int):Option Int :=
  ((aA2 N a0 N a1 (0:Int) (0:Int)).bind fun v8=>some v8)

def aY9 (N:Nat) (a0:(List Ob)) (a1:Int) (a2:Int):Option ((List Ob)×V×Int) :=
  (bif decide ((60:Int)≤(a0.length:Int)) then some (([]:List Ob),(⟨(0:Int),(0:Int)⟩:V),(15:Int)) else ((aS0 N a0).bind fun r3=>(bif (decide (0≤(max a2 (0:Int))) && decide ((max a2 (0:Int))≤140737488355328) && decide ((max a2 (0:Int))*16≤140737488355328)) then (bif Nat.ble ((r3.length+[(⟨a1,(List.replicate (max a2 (0:Int)).toNat (⟨(0:Int),(0:Int)⟩:V))⟩:Ob)].length)*32) 140737488355328 then some ((r3++[(⟨a1,(List.replicate (max a2 (0:Int)).toNat (⟨(0:Int),(0:Int)⟩:V))⟩:Ob)]),(⟨(4:Int),(a0.length:Int)⟩:V),(0:Int)) else none) else none)))

def aF2 (N:Nat) (a0:l7) (a1:Nat) (a2:Ins):Option l7 :=
  (((((bif decide (a2.op=(1:Int)) then ((a0.frames[a1]?).bind fun x22=>((I9 N x22.self_ a0.frames a1).bind fun r24=>some (.next (a0.w.heap,a0.fuel,a0.sends,a0.turns,r24,a0.back.k,a0.back.n,a0.err)))) else (((bif decide (a2.op=(2:Int)) then ((a0.frames[a1]?).bind fun x37=>((w9 x37.args a2.a).bind fun x39=>((I9 N x39 a0.frames a1).bind fun r41=>some (.next (a0.w.heap,a0.fuel,a0.sends,a0.turns,r41,a0.back.k,a0.back.n,a0.err))))) else (((bif decide (a2.op=(3:Int)) then ((a0.frames[a1]?).bind fun x54=>((w9 x54.temps a2.a).bind fun x56=>((U1 N x56 a0.frames a1).bind fun r58=>((r58[a1]?).bind fun x60=>some (.next (a0.w.heap,a0.fuel,a0.sends,a0.turns,(r58.set a1 (⟨x60.class_,x60.method,x60.fast,x60.code,x60.self_,x60.args,x54.temps,x60.stack,x60.at_⟩:l6)),a0.back.k,a0.back.n,a0.err)))))) else (((bif decide (a2.op=(4:Int)) then ((a0.frames[a1]?).bind fun x73=>((aO5 N a0.w.heap x73.self_ a2.a).bind fun r75=>((I9 N r75 a0.frames a1).bind fun r77=>some (.next (a0.w.heap,a0.fuel,a0.sends,a0.turns,r77,a0.back.k,a0.back.n,a0.err))))) else (((bif decide (a2.op=(5:Int)) then ((I9 N (⟨(3:Int),a2.a⟩:V) a0.frames a1).bind fun r90=>some (.next (a0.w.heap,a0.fuel,a0.sends,a0.turns,r90,a0.back.k,a0.back.n,a0.err))) else (((bif decide (a2.op=(6:Int)) then ((I9 N (⟨(0:Int),(0:Int)⟩:V) a0.frames a1).bind fun r103=>some (.next (a0.w.heap,a0.fuel,a0.sends,a0.turns,r103,a0.back.k,a0.back.n,a0.err))) else (((bif decide (a2.op=(7:Int)) then some (decide (a2.op=(7:Int))) else some (decide (a2.op=(8:Int)))):Option Bool).bind fun v105=>(((bif v105 then ((aP0 N (decide (a2.op=(8:Int)))).bind fun r120=>((I9 N r120 a0.frames a1).bind fun r122=>some (.next (a0.w.heap,a0.fuel,a0.sends,a0.turns,r122,a0.back.k,a0.back.n,a0.err)))) else (((bif decide (a2.op=(9:Int)) then ((U0 N a0.frames a1).bind fun r135=>some (.next (a0.w.heap,a0.fuel,a0.sends,a0.turns,r135.2,a0.back.k,a0.back.n,a0.err))) else (((bif decide (a2.op=(10:Int)) then ((a0.frames[a1]?).bind fun x148=>((w9 x148.stack (wr ((x148.stack.length:Int) - (1:Int)))).bind fun x151=>((Y5 N x151 x148.stack a0.frames a1).bind fun r153=>some (.next (a0.w.heap,a0.fuel,a0.sends,a0.turns,(a0.frames.set a1 (⟨x148.class_,x148.method,x148.fast,x148.code,x148.self_,x148.args,x148.temps,r153,x148.at_⟩:l6)),a0.back.k,a0.back.n,a0.err))))) else (((bif decide (a2.op=(11:Int)) then ((a0.frames[a1]?).bind fun x166=>((aC3 N a0.frames a1).bind fun r168=>((r168.2[a1]?).bind fun x170=>((w9 x166.temps a2.a).bind fun x172=>some (.next (a0.w.heap,a0.fuel,a0.sends,a0.turns,(r168.2.set a1 (⟨x170.class_,x170.method,x170.fast,x170.code,x170.self_,x170.args,(x166.temps.set a2.a.toNat r168.1),x170.stack,x170.at_⟩:l6)),a0.back.k,a0.back.n,a0.err)))))) else (((bif decide (a2.op=(12:Int)) then ((a0.frames[a1]?).bind fun x185=>((U0 N a0.frames a1).bind fun r187=>((r187.2[a1]?).bind fun x189=>((aC0 N (⟨(⟨a0.w.classes,a0.w.heap,a0.w.epoch⟩:Wd),a0.fuel,a0.sends,a0.turns,r187.2,a0.back,a0.err⟩:l7) x185.self_ a2.a r187.1).bind fun r191=>some (.next (r191.w.heap,r191.fuel,r191.sends,r191.turns,r187.2,r191.back.k,r191.back.n,r191.err)))))) else (((bif decide (a2.op=(19:Int)) then ((a0.frames[a1]?).bind fun x204=>((w9 x204.temps a2.a).bind fun x206=>((aO5 N a0.w.heap x206 a2.b).bind fun r208=>((U1 N r208 a0.frames a1).bind fun r210=>((r210[a1]?).bind fun x212=>some (.next (a0.w.heap,a0.fuel,a0.sends,a0.turns,(r210.set a1 (⟨x212.class_,x212.method,x212.fast,x212.code,x212.self_,x212.args,x204.temps,x212.stack,x212.at_⟩:l6)),a0.back.k,a0.back.n,a0.err))))))) else (((bif decide (a2.op=(20:Int)) then ((a0.frames[a1]?).bind fun x225=>((w9 x225.temps a2.a).bind fun x227=>((aC3 N a0.frames a1).bind fun r229=>((r229.2[a1]?).bind fun x231=>((aC0 N (⟨(⟨a0.w.classes,a0.w.heap,a0.w.epoch⟩:Wd),a0.fuel,a0.sends,a0.turns,r229.2,a0.back,a0.err⟩:l7) x227 a2.b r229.1).bind fun r233=>some (.next (r233.w.heap,r233.fuel,r233.sends,r233.turns,(r229.2.set a1 (⟨x231.class_,x231.method,x231.fast,x231.code,x231.self_,x231.args,x225.temps,x231.stack,x231.at_⟩:l6)),r233.back.k,r233.back.n,r233.err))))))) else (((bif decide (a2.op=(13:Int)) then ((aL3 N (⟨a0.w.classes,a0.w.heap,a0.w.epoch⟩:Wd) a2.a).bind fun r240=>((aY9 N a0.w.heap a2.a r240).bind fun r242=>(bif (!decide (r242.2.2=(0:Int))) then ((I5 N (⟨(⟨a0.w.classes,a0.w.heap,a0.w.epoch⟩:Wd),a0.fuel,a0.sends,a0.turns,a0.frames,a0.back,a0.err⟩:l7) r242.2.2).bind fun r245=>some (.ret (⟨(⟨a0.w.classes,a0.w.heap,a0.w.epoch⟩:Wd),r245.fuel,r245.sends,r245.turns,a0.frames,r245.back,r245.err⟩:l7))) else ((I9 N r242.2.1 a0.frames a1).bind fun r247=>some (.next (r242.1,r247)))))) else some (.next (a0.w.heap,a0.frames))):Option (D9 l7 ((List Ob)×(List l6)))).bind fun o=>match o with|.ret r=>some (.ret r)|.next (v235,v236)=>some (.next (v235,a0.fuel,a0.sends,a0.turns,v236,a0.back.k,a0.back.n,a0.err)))):Option (D9 l7 ((List Ob)×Int×Int×Int×(List l6)×Int×Int×Int))).bind fun o=>match o with|.ret r=>some (.ret r)|.next (v214,v215,v216,v217,v218,v219,v220,v221)=>some (.next (v214,v215,v216,v217,v218,v219,v220,v221)))):Option (D9 l7 ((List Ob)×Int×Int×Int×(List l6)×Int×Int×Int))).bind fun o=>match o with|.ret r=>some (.ret r)|.next (v193,v194,v195,v196,v197,v198,v199,v200)=>some (.next (v193,v194,v195,v196,v197,v198,v199,v200)))):Option (D9 l7 ((List Ob)×Int×Int×Int×(List l6)×Int×Int×Int))).bind fun o=>match o with|.ret r=>some (.ret r)|.next (v174,v175,v176,v177,v178,v179,v180,v181)=>some (.next (v174,v175,v176,v177,v178,v179,v180,v181)))):Option (D9 l7 ((List Ob)×Int×Int×Int×(List l6)×Int×Int×Int))).bind fun o=>match o with|.ret r=>some (.ret r)|.next (v155,v156,v157,v158,v159,v160,v161,v162)=>some (.next (v155,v156,v157,v158,v159,v160,v161,v162)))):Option (D9 l7 ((List Ob)×Int×Int×Int×(List l6)×Int×Int×Int))).bind fun o=>match o with|.ret r=>some (.ret r)|.next (v137,v138,v139,v140,v141,v142,v143,v144)=>some (.next (v137,v138,v139,v140,v141,v142,v143,v144)))):Option (D9 l7 ((List Ob)×Int×Int×Int×(List l6)×Int×Int×Int))).bind fun o=>match o with|.ret r=>some (.ret r)|.next (v124,v125,v126,v127,v128,v129,v130,v131)=>some (.next (v124,v125,v126,v127,v128,v129,v130,v131)))):Option (D9 l7 ((List Ob)×Int×Int×Int×(List l6)×Int×Int×Int))).bind fun o=>match o with|.ret r=>some (.ret r)|.next (v109,v110,v111,v112,v113,v114,v115,v116)=>some (.next (v109,v110,v111,v112,v113,v114,v115,v116))))):Option (D9 l7 ((List Ob)×Int×Int×Int×(List l6)×Int×Int×Int))).bind fun o=>match o with|.ret r=>some (.ret r)|.next (v92,v93,v94,v95,v96,v97,v98,v99)=>some (.next (v92,v93,v94,v95,v96,v97,v98,v99)))):Option (D9 l7 ((List Ob)×Int×Int×Int×(List l6)×Int×Int×Int))).bind fun o=>match o with|.ret r=>some (.ret r)|.next (v79,v80,v81,v82,v83,v84,v85,v86)=>some (.next (v79,v80,v81,v82,v83,v84,v85,v86)))):Option (D9 l7 ((List Ob)×Int×Int×Int×(List l6)×Int×Int×Int))).bind fun o=>match o with|.ret r=>some (.ret r)|.next (v62,v63,v64,v65,v66,v67,v68,v69)=>some (.next (v62,v63,v64,v65,v66,v67,v68,v69)))):Option (D9 l7 ((List Ob)×Int×Int×Int×(List l6)×Int×Int×Int))).bind fun o=>match o with|.ret r=>some (.ret r)|.next (v43,v44,v45,v46,v47,v48,v49,v50)=>some (.next (v43,v44,v45,v46,v47,v48,v49,v50)))):Option (D9 l7 ((List Ob)×Int×Int×Int×(List l6)×Int×Int×Int))).bind fun o=>match o with|.ret r=>some (.ret r)|.next (v26,v27,v28,v29,v30,v31,v32,v33)=>some (.next (v26,v27,v28,v29,v30,v31,v32,v33)))):Option (D9 l7 ((List Ob)×Int×Int×Int×(List l6)×Int×Int×Int))).bind fun o=>match o with|.ret r=>some (.ret r)|.next (v11,v12,v13,v14,v15,v16,v17,v18)=>some (.next (v11,v12,v13,v14,v15,v16,v17,v18))):Option (D9 l7 ((List Ob)×Int×Int×Int×(List l6)×Int×Int×Int))).bind fun o=>match o with|.ret r=>some r|.next (v1,v2,v3,v4,v5,v6,v7,v8)=>some (⟨(⟨a0.w.classes,v1,a0.w.epoch⟩:Wd),v2,v3,v4,v5,(⟨v6,v7⟩:V),v8⟩:l7))

def aB4 (N:Nat) (a0:l7) (gl:St→Int→ByteArray→q9→Option (Int×Int×q9)) (gq:Int→Int→Option (Fs×Bool)) (sb:q9):Option (q9×l7) :=
  ((w9 a0.frames (wr ((a0.frames.length:Int) - (1:Int)))).bind fun x2=>((w9 x2.code x2.at_).bind fun x4=>(((((bif decide (x4.op=(14:Int)) then ((aB8 N (⟨(⟨a0.w.classes,a0.w.heap,a0.w.epoch⟩:Wd),a0.fuel,a0.sends,a0.turns,(a0.frames.set ((wr ((a0.frames.length:Int) - (1:Int))).toNat) (⟨x2.class_,x2.method,x2.fast,x2.code,x2.self_,x2.args,x2.temps,x2.stack,(wr (x2.at_+(1:Int)))⟩:l6)),a0.back,a0.err⟩:l7) gl gq sb ((wr ((a0.frames.length:Int) - (1:Int))).toNat) x4 x2.at_).bind fun r33=>some ((a0.w.classes,a0.w.heap,a0.w.epoch,r33.1,r33.2.fuel,r33.2.sends,r33.2.turns,r33.2.frames,r33.2.back.k,r33.2.back.n,r33.2.err))) else (((bif decide (x4.op=(15:Int)) then ((aA3 N (⟨(⟨a0.w.classes,a0.w.heap,a0.w.epoch⟩:Wd),a0.fuel,a0.sends,a0.turns,(a0.frames.set ((wr ((a0.frames.length:Int) - (1:Int))).toNat) (⟨x2.class_,x2.method,x2.fast,x2.code,x2.self_,x2.args,x2.temps,x2.stack,(wr (x2.at_+(1:Int)))⟩:l6)),a0.back,a0.err⟩:l7) ((wr ((a0.frames.length:Int) - (1:Int))).toNat) x4.a).bind fun r48=>some ((a0.w.classes,a0.w.heap,a0.w.epoch,r48.fuel,r48.sends,r48.turns,r48.frames,r48.back.k,r48.back.n,r48.err))) else (((bif decide (x4.op=(16:Int)) then ((U0 N (a0.frames.set ((wr ((a0.frames.length:Int) - (1:Int))).toNat) (⟨x2.class_,x2.method,x2.fast,x2.code,x2.self_,x2.args,x2.temps,x2.stack,(wr (x2.at_+(1:Int)))⟩:l6)) ((wr ((a0.frames.length:Int) - (1:Int))).toNat)).bind fun r63=>(((((bif decide (r63.1.k=(1:Int)) then ((aA3 N (⟨(⟨a0.w.classes,a0.w.heap,a0.w.epoch⟩:Wd),a0.fuel,a0.sends,a0.turns,r63.2,a0.back,a0.err⟩:l7) ((wr ((a0.frames.length:Int) - (1:Int))).toNat) x4.a).bind fun r84=>some ((r84.fuel,r84.sends,r84.turns,r84.frames,r84.back.k,r84.back.n,r84.err))) else (((bif decide (r63.1.k=(2:Int)) then some ((a0.fuel,a0.sends,a0.turns,a0.back.k,a0.back.n,a0.err)) else ((I5 N (⟨(⟨a0.w.classes,a0.w.heap,a0.w.epoch⟩:Wd),a0.fuel,a0.sends,a0.turns,r63.2,a0.back,a0.err⟩:l7) (11:Int)).bind fun r95=>some ((r95.fuel,r95.sends,r95.turns,r95.back.k,r95.back.n,r95.err)))):Option (Int×Int×Int×Int×Int×Int)).bind fun (v86,v87,v88,v89,v90,v91)=>some ((v86,v87,v88,r63.2,v89,v90,v91)))):Option (Int×Int×Int×(List l6)×Int×Int×Int)).bind fun (v74,v75,v76,v77,v78,v79,v80)=>some ((v74,v75,v76,v77,v78,v79,v80))):Option (Int×Int×Int×(List l6)×Int×Int×Int)).bind fun (v65,v66,v67,v68,v69,v70,v71)=>some ((a0.w.classes,a0.w.heap,a0.w.epoch,v65,v66,v67,v68,v69,v70,v71)))) else (((bif decide (x4.op=(17:Int)) then ((U0 N (a0.frames.set ((wr ((a0.frames.length:Int) - (1:Int))).toNat) (⟨x2.class_,x2.method,x2.fast,x2.code,x2.self_,x2.args,x2.temps,x2.stack,(wr (x2.at_+(1:Int)))⟩:l6)) ((wr ((a0.frames.length:Int) - (1:Int))).toNat)).bind fun r110=>(bif (decide (0≤(wr ((r110.2.length:Int) - (1:Int)))) && decide ((wr ((r110.2.length:Int) - (1:Int)))≤(r110.2.length:Int))) then ((V7 N (⟨(⟨a0.w.classes,a0.w.heap,a0.w.epoch⟩:Wd),a0.fuel,a0.sends,a0.turns,(r110.2.take (wr ((r110.2.length:Int) - (1:Int))).toNat),a0.back,a0.err⟩:l7) r110.1).bind fun r114=>some ((a0.w.classes,a0.w.heap,a0.w.epoch,r114.fuel,r114.sends,r114.turns,r114.frames,r114.back.k,r114.back.n,r114.err))) else none)) else (((bif decide (x4.op=(18:Int)) then ((aC9 N (⟨(⟨a0.w.classes,a0.w.heap,a0.w.epoch⟩:Wd),a0.fuel,a0.sends,a0.turns,(a0.frames.set ((wr ((a0.frames.length:Int) - (1:Int))).toNat) (⟨x2.class_,x2.method,x2.fast,x2.code,x2.self_,x2.args,x2.temps,x2.stack,(wr (x2.at_+(1:Int)))⟩:l6)),a0.back,a0.err⟩:l7) ((wr ((a0.frames.length:Int) - (1:Int))).toNat) x4).bind fun r129=>some ((a0.w.classes,a0.w.heap,a0.w.epoch,r129.fuel,r129.sends,r129.turns,r129.frames,r129.back.k,r129.back.n,r129.err))) else (((bif decide (x4.op=(21:Int)) then ((U4 N (⟨(⟨a0.w.classes,a0.w.heap,a0.w.epoch⟩:Wd),a0.fuel,a0.sends,a0.turns,(a0.frames.set ((wr ((a0.frames.length:Int) - (1:Int))).toNat) (⟨x2.class_,x2.method,x2.fast,x2.code,x2.self_,x2.args,x2.temps,x2.stack,(wr (x2.at_+(1:Int)))⟩:l6)),a0.back,a0.err⟩:l7) true).bind fun r144=>some ((a0.w.classes,a0.w.heap,a0.w.epoch,r144.2.fuel,r144.2.sends,r144.2.turns,(a0.frames.set ((wr ((a0.frames.length:Int) - (1:Int))).toNat) (⟨x2.class_,x2.method,x2.fast,x2.code,x2.self_,x2.args,x2.temps,x2.stack,(wr (x2.at_+(1:Int)))⟩:l6)),r144.2.back.k,r144.2.back.n,r144.2.err))) else ((aF2 N (⟨(⟨a0.w.classes,a0.w.heap,a0.w.epoch⟩:Wd),a0.fuel,a0.sends,a0.turns,(a0.frames.set ((wr ((a0.frames.length:Int) - (1:Int))).toNat) (⟨x2.class_,x2.method,x2.fast,x2.code,x2.self_,x2.args,x2.temps,x2.stack,(wr (x2.at_+(1:Int)))⟩:l6)),a0.back,a0.err⟩:l7) ((wr ((a0.frames.length:Int) - (1:Int))).toNat) x4).bind fun r146=>some ((r146.w.classes,r146.w.heap,r146.w.epoch,r146.fuel,r146.sends,r146.turns,r146.frames,r146.back.k,r146.back.n,r146.err)))):Option ((List Cl)×(List Ob)×Int×Int×Int×Int×(List l6)×Int×Int×Int)).bind fun (v131,v132,v133,v134,v135,v136,v137,v138,v139,v140)=>some ((v131,v132,v133,v134,v135,v136,v137,v138,v139,v140)))):Option ((List Cl)×(List Ob)×Int×Int×Int×Int×(List l6)×Int×Int×Int)).bind fun (v116,v117,v118,v119,v120,v121,v122,v123,v124,v125)=>some ((v116,v117,v118,v119,v120,v121,v122,v123,v124,v125)))):Option ((List Cl)×(List Ob)×Int×Int×Int×Int×(List l6)×Int×Int×Int)).bind fun (v97,v98,v99,v100,v101,v102,v103,v104,v105,v106)=>some ((v97,v98,v99,v100,v101,v102,v103,v104,v105,v106)))):Option ((List Cl)×(List Ob)×Int×Int×Int×Int×(List l6)×Int×Int×Int)).bind fun (v50,v51,v52,v53,v54,v55,v56,v57,v58,v59)=>some ((v50,v51,v52,v53,v54,v55,v56,v57,v58,v59)))):Option ((List Cl)×(List Ob)×Int×Int×Int×Int×(List l6)×Int×Int×Int)).bind fun (v35,v36,v37,v38,v39,v40,v41,v42,v43,v44)=>some ((v35,v36,v37,sb,v38,v39,v40,v41,v42,v43,v44)))):Option ((List Cl)×(List Ob)×Int×q9×Int×Int×Int×(List l6)×Int×Int×Int)).bind fun (v19,v20,v21,v22,v23,v24,v25,v26,v27,v28,v29)=>some ((v19,v20,v21,v22,v23,v24,v25,v26,v27,v28,v29))):Option ((List Cl)×(List Ob)×Int×q9×Int×Int×Int×(List l6)×Int×Int×Int)).bind fun (v6,v7,v8,v9,v10,v11,v12,v13,v14,v15,v16)=>some (v9,(⟨(⟨v6,v7,v8⟩:Wd),v10,v11,v12,v13,(⟨v14,v15⟩:V),v16⟩:l7)))))

def Z0 (N:Nat) (g3:(St→Int→ByteArray→q9→Option (Int×Int×q9))) (g4:(Int→Int→Option (Fs×Bool))):Nat→q9→(List Cl)→(List Ob)→Int→Int→Int→Int→(List l6)→Int→Int→Int→Option ((q9×(List Cl)×(List Ob)×Int×Int×Int×Int×(List l6)×Int×Int×Int))
  |0,_,_,_,_,_,_,_,_,_,_,_=>none
  |n64+1,v27,v28,v29,v30,v31,v32,v33,v34,v35,v36,v37=>(((bif decide (v37=(0:Int)) then some (decide ((0:Int) < (v34.length:Int))) else some (false)):Option Bool).bind fun v65=>(bif v65 then ((aB4 N (⟨(⟨v28,v29,v30⟩:Wd),v31,v32,v33,v34,(⟨v35,v36⟩:V),v37⟩:l7) g3 g4 v27).bind fun r71=>Z0 N g3 g4 n64 r71.1 r71.2.w.classes r71.2.w.heap r71.2.w.epoch r71.2.fuel r71.2.sends r71.2.turns r71.2.frames r71.2.back.k r71.2.back.n r71.2.err) else some ((v27,v28,v29,v30,v31,v32,v33,v34,v35,v36,v37))))

def aK4 (N:Nat) (a0:Wd) (a1:O4) (a2:Int) (g3:St→Int→ByteArray→q9→Option (Int×Int×q9)) (sb:q9) (g4:Int→Int→Option (Fs×Bool)):Option (Wd×aK0×q9) :=
  ((aY7 N a0 a1 a2).bind fun r1=>(bif (!decide (r1=(0:Int))) then ((aJ2 N a0).bind fun r4=>some (r4,(⟨(⟨(0:Int),(0:Int)⟩:V),r1,(0:Int)⟩:aK0),sb)) else ((aJ2 N a0).bind fun r6=>((aH8 N r6.heap a1.self_).bind fun r8=>((aG5 N (⟨r6.classes,r6.heap,r6.epoch⟩:Wd) r8 a1.name).bind fun r10=>(((bif decide (r10.2 < (0:Int)) then ((I5 N (⟨(⟨r6.classes,r6.heap,r6.epoch⟩:Wd),a2,(0:Int),(0:Int),([]:List l6),(⟨(0:Int),(0:Int)⟩:V),(0:Int)⟩:l7) (10:Int)).bind fun r22=>some ((r22.fuel,r22.sends,r22.turns,([]:List l6),r22.back.k,r22.back.n,r22.err))) else ((Y6 N (⟨(⟨r6.classes,r6.heap,r6.epoch⟩:Wd),a2,(0:Int),(0:Int),([]:List l6),(⟨(0:Int),(0:Int)⟩:V),(0:Int)⟩:l7) g4 r10.1 r10.2 a1.self_ a1.args).bind fun r24=>some ((r24.fuel,r24.sends,r24.turns,r24.frames,r24.back.k,r24.back.n,r24.err)))):Option (Int×Int×Int×(List l6)×Int×Int×Int)).bind fun (v12,v13,v14,v15,v16,v17,v18)=>((Z0 N g3 g4 N sb r6.classes r6.heap r6.epoch v12 v13 v14 v15 v16 v17 v18).bind fun (v49,v50,v51,v52,v53,v54,v55,v56,v57,v58,v59)=>(bif (!decide (v59=(0:Int))) then ((aJ2 N a0).bind fun r74=>some (r74,(⟨(⟨(0:Int),(0:Int)⟩:V),v59,v54⟩:aK0),v49)) else some ((⟨v50,v51,v52⟩:Wd),(⟨(⟨v57,v58⟩:V),(0:Int),v54⟩:aK0),v49)))))))))

def D7 (N:Nat) (g1:(Tl→Option Bool)):List Tl→Nat→Option (D9 Int Unit)
  |[],k2=>some (.next ())
  |x8::rest5,k2=>((g1 x8).bind fun r11=>(bif r11 then some (.ret (k2:Int)) else D7 N g1 rest5 (k2+1)))

def K6 (N:Nat) (a0:(List Tl)) (g1:Tl→Option Bool):Option Int :=
  ((D7 N g1 a0 0).bind fun o=>match o with|.ret r=>some r|.next ()=>some (-1:Int))

def aL1 (N:Nat) (a0:Tl) (b0:St):Option Bool :=
  some (aF1 (eSt a0.site) (eSt b0))

def aL4 (N:Nat) (a0:Ln) (b0:Int):Option Bool :=
  some (decide (a0.cls=b0))

def aR1 (c:Int) (l:List Ln):List Ln:=let q:=ixd (fun x=>decide (x.cls=c)) ⟨c,0⟩ l; q.1.modify q.2 fun x=>⟨x.cls,wr (x.found+1)⟩
def cD9 (s:St) (c:Int) (l:List Tl):List Tl:=let q:=ixd (fun t=>decide (t.site=s)) ⟨s,[]⟩ l; q.1.modify q.2 fun t=>⟨t.site,aR1 c t.classes⟩
def aY4 (N:Nat) (a0:List Tl) (a1:St) (a2:Int):Option (List Tl) :=
  bif (Nat.ble ((a0.length+1)*56) 140737488355328 && a0.all fun t=>Nat.ble ((t.classes.length+1)*16) 140737488355328) then some (cD9 a1 a2 a0) else none

def aF0 (N:Nat) (a0:St) (a1:Int) (a2:ByteArray) (b0:q9) (b1:Wd):Option (Int×Int×q9) :=
  ((aU5 N b0.cells b1 a0 a1 a2).bind fun r1=>((aY4 N b0.tallies a0 a1).bind fun r3=>(((bif r1.2.2.2 then some (((wr (b0.hits+(1:Int))),b0.not)) else some ((b0.hits,(wr (b0.not+(1:Int)))))):Option (Int×Int)).bind fun (v5,v6)=>some (r1.2.1,r1.2.2.1,(⟨b0.world,b0.ran,r1.1,r3,v5,v6⟩:q9)))))

def a99 (N:Nat) (a0:Int) (a1:Int):Option (Fs×Bool) :=
  some ((⟨(0:Int),ByteArray.empty,(0:Int),(0:Int),[]⟩:Fs),false)

def aH0 (N:Nat) (a0:Wd) (a1:O4) (a2:Int) (a3:(List Ce)) (a4:(List Tl)):Option q9 :=
  ((aN8 N a3).bind fun r1=>((aX7 N a4).bind fun r3=>((aK4 N a0 a1 a2 (fun x0_ x1_ x2_ s_=>aF0 N x0_ x1_ x2_ s_ a0) (⟨(⟨([]:List Cl),([]:List Ob),(0:Int)⟩:Wd),(⟨(⟨(0:Int),(0:Int)⟩:V),(0:Int),(0:Int)⟩:aK0),r1,r3,(0:Int),(0:Int)⟩:q9) (fun x0_ x1_=>a99 N x0_ x1_)).bind fun r5=>some (⟨r5.1,r5.2.1,r5.2.2.cells,r5.2.2.tallies,r5.2.2.hits,r5.2.2.not⟩:q9))))

def aI7 (N:Nat) (a1:ByteArray):List Cl→Nat→Option (D9 (Wd×Int×Int) Unit)
  |[],k5=>some (.next ())
  |x11::rest8,k5=>(bif decide (x11.name=a1) then some (.ret ((⟨[],[],(0:Int)⟩:Wd),(0:Int),(7:Int))) else aI7 N a1 rest8 (k5+1))

def bD8 (N:Nat) (a0:Wd) (a1:ByteArray) (a2:Int) (a3:Int):Option (Wd×Int×Int) :=
  ((aD6 N a1).bind fun r1=>(bif (!r1) then some ((⟨[],[],(0:Int)⟩:Wd),(0:Int),(7:Int)) else ((aI7 N a1 a0.classes 0).bind fun o=>match o with|.ret r=>some r|.next ()=>(((bif decide (a2 < (0:Int)) then some (true) else some (decide ((a0.classes.length:Int)≤a2))):Option Bool).bind fun v15=>(bif v15 then some ((⟨[],[],(0:Int)⟩:Wd),(0:Int),(6:Int)) else (((bif decide (a3 < (0:Int)) then some (true) else (bif decide ((6:Int) < a3) then some (true) else ((X0 N a0 a2).bind fun r26=>(bif decide ((6:Int) < (wr (a3+r26))) then some (true) else (bif decide ((0:Int) < a2) then some (decide (a2 < (4:Int))) else some (false)))))):Option Bool).bind fun v21=>(bif v21 then some ((⟨[],[],(0:Int)⟩:Wd),(0:Int),(3:Int)) else (bif decide ((12:Int)≤(a0.classes.length:Int)) then some ((⟨[],[],(0:Int)⟩:Wd),(0:Int),(5:Int)) else (bif Nat.ble ((([]:List Cl).length+a0.classes.length)*56) 140737488355328 then (bif Nat.ble (((([]:List Cl)++a0.classes).length+[(⟨a1,a2,a3,[]⟩:Cl)].length)*56) 140737488355328 then some ((⟨((([]:List Cl)++a0.classes)++[(⟨a1,a2,a3,[]⟩:Cl)]),a0.heap,a0.epoch⟩:Wd),(a0.classes.length:Int),(0:Int)) else none) else none)))))))))

def aD0 (N:Nat) (a2:Me):List Me→Nat→(List Me)→Bool→Bool→Option (((List Me)×Bool×Bool))
  |[],k10,v11,v12,v13=>some ((v11,v12,v13))
  |x25::rest22,k10,v11,v12,v13=>(((bif decide (x25.name=a2.name) then (bif Nat.ble ((v11.length+[a2].length)*64) 140737488355328 then some (((v11++[a2]),true,true)) else none) else (((bif (!v12) then some ((!(Z6 x25.name a2.name || decide (x25.name=a2.name)))) else some (false)):Option Bool).bind fun v35=>(((bif v35 then (bif Nat.ble ((v11.length+[a2].length)*64) 140737488355328 then some (((v11++[a2]),true)) else none) else some ((v11,v12))):Option ((List Me)×Bool)).bind fun (v39,v40)=>(bif Nat.ble ((v39.length+[x25].length)*64) 140737488355328 then some (((v39++[x25]),v40,v13)) else none)))):Option ((List Me)×Bool×Bool)).bind fun (v28,v29,v30)=>aD0 N a2 rest22 (k10+1) v28 v29 v30)

def aW7 (N:Nat) (a0:Wd) (a1:Int) (a2:Me):Option (Wd×Int) :=
  (((bif decide (a1 < (0:Int)) then some (true) else some (decide ((a0.classes.length:Int)≤a1))):Option Bool).bind fun v1=>(bif v1 then some ((⟨[],[],(0:Int)⟩:Wd),(6:Int)) else ((w9 a0.classes a1).bind fun x7=>((aD0 N a2 x7.methods 0 ([]:List Me) false false).bind fun (v17,v18,v19)=>(((bif (!v18) then (bif Nat.ble ((v17.length+[a2].length)*64) 140737488355328 then some ((v17++[a2])) else none) else some (v17)):Option (List Me)).bind fun v46=>(((bif (!v19) then ((w9 a0.classes a1).bind fun x55=>some (decide ((8:Int)≤(x55.methods.length:Int)))) else some (false)):Option Bool).bind fun v51=>(bif v51 then some ((⟨[],[],(0:Int)⟩:Wd),(5:Int)) else (bif Nat.ble ((([]:List Cl).length+a0.classes.length)*56) 140737488355328 then ((w9 (([]:List Cl)++a0.classes) a1).bind fun x60=>some ((⟨((([]:List Cl)++a0.classes).set a1.toNat (⟨x60.name,x60.super,x60.slots,v46⟩:Cl)),a0.heap,(wr (a0.epoch+(1:Int)))⟩:Wd),(0:Int))) else none))))))))

def aT5 (N:Nat):Option Wd :=
  ((a15 N).bind fun r1=>((bD8 N r1 (⟨#[65]⟩:ByteArray) (0:Int) (0:Int)).bind fun r3=>((aW7 N r3.1 r3.2.1 (⟨(⟨#[109]⟩:ByteArray),(1:Int),(0:Int),(0:Int),[(⟨(5:Int),(1:Int),(0:Int),(0:Int),ByteArray.empty⟩:Ins),(⟨(2:Int),(0:Int),(0:Int),(0:Int),ByteArray.empty⟩:Ins),(⟨(14:Int),(1:Int),(0:Int),(0:Int),(⟨#[43]⟩:ByteArray)⟩:Ins),(⟨(17:Int),(0:Int),(0:Int),(0:Int),ByteArray.empty⟩:Ins)]⟩:Me)).bind fun r5=>some (⟨r5.1.classes,[(⟨r3.2.1,[]⟩:Ob)],r5.1.epoch⟩:Wd))))

def aX3 (N:Nat) (a0:Int):Option O4 :=
  some (⟨(⟨(4:Int),(0:Int)⟩:V),(⟨#[109]⟩:ByteArray),[(⟨(3:Int),a0⟩:V)]⟩:O4)

def aO1 (N:Nat):Option Bool :=
  ((aT5 N).bind fun r1=>((aX3 N (4:Int)).bind fun r3=>((aH0 N r1 r3 (10:Int) [] []).bind fun r5=>((aT5 N).bind fun r7=>((aX3 N (5:Int)).bind fun r9=>((aH0 N r7 r9 (10:Int) r5.cells r5.tallies).bind fun r11=>(((bif decide (r5.ran.value.n=(5:Int)) then (bif decide (r5.not=(1:Int)) then (bif decide (r5.hits=(0:Int)) then (bif decide (r11.ran.value.n=(6:Int)) then (bif decide (r11.hits=(1:Int)) then (bif decide (r11.not=(0:Int)) then (bif decide ((r11.cells.length:Int)=(1:Int)) then some (decide ((r11.tallies.length:Int)=(1:Int))) else some (false)) else some (false)) else some (false)) else some (false)) else some (false)) else some (false)) else some (false)):Option Bool).bind fun v13=>some v13)))))))

def M9 (N:Nat):List Ce→Nat→Option (D9 Bool Unit)
  |[],k25=>some (.next ())
  |x31::rest28,k25=>(bif x31.many then some (.ret true) else M9 N rest28 (k25+1))

def aG9 (N:Nat) (a0:Wd) (a1:O4):Option Bool :=
  ((aO1 N).bind fun r1=>(bif (!r1) then some false else ((aN7 N a0).bind fun r4=>(bif (!decide (r4=(0:Int))) then some true else ((aH0 N a0 a1 (400:Int) [] []).bind fun r7=>((aH0 N a0 a1 (400:Int) r7.cells r7.tallies).bind fun r9=>(((bif (!(aF1 (bQ4 r7.ran) (bQ4 r9.ran))) then some (true) else (bif decide (r7.hits < (0:Int)) then some (true) else (bif decide (r9.hits < (0:Int)) then some (true) else (bif decide (r7.not < (0:Int)) then some (true) else (bif decide (r9.not < (0:Int)) then some (true) else (bif decide ((1000:Int) < r7.hits) then some (true) else (bif decide ((1000:Int) < r7.not) then some (true) else (bif decide ((1000:Int) < r9.hits) then some (true) else (bif decide ((1000:Int) < r9.not) then some (true) else some ((!decide ((wr (r7.hits+r7.not))=(wr (r9.hits+r9.not)))))))))))))):Option Bool).bind fun v11=>(bif v11 then some false else ((M9 N r7.cells 0).bind fun o=>match o with|.ret r=>some r|.next ()=>(bif decide (r7.ran.err=(10:Int)) then some (decide (r9.not≤(1:Int))) else some (decide (r9.not=(0:Int)))))))))))))

theorem bN1 {N:Nat} {fr:List l6} {i:Nat} {r:V×List l6} (h:U0 N fr i=some r) {x x':l6} (hx:fr[i]?=some x) (hx':r.2[i]?=some x'):x'.self_=x.self_:=by
  unfold U0 at h
  obtain ⟨y,hy,h⟩:=j4 h
  rw [hx] at hy
  cases hy
  obtain ⟨v,hv,h⟩:=j4 h
  obtain ⟨hg,h⟩:=G5 h
  obtain rfl:=Option.some.inj h
  have hl:=(List.getElem?_eq_some_iff.1 hx).1
  simp only [List.getElem?_set_self hl,Option.some.injEq] at hx'
  rw [←hx']
end Go.Proofs.Ytahmeibkdhbngaa
