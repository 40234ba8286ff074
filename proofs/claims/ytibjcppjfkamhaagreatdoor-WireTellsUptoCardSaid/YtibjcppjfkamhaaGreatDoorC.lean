import Derived.Shelf.SlSortCmp.SmallK
import Derived.Test.YtibjcppjfkamhaaGreatDoorB
set_option linter.unusedVariables false
set_option linter.defProp false
set_option linter.unusedSimpArgs false
namespace Go.Proofs.YtibjcppjfkamhaaGreatDoor
open Go.RowKit Go.Proofs.Tryz
open _root_.And renaming intro->A5
open _root_.ByteArray renaming empty->AE
open _root_.List renaming getElem?_eq_getElem->A8,replicate->AG,mem_map->AL,length_map->AR,getElem?_eq_none->AW,ext_getElem?->AY,getElem?_map->Aa,getElem?_drop->Ac
open _root_.Nat renaming beq->A4,ble->AD,blt->AM
open _root_.Option renaming map_some->Ab
open _root_.Or renaming inl->A9
def Y0 (N:Nat) (b:ByteArray):Nat->Nat->Option (F8 Bool Unit)
  |0,a=>some (.next ())
  |c+1,a=>((fW b (a:Int)).bind fun d=>bif(d.toNat:Int)<=32 then some true else(fW b (a:Int)).bind fun e=>some (126<(e.toNat:Int)):Option Bool).bind fun f=>bif f then some (.ret false)else Y0 N b c (a+1)
def hX (N:Nat) (a:ByteArray):Option Bool :=
  (bif(a.size:Int)<1 then some true else some (decide (12<(a.size:Int)))).bind fun b=>bif b then some false else(Y0 N a ((a.size:Int)-((0:Nat):Int)).toNat 0).bind fun o=>match o with|.ret r=>some r|.next ()=>some true
def hM (N:Nat) (a:Wd):Nat->Int->Int->Int->Option (Int)
  |0,_,_,_=>none
  |c+1,b,g,h=>(bif 0<=b then bif b<(a.a7.length:Int)then some (decide (h<=(a.a7.length:Int)))else some false else some false).bind fun d=>bif d then(u6 a.a7 b).bind fun e=>(u6 a.a7 b).bind fun f=>hM N a c f.aH (wr (g+e.aC)) (wr (h+1))else some g
def gQ (N:Nat) (a:Wd) (b:Int):Option Int :=
  (hM N a N b 0 0).bind fun c=>some c
def Q3 (N:Nat) (a:Int) (b:Int):Option Bool :=
  (bif 0<=a then some (decide (a<b))else some false).bind fun c=>some c
def kM (N:Nat) (y:Wd) (z:Int) (e:Me) (d:Ins):Option Int :=
  ((bif d.op=1 then some (decide (d.op=1))else(bif d.op=6 then some (decide (d.op=6))else(bif d.op=7 then some (decide (d.op=7))else(bif d.op=8 then some (decide (d.op=8))else(bif d.op=9 then some (decide (d.op=9))else(bif d.op=10 then some (decide (d.op=10))else some (decide (d.op=17))).bind fun q=>some q).bind fun p=>some p).bind fun n=>some n).bind fun m=>some m).bind fun B=>some B).bind fun A=>(bif A then some (.next (d.a=0,false))else(bif d.op=2 then(Q3 N d.a e.args).bind fun f=>some (.next (f,false))else(bif d.op=3 then some (decide (d.op=3))else some (decide (d.op=11))).bind fun s=>(bif s then(Q3 N d.a e.aJ).bind fun g=>some (.next (g,false))else(bif d.op=4 then some (decide (d.op=4))else some (decide (d.op=12))).bind fun t=>(bif t then(gQ N y z).bind fun h=>(Q3 N d.a h).bind fun i=>some (.next (i,false))else(bif d.op=5 then(bif -1073741824<=d.a then some (decide (d.a<=1073741824))else some false).bind fun u=>some (.next (u,false))else(bif d.op=13 then(bif d.a=0 then some true else bif 4<=d.a then some (decide (d.a<(y.a7.length:Int)))else some false).bind fun v=>some (.next (v,false))else(bif d.op=14 then(Q3 N d.a 5).bind fun j=>some (.next (j,true))else(bif d.op=15 then some (decide (d.op=15))else some (decide (d.op=16))).bind fun w=>bif w then(Q3 N d.a (e.code.length:Int)).bind fun k=>some (.next (k,false))else some (.ret 1):Option (F8 Int (Bool×Bool))).bind fun o=>match o with|.ret r=>some (.ret r)|.next (v68,v69)=>some (.next (v68,v69)):Option (F8 Int (Bool×Bool))).bind fun o=>match o with|.ret r=>some (.ret r)|.next (v59,v60)=>some (.next (v59,v60)):Option (F8 Int (Bool×Bool))).bind fun o=>match o with|.ret r=>some (.ret r)|.next (v52,v53)=>some (.next (v52,v53)):Option (F8 Int (Bool×Bool))).bind fun o=>match o with|.ret r=>some (.ret r)|.next (v44,v45)=>some (.next (v44,v45)):Option (F8 Int (Bool×Bool))).bind fun o=>match o with|.ret r=>some (.ret r)|.next (v35,v36)=>some (.next (v35,v36)):Option (F8 Int (Bool×Bool))).bind fun o=>match o with|.ret r=>some (.ret r)|.next (v26,v27)=>some (.next (v26,v27)):Option (F8 Int (Bool×Bool))).bind fun o=>match o with|.ret r=>some (.ret r)|.next (v22,v23)=>some (.next (v22,v23)):Option (F8 Int (Bool×Bool))).bind fun o=>match o with|.ret r=>some r|.next (v1,v2)=>bif !v1 then some 3 else(bif v2 then(hX N d.name).bind fun l=>bif !l then some true else bif !v2 then bif !d.name=⟨#[]⟩then some true else bif !d.b=0 then some true else some (!d.c=0)else bif !d.b=0 then some true else some (!d.c=0)else bif !v2 then bif !d.name=⟨#[]⟩then some true else bif !d.b=0 then some true else some (!d.c=0)else bif !d.b=0 then some true else some (!d.c=0)).bind fun x=>bif x then some 2 else some 0
def kS (N:Nat) (b:Ins):Option (Int×Int) :=
  (bif b.op=9 then some (decide (b.op=9))else(bif b.op=11 then some (decide (b.op=11))else(bif b.op=12 then some (decide (b.op=12))else(bif b.op=16 then some (decide (b.op=16))else some (decide (b.op=17))).bind fun c=>some c).bind fun f=>some f).bind fun e=>some e).bind fun d=>bif d then some (1,0)else bif b.op=10 then some (1,2)else bif b.op=14 then some (wr (b.a+1),1)else bif b.op=15 then some (0,0)else some (0,1)
def O6 (N:Nat):Nat->Nat->(List Int)->Option ((List Int))
  |0,a,b=>some b
  |c+1,a,b=>(u6 b (a:Int)).bind fun d=>O6 N c (a+1) (b.set (a:Int).toNat (-1))
def R6 (N:Nat) (i:Me):Nat->(List Int)->(List M9)->Option (F8 ((List Int)×U0) (List Int))
  |0,_,_=>none
  |j+1,g,e=>bif 0<(e.length:Int)then((u6 e 0).bind fun b=>(u6 e 0).bind fun d=>bif 0<=(1:Int)&&1<=(e.length:Int)then(bif b.f0<0 then some true else some (decide ((i.code.length:Int)<=b.f0))).bind fun k=>bif k then some (.ret ([],⟨9,(i.code.length:Int)⟩))else(u6 g b.f0).bind fun q=>bif 0<=q then(u6 g b.f0).bind fun s=>bif !s=d.f1 then some (.ret ([],⟨8,b.f0⟩))else some (.next (g,e.drop (1:Int).toNat))else(u6 g b.f0).bind fun t=>(u6 i.code b.f0).bind fun f=>(kS N f).bind fun c=>(bif d.f1<c.1 then some true else bif f.op=17 then some (!d.f1=1)else some false).bind fun l=>bif l then some (.ret ([],⟨8,b.f0⟩))else bif 12<wr (d.f1+wr (c.2-c.1))then some (.ret ([],⟨4,b.f0⟩))else(bif !f.op=15 then some (!f.op=17)else some false).bind fun m=>(bif m then bif AD (((e.drop (1:Int).toNat).length+[(⟨wr (b.f0+1),wr (d.f1+wr (c.2-c.1))⟩:M9)].length)*16) 140737488355328 then some (e.drop (1:Int).toNat++[⟨wr (b.f0+1),wr (d.f1+wr (c.2-c.1))⟩])else none else some (e.drop (1:Int).toNat)).bind fun h=>(bif f.op=15 then some true else some (decide (f.op=16))).bind fun n=>(bif n then bif AD ((h.length+[(⟨f.a,wr (d.f1+wr (c.2-c.1))⟩:M9)].length)*16) 140737488355328 then some (h++[⟨f.a,wr (d.f1+wr (c.2-c.1))⟩])else none else some h).bind fun p=>some (.next (g.set b.f0.toNat d.f1,p))else none:Option (F8 ((List Int)×U0) ((List Int)×(List M9)))).bind fun o=>match o with|.ret r=>some (.ret r)|.next (v29,v30)=>R6 N i j v29 v30 else some (.next g)
def kN (N:Nat) (a:Me):Option ((List Int)×U0) :=
  bif 0<=(a.code.length:Int)&&(a.code.length:Int)<=140737488355328&&(a.code.length:Int)*8<=140737488355328 then(O6 N (((AG (a.code.length:Int).toNat (0:Int)).length:Int)-((0:Nat):Int)).toNat 0 (AG (a.code.length:Int).toNat 0)).bind fun b=>(R6 N a N b [⟨0,0⟩]).bind fun o=>match o with|.ret r=>some r|.next v22=>some (v22,⟨0,0⟩)else none
def Y5 (N:Nat) (c:Wd) (d:Int) (e:Me):List Ins->Nat->Option (F8 U0 Unit)
  |[],a=>some (.next ())
  |x28::rest25,a=>(kM N c d e x28).bind fun b=>bif !b=0 then some (.ret ⟨b,(a:Int)⟩)else Y5 N c d e rest25 (a+1)
def kX (N:Nat) (e:Wd) (b:Int) (a:Me):Option U0 :=
  (bif b<0 then some true else some (decide ((e.a7.length:Int)<=b))).bind fun g=>bif g then some ⟨6,0⟩else(hX N a.name).bind fun f=>bif !f then some ⟨7,0⟩else(bif a.args<0 then some true else bif 4<a.args then some true else bif a.aJ<0 then some true else some (decide (6<a.aJ))).bind fun h=>bif h then some ⟨3,0⟩else bif !a.aO=0 then some ⟨1,0⟩else(bif(a.code.length:Int)<1 then some true else some (decide (60<(a.code.length:Int)))).bind fun d=>bif d then some ⟨5,0⟩else(Y5 N e b a a.code 0).bind fun o=>match o with|.ret r=>some r|.next ()=>(kN N a).bind fun c=>some c.2
def l5 (N:Nat) (j:(List Me)) (k:ByteArray) (l:(Me->ByteArray->Option Int)):Nat->Int->Int->Option (Int)
  |0,_,_=>none
  |c+1,a,b=>bif a<b then(bif 0<=wr (a+b)then bif D8 (wr (a+b)/2)then(u6 j (wr (a+b)/2)).bind fun i=>(l i k).bind fun d=>(bif d<0 then some (wr (wr (a+b)/2+1),b)else some (a,wr (a+b)/2)).bind fun(g,h)=>some (g,h)else none else none).bind fun(e,f)=>l5 N j k l c e f else some a
def o9 (N:Nat) (a:(List Me)) (f:ByteArray) (g:Me->ByteArray->Option Int):Option (Int×Bool) :=
  (l5 N a f g N 0 (a.length:Int)).bind fun d=>(bif d<(a.length:Int)then(u6 a d).bind fun e=>(g e f).bind fun b=>some (decide (b=0))else some false).bind fun c=>some (d,c)
def cmp_isNaN_string (N:Nat) (a:ByteArray):Option Bool :=
  some (!a=a)
def mD (N:Nat) (a:ByteArray) (b:ByteArray):Option Int :=
  (cmp_isNaN_string N a).bind fun d=>(cmp_isNaN_string N b).bind fun c=>bif d then bif c then some 0 else some (-1)else bif c then some 1 else bif V7 a b then some (-1)else bif !(V7 a b||a=b)then some 1 else some 0
def Z4 (N:Nat) (a:Me) (b:ByteArray):Option Int :=
  (mD N a.name b).bind fun c=>some c
def kQ (N:Nat) (a:V) (d:Int):Option Int :=
  ((bif a.k=0 then some (decide (a.k=0))else(bif a.k=1 then some (decide (a.k=1))else some (decide (a.k=2))).bind fun f=>some f).bind fun e=>(bif e then bif !a.n=0 then some (.ret 2)else some (.next ())else(bif a.k=3 then(bif a.n< -1073741824 then some true else some (decide (1073741824<a.n))).bind fun b=>bif b then some (.ret 3)else some (.next ())else bif a.k=4 then(bif a.n<0 then some true else some (decide (d<=a.n))).bind fun c=>bif c then some (.ret 6)else some (.next ())else some (.ret 1):Option (F8 Int Unit)).bind fun o=>match o with|.ret r=>some (.ret r)|.next ()=>some (.next ()):Option (F8 Int Unit)).bind fun o=>match o with|.ret r=>some (.ret r)|.next ()=>some (.next ()):Option (F8 Int Unit)).bind fun o=>match o with|.ret r=>some r|.next ()=>some 0
def Y3 (N:Nat) (a:Wd) (i:ByteArray):Nat->Int->Int->Option (F8 (Int×Int) Unit)
  |0,_,_=>none
  |k+1,c,j=>(bif 0<=c then bif c<(a.a7.length:Int)then some (decide (j<=(a.a7.length:Int)))else some false else some false).bind fun d=>bif d then(u6 a.a7 c).bind fun f=>(o9 N f.aB i fun e g=>Z4 N e g).bind fun b=>bif b.2 then some (.ret (c,b.1))else(u6 a.a7 c).bind fun h=>Y3 N a i k h.aH (wr (j+1))else some (.next ())
def kY (N:Nat) (a:Wd) (b:Int) (c:ByteArray):Option (Int×Int) :=
  (Y3 N a c N b 0).bind fun o=>match o with|.ret r=>some r|.next ()=>some (-1,-1)
def X4 (N:Nat) (b:(List Int)) (a:ByteArray):Option (Int×Bool×(List Int)) :=
  bif AD (b.length+a.size) 140737488355328 then some ((a.size:Int),true,b++V3 a)else none
def Y8 (N:Nat) (a:(List Int)) (b:Int):Option (Bool×(List Int)) :=
  bif AD ((a.length+[b].length)*1) 140737488355328 then some (true,a++[b])else none
def P5 (N:Nat) (a:(List Int)) (b:ByteArray):Option (List Int) :=
  (X4 N a b).bind fun c=>(Y8 N c.2.2 32).bind fun d=>some d.2
def J6 (N:Nat):List Int->Nat->(List Int)->Option ((List Int))
  |[],d,c=>some c
  |x10::rest7,d,c=>(strconv_Itoa N x10).bind fun a=>(P5 N c a).bind fun b=>J6 N rest7 (d+1) b
def J3 (N:Nat) (a:(List Int)) (b:(List Int)):Option (List Int) :=
  (J6 N b 0 a).bind fun c=>some c
def G9 (N:Nat):List Ins->Nat->(List Int)->Option ((List Int))
  |[],g,f=>some f
  |x15::rest12,g,f=>((J3 N f [x15.op,x15.a]).bind fun b=>(bif x15.op=14 then(P5 N b x15.name).bind fun c=>some c else some b).bind fun e=>some e:Option (List Int)).bind fun d=>G9 N rest12 (g+1) d
def k7 (N:Nat) (c:(List Int)) (a:Me):Option (List Int) :=
  (P5 N c a.name).bind fun d=>(J3 N d [a.args,a.aJ,a.aO,(a.code.length:Int)]).bind fun e=>(G9 N a.code 0 e).bind fun b=>some b
def U8 (N:Nat):List Me->Nat->(List Int)->Option ((List Int))
  |[],b,a=>some a
  |x30::rest27,b,a=>(k7 N a x30).bind fun c=>U8 N rest27 (b+1) c
def U5 (N:Nat):List Cl->Nat->(List Int)->Option ((List Int))
  |[],e,d=>some d
  |x13::rest10,e,d=>(P5 N d x13.name).bind fun a=>(J3 N a [x13.aH,x13.aC,(x13.aB.length:Int)]).bind fun b=>(U8 N x13.aB 0 b).bind fun c=>U5 N rest10 (e+1) c
def U7 (N:Nat):List V->Nat->(List Int)->Option ((List Int))
  |[],b,a=>some a
  |x62::rest59,b,a=>(J3 N a [x62.k,x62.n]).bind fun c=>U7 N rest59 (b+1) c
def U6 (N:Nat):List Ob->Nat->(List Int)->Option ((List Int))
  |[],b,a=>some a
  |x47::rest44,b,a=>(J3 N a [x47.cls,(x47.aC.length:Int)]).bind fun c=>(U7 N x47.aC 0 c).bind fun d=>U6 N rest44 (b+1) d
def kZ (N:Nat) (a:Wd):Option (List Int) :=
  (J3 N [] [a.aN,(a.a7.length:Int)]).bind fun d=>(U5 N a.a7 0 d).bind fun e=>(J3 N e [(a.heap.length:Int)]).bind fun c=>(U6 N a.heap 0 c).bind fun b=>bif !b.isEmpty then some (V3 (strOfNums b))else none
def G8 (N:Nat) (b:l9):Option (ByteArray×l9) :=
  (strings_Cut N b.s ⟨#[32]⟩).bind fun a=>(bif !a.2.2 then some true else some (decide (a.1=⟨#[]⟩))).bind fun c=>bif c then some (⟨#[]⟩,⟨b.s,false⟩)else some (a.1,⟨a.2.1,b.cH⟩)
def j6 (N:Nat) (d:l9):Option (Int×l9) :=
  (G8 N d).bind fun a=>(strconv_Atoi N a.1).bind fun b=>(bif !b.2 then some true else(strconv_Itoa N b.1).bind fun e=>some (!e=a.1)).bind fun f=>(bif f then some ⟨a.2.s,false⟩else some a.2).bind fun c=>some (b.1,c)
def D9 (N:Nat) (b:l9) (c:Int):Option (Int×l9) :=
  (j6 N b).bind fun a=>(bif a.1<0 then some true else some (decide (c<a.1))).bind fun d=>bif d then some (0,⟨a.2.s,false⟩)else some (a.1,a.2)
def E9 (N:Nat):Nat->Nat->l9->(List Ins)->Option ((l9×(List Ins)))
  |0,e,d,c=>some (d,c)
  |h+1,e,d,c=>(j6 N d).bind fun a=>(j6 N a.2).bind fun b=>(bif a.1=14 then(G8 N b.2).bind fun f=>some (f.2,f.1)else some (b.2,AE)).bind fun(i,g)=>bif AD ((c.length+[(⟨a.1,b.1,0,0,g⟩:Ins)].length)*48) 140737488355328 then E9 N h (e+1) i (c++[⟨a.1,b.1,0,0,g⟩])else none
def Q5 (N:Nat) (h:l9):Option (Me×l9) :=
  (G8 N h).bind fun c=>(j6 N c.2).bind fun d=>(j6 N d.2).bind fun e=>(j6 N e.2).bind fun f=>(D9 N f.2 60).bind fun g=>(E9 N (g.1-((0:Nat):Int)).toNat 0 g.2 []).bind fun(a,b)=>some (⟨c.1,d.1,e.1,f.1,b⟩,a)
def x9 (N:Nat):Nat->Nat->l9->(List Me)->Option ((l9×(List Me)))
  |0,d,c,a=>some (c,a)
  |e+1,d,c,a=>(Q5 N c).bind fun b=>bif AD ((a.length+[b.1].length)*64) 140737488355328 then x9 N e (d+1) b.2 (a++[b.1])else none
def F6 (N:Nat):Nat->Nat->l9->(List Cl)->Option ((l9×(List Cl)))
  |0,j,i,f=>some (i,f)
  |g+1,j,i,f=>(G8 N i).bind fun a=>(j6 N a.2).bind fun b=>(j6 N b.2).bind fun c=>(D9 N c.2 8).bind fun d=>(x9 N (d.1-((0:Nat):Int)).toNat 0 d.2 []).bind fun(h,e)=>bif AD ((f.length+[(⟨a.1,b.1,c.1,e⟩:Cl)].length)*56) 140737488355328 then F6 N g (j+1) h (f++[⟨a.1,b.1,c.1,e⟩])else none
def y8 (N:Nat):Nat->Nat->l9->(List V)->Option ((l9×(List V)))
  |0,e,d,a=>some (d,a)
  |f+1,e,d,a=>(j6 N d).bind fun b=>(j6 N b.2).bind fun c=>bif AD ((a.length+[(⟨b.1,c.1⟩:V)].length)*16) 140737488355328 then y8 N f (e+1) c.2 (a++[⟨b.1,c.1⟩])else none
def F5 (N:Nat):Nat->Nat->l9->(List Ob)->Option ((l9×(List Ob)))
  |0,d,c,a=>some (c,a)
  |g+1,d,c,a=>(j6 N c).bind fun b=>(D9 N b.2 6).bind fun e=>(y8 N (e.1-((0:Nat):Int)).toNat 0 e.2 []).bind fun(h,f)=>bif AD ((a.length+[(⟨b.1,f⟩:Ob)].length)*32) 140737488355328 then F5 N g (d+1) h (a++[⟨b.1,f⟩])else none
def k9 (N:Nat) (h:l9):Option (Wd×l9) :=
  (j6 N h).bind fun f=>(D9 N f.2 12).bind fun g=>(F6 N (g.1-((0:Nat):Int)).toNat 0 g.2 []).bind fun(b,c)=>(D9 N b 60).bind fun a=>(F5 N (a.1-((0:Nat):Int)).toNat 0 a.2 []).bind fun(d,e)=>some (⟨c,e,f.1⟩,d)
def jF (N:Nat) (b:Wd) (a:Me):Option Bool :=
  (kY N b 3 a.name).bind fun c=>(bif 0<=c.2 then(u6 b.a7 3).bind fun e=>(u6 e.aB c.2).bind fun f=>bif a.aO=f.aO then bif a.args=1 then bif a.aJ=0 then some (decide ((a.code.length:Int)=0))else some false else some false else some false else some false).bind fun d=>some d
def gP (N:Nat) (c:Wd):List V->Nat->Option (F8 Int Unit)
  |[],a=>some (.next ())
  |x29::rest26,a=>(kQ N x29 (c.heap.length:Int)).bind fun b=>bif !b=0 then some (.ret b)else gP N c rest26 (a+1)
def gO (N:Nat) (a:Wd):List Ob->Nat->Option (F8 Int Unit)
  |[],e=>some (.next ())
  |x7::rest4,e=>(bif !x7.cls=0 then bif x7.cls<4 then some true else bif(a.a7.length:Int)<=x7.cls then some true else(gQ N a x7.cls).bind fun b=>some (!(x7.aC.length:Int)=b)else(gQ N a x7.cls).bind fun c=>some (!(x7.aC.length:Int)=c)).bind fun d=>bif d then some (.ret 8)else(gP N a x7.aC 0).bind fun o=>match o with|.ret r=>some (.ret r)|.next ()=>gO N a rest4 (e+1)
def nA (N:Nat) (a:Wd):Option Int :=
  (gO N a a.heap 0).bind fun o=>match o with|.ret r=>some r|.next ()=>some 0
def Y2 (N:Nat) (c:Wd):List Cl->Nat->(List (ByteArray×Bool))->Option (F8 Int Unit)
  |[],a,b=>some (.next ())
  |x24::rest21,a,b=>((hX N x24.name).bind fun d=>bif !d then some true else bif dE x24.name b then some true else bif(a:Int)<(c.a7.length:Int)then(u6 c.a7 (a:Int)).bind fun g=>some (!x24.name=g.name)else some false:Option Bool).bind fun e=>bif e then some (.ret 7)else bif AD (b.length+1) 140737488355328 then(bif(a:Int)<(c.a7.length:Int)then(u6 c.a7 (a:Int)).bind fun h=>bif !x24.aH=h.aH then some true else bif !x24.aC=0 then some true else bif(c.a7.length:Int)<=(a:Int)then bif x24.aH<0 then some true else bif(a:Int)<=x24.aH then some true else bif !x24.aH=0 then bif x24.aH<4 then some true else bif x24.aC<0 then some true else some (decide (6<x24.aC))else bif x24.aC<0 then some true else some (decide (6<x24.aC))else bif x24.aC<0 then some true else some (decide (6<x24.aC))else bif(c.a7.length:Int)<=(a:Int)then bif x24.aH<0 then some true else bif(a:Int)<=x24.aH then some true else bif !x24.aH=0 then bif x24.aH<4 then some true else bif x24.aC<0 then some true else some (decide (6<x24.aC))else bif x24.aC<0 then some true else some (decide (6<x24.aC))else bif x24.aC<0 then some true else some (decide (6<x24.aC))).bind fun f=>bif f then some (.ret 3)else Y2 N c rest21 (a+1) (c7 x24.name true b)else none
def Y1 (N:Nat) (i:Wd) (j:Wd) (c:Nat) (e:Cl):List Me->Nat->Option (F8 Int Unit)
  |[],a=>some (.next ())
  |x86::rest83,a=>((bif 0<(a:Int)then(u6 e.aB (wr ((a:Int)-1))).bind fun h=>some (!V7 h.name x86.name)else some false).bind fun f=>bif f then some (.ret 7)else(bif !x86.aO=0 then bif(c:Int)=3 then(jF N j x86).bind fun d=>some d else some false else some false).bind fun g=>bif g then some (.next ())else(kX N i (c:Int) x86).bind fun b=>bif !b.err=0 then some (.ret b.err)else some (.next ()):Option (F8 Int Unit)).bind fun o=>match o with|.ret r=>some (.ret r)|.next ()=>Y1 N i j c e rest83 (a+1)
def Y4 (N:Nat) (b:Wd) (d:Wd):List Cl->Nat->Option (F8 Int Unit)
  |[],a=>some (.next ())
  |x72::rest69,a=>(gQ N b (a:Int)).bind fun c=>bif 6<c then some (.ret 3)else bif 8<(x72.aB.length:Int)then some (.ret 5)else(Y1 N b d a x72 x72.aB 0).bind fun o=>match o with|.ret r=>some (.ret r)|.next ()=>Y4 N b d rest69 (a+1)
def hZ (N:Nat) (a:Wd):Option Int :=
  (mz N).bind fun c=>(bif(a.a7.length:Int)<(c.a7.length:Int)then some true else bif 12<(a.a7.length:Int)then some true else some (decide (60<(a.heap.length:Int)))).bind fun e=>bif e then some 5 else(bif a.aN<0 then some true else some (decide (1073741824<a.aN))).bind fun d=>bif d then some 3 else(Y2 N c a.a7 0 []).bind fun o=>match o with|.ret r=>some r|.next ()=>(Y4 N a c a.a7 0).bind fun o=>match o with|.ret r=>some r|.next ()=>(nA N a).bind fun b=>some b
def kV (N:Nat) (c:(List Int)):Option (Wd×Int) :=
  (k9 N ⟨strOfNums c,true⟩).bind fun a=>(bif !a.2.cH then some true else some (!a.2.s=⟨#[]⟩)).bind fun d=>bif d then some (⟨[],[],0⟩,2)else(hZ N a.1).bind fun b=>bif !b=0 then some (⟨[],[],0⟩,b)else some (a.1,0)
def V4 (N:Nat) (b:ByteArray):Nat->Nat->Option (F8 Bool Unit)
  |0,a=>some (.next ())
  |n6+1,a=>((fW b (a:Int)).bind fun c=>bif(c.toNat:Int)<33 then some true else(fW b (a:Int)).bind fun d=>some (126<(d.toNat:Int)):Option Bool).bind fun e=>bif e then some (.ret false)else V4 N b n6 (a+1)
def hW (N:Nat) (a:ByteArray):Option Bool :=
  (V4 N a ((a.size:Int)-((0:Nat):Int)).toNat 0).bind fun o=>match o with|.ret r=>some r|.next ()=>(bif 0<(a.size:Int)then some (decide ((a.size:Int)<=12))else some false).bind fun b=>some b
def hO (N:Nat) (b:Wd):Nat->Int->(List Int)->Option ((List Int))
  |0,_,_=>none
  |d+1,a,c=>(bif 0<=a then bif a<(b.a7.length:Int)then some (decide ((c.length:Int)<=(b.a7.length:Int)))else some false else some false).bind fun e=>bif e then bif AD ((c.length+[a].length)*8) 140737488355328 then(u6 b.a7 a).bind fun f=>hO N b d f.aH (c++[a])else none else some c
def ka (N:Nat) (a:Wd) (b:Int):Option (List Int) :=
  (hO N a N b []).bind fun c=>some c
def R9 (N:Nat) (e:Wd) (f:(List Int)):List Int->Nat->Int->Option (Int)
  |[],a,b=>some b
  |x12::rest9,a,b=>(u6 f (a:Int)).bind fun c=>(u6 e.a7 c).bind fun d=>R9 N e f rest9 (a+1) (wr (b+d.aC))
def gM (N:Nat) (a:Wd) (c:Int):Option Int :=
  (ka N a c).bind fun b=>(R9 N a b b 0 0).bind fun d=>some d
def Z8 (N:Nat) (t:Wd) (u:Int) (e:Me) (d:Ins):Option Int :=
  ((bif d.op=1 then some (decide (d.op=1))else(bif d.op=6 then some (decide (d.op=6))else(bif d.op=7 then some (decide (d.op=7))else(bif d.op=8 then some (decide (d.op=8))else(bif d.op=9 then some (decide (d.op=9))else(bif d.op=10 then some (decide (d.op=10))else some (decide (d.op=17))).bind fun k=>some k).bind fun j=>some j).bind fun i=>some i).bind fun h=>some h).bind fun w=>some w).bind fun v=>(bif v then some (.next (0,0))else(bif d.op=2 then some (.next (0,wr (e.args-1)))else(bif d.op=3 then some (decide (d.op=3))else some (decide (d.op=11))).bind fun l=>(bif l then some (.next (0,wr (e.aJ-1)))else(bif d.op=4 then some (decide (d.op=4))else some (decide (d.op=12))).bind fun m=>(bif m then(gM N t u).bind fun f=>some (.next (0,wr (f-1)))else(bif d.op=5 then some (.next (-1073741824,1073741824))else(bif d.op=13 then(bif 0<d.a then some (decide (d.a<4))else some false).bind fun n=>bif n then some (.ret 3)else some (.next (wr ((t.a7.length:Int)-1)))else(bif d.op=14 then some (.next 4)else(bif d.op=15 then some (decide (d.op=15))else some (decide (d.op=16))).bind fun p=>bif p then some (.next (wr ((e.code.length:Int)-1)))else some (.ret 1):Option (F8 Int Int)).bind fun o=>match o with|.ret r=>some (.ret r)|.next v58=>some (.next v58):Option (F8 Int Int)).bind fun o=>match o with|.ret r=>some (.ret r)|.next v50=>some (.next (0,v50)):Option (F8 Int (Int×Int))).bind fun o=>match o with|.ret r=>some (.ret r)|.next (v46,v47)=>some (.next (v46,v47)):Option (F8 Int (Int×Int))).bind fun o=>match o with|.ret r=>some (.ret r)|.next (v40,v41)=>some (.next (v40,v41)):Option (F8 Int (Int×Int))).bind fun o=>match o with|.ret r=>some (.ret r)|.next (v33,v34)=>some (.next (v33,v34)):Option (F8 Int (Int×Int))).bind fun o=>match o with|.ret r=>some (.ret r)|.next (v26,v27)=>some (.next (v26,v27)):Option (F8 Int (Int×Int))).bind fun o=>match o with|.ret r=>some (.ret r)|.next (v22,v23)=>some (.next (v22,v23)):Option (F8 Int (Int×Int))).bind fun o=>match o with|.ret r=>some r|.next (v1,v2)=>(bif d.a<v1 then some true else some (decide (v2<d.a))).bind fun q=>bif q then some 3 else(bif d.op=14 then(hW N d.name).bind fun g=>bif !g then some true else bif !d.op=14 then bif !d.name=⟨#[]⟩then some true else bif !d.b=0 then some true else some (!d.c=0)else bif !d.b=0 then some true else some (!d.c=0)else bif !d.op=14 then bif !d.name=⟨#[]⟩then some true else bif !d.b=0 then some true else some (!d.c=0)else bif !d.b=0 then some true else some (!d.c=0)).bind fun s=>bif s then some 2 else some 0
def kT (N:Nat) (b:Ins) (c:Int):Option (Int×Int×(List Int)) :=
  (bif b.op=9 then some (decide (b.op=9))else(bif b.op=11 then some (decide (b.op=11))else some (decide (b.op=12))).bind fun e=>some e).bind fun d=>bif d then some (1,-1,[wr (c+1)])else bif b.op=10 then some (1,1,[wr (c+1)])else bif b.op=14 then bif D8 (-b.a)then some (wr (b.a+1),-b.a,[wr (c+1)])else none else bif b.op=15 then some (0,0,[b.a])else bif b.op=16 then some (1,-1,[wr (c+1),b.a])else bif b.op=17 then some (1,-1,[])else some (0,1,[wr (c+1)])
def L6 (N:Nat):Nat->Nat->(List Int)->Option ((List Int))
  |0,a,b=>some b
  |c+1,a,b=>(u6 b (a:Int)).bind fun d=>L6 N c (a+1) (b.set (a:Int).toNat (-1))
def K9 (N:Nat) (e:Int) (a:(Int×Int×(List Int))):List Int->Nat->(List Int)->(List Int)->Option (((List Int)×(List Int)))
  |[],d,b,c=>some (b,c)
  |x79::rest76,d,b,c=>(u6 a.2.2 (d:Int)).bind fun f=>bif AD ((b.length+[f].length)*8) 140737488355328 then bif AD ((c.length+[wr (e+a.2.1)].length)*8) 140737488355328 then K9 N e a rest76 (d+1) (b++[f]) (c++[wr (e+a.2.1)])else none else none
def O3 (N:Nat) (h:Me):Nat->(List Int)->(List Int)->(List Int)->Int->Option (F8 ((List Int)×U0) (List Int))
  |0,_,_,_,_=>none
  |i+1,b,e,g,f=>bif f<(e.length:Int)then((u6 e f).bind fun a=>(u6 g f).bind fun c=>(bif(h.code.length:Int)<=a then some true else some (decide (a<0))).bind fun j=>bif j then some (.ret ([],⟨9,(h.code.length:Int)⟩))else(u6 b a).bind fun n=>bif 0<=n then(u6 b a).bind fun p=>bif !p=c then some (.ret ([],⟨8,a⟩))else some (.next (b,e,g))else(u6 b a).bind fun t=>(u6 h.code a).bind fun q=>(kT N q a).bind fun d=>(bif c<d.1 then some true else(u6 h.code a).bind fun s=>bif s.op=17 then some (!c=1)else some false).bind fun k=>bif k then some (.ret ([],⟨8,a⟩))else bif 12<wr (c+d.2.1)then some (.ret ([],⟨4,a⟩))else(K9 N c d d.2.2 0 e g).bind fun(l,m)=>some (.next (b.set a.toNat c,l,m)):Option (F8 ((List Int)×U0) ((List Int)×(List Int)×(List Int)))).bind fun o=>match o with|.ret r=>some (.ret r)|.next (v33,v34,v35)=>O3 N h i v33 v34 v35 (wr (f+1))else some (.next b)
def kE (N:Nat) (a:Me):Option ((List Int)×U0) :=
  bif 0<=(a.code.length:Int)&&(a.code.length:Int)<=140737488355328&&(a.code.length:Int)*8<=140737488355328 then(L6 N (((AG (a.code.length:Int).toNat (0:Int)).length:Int)-((0:Nat):Int)).toNat 0 (AG (a.code.length:Int).toNat 0)).bind fun b=>(O3 N a N b [0] [0] 0).bind fun o=>match o with|.ret r=>some r|.next v26=>some (v26,⟨0,0⟩)else none
def R3 (N:Nat) (c:Wd) (d:Int) (e:Me):List Ins->Nat->Option (F8 U0 Unit)
  |[],a=>some (.next ())
  |x28::rest25,a=>(Z8 N c d e x28).bind fun b=>bif !b=0 then some (.ret ⟨b,(a:Int)⟩)else R3 N c d e rest25 (a+1)
def kP (N:Nat) (e:Wd) (b:Int) (a:Me):Option U0 :=
  (bif b<0 then some true else some (decide ((e.a7.length:Int)<=b))).bind fun g=>bif g then some ⟨6,0⟩else(hW N a.name).bind fun f=>bif !f then some ⟨7,0⟩else(bif a.args<0 then some true else bif 4<a.args then some true else bif a.aJ<0 then some true else some (decide (6<a.aJ))).bind fun h=>bif h then some ⟨3,0⟩else bif !a.aO=0 then some ⟨1,0⟩else(bif(a.code.length:Int)=0 then some true else some (decide (60<(a.code.length:Int)))).bind fun d=>bif d then some ⟨5,0⟩else(R3 N e b a a.code 0).bind fun o=>match o with|.ret r=>some r|.next ()=>(kE N a).bind fun c=>some c.2
def kL (N:Nat) (a:V) (c:Int):Option Int :=
  (bif a.k<0 then some true else some (decide (4<a.k))).bind fun d=>bif d then some 1 else(bif a.k<3 then some (!a.n=0)else some false).bind fun e=>bif e then some 2 else(bif a.k=3 then bif a.n< -1073741824 then some true else some (decide (1073741824<a.n))else some false).bind fun f=>bif f then some 3 else(bif a.k=4 then bif a.n<0 then some true else some (decide (c<=a.n))else some false).bind fun b=>bif b then some 6 else some 0
def U2 (N:Nat) (b:Cl):List Cl->Nat->Option (F8 Int Unit)
  |[],a=>some (.next ())
  |x40::rest37,a=>bif x40.name=b.name then some (.ret 7)else U2 N b rest37 (a+1)
def R5 (N:Nat) (b:Wd) (c:Wd):List Cl->Nat->Option (F8 Int Unit)
  |[],a=>some (.next ())
  |x21::rest18,a=>((hW N x21.name).bind fun d=>bif !d then some true else bif(a:Int)<4 then(u6 c.a7 (a:Int)).bind fun h=>some (!x21.name=h.name)else some false:Option Bool).bind fun e=>bif e then some (.ret 7)else bif 0<=(a:Int)&&(a:Int)<=(b.a7.length:Int)then(U2 N x21 (b.a7.take (a:Int).toNat) 0).bind fun o=>match o with|.ret r=>some (.ret r)|.next ()=>(bif(a:Int)<4 then(u6 c.a7 (a:Int)).bind fun i=>bif !x21.aH=i.aH then some (.ret 3)else some (.next 0)else(bif x21.aH<0 then some true else bif(a:Int)<=x21.aH then some true else bif 0<x21.aH then some (decide (x21.aH<4))else some false).bind fun f=>bif f then some (.ret 3)else some (.next 6):Option (F8 Int Int)).bind fun o=>match o with|.ret r=>some (.ret r)|.next v44=>(bif x21.aC<0 then some true else some (decide (v44<x21.aC))).bind fun g=>bif g then some (.ret 3)else R5 N b c rest18 (a+1)else none
def M5 (N:Nat) (c:Nat) (a:Me):List Me->Nat->Bool->Option (Bool)
  |[],d,b=>some b
  |x100::rest97,d,b=>((bif b then some true else bif(c:Int)=3 then bif x100.name=a.name then bif x100.aO=a.aO then bif a.args=1 then bif a.aJ=0 then some (decide ((a.code.length:Int)=0))else some false else some false else some false else some false else some false).bind fun f=>some f:Option Bool).bind fun e=>M5 N c a rest97 (d+1) e
def U1 (N:Nat) (j:Wd) (k:Wd) (c:Nat) (e:Cl):List Me->Nat->Option (F8 Int Unit)
  |[],a=>some (.next ())
  |x80::rest77,a=>(bif 0<(a:Int)then(u6 e.aB (wr ((a:Int)-1))).bind fun h=>some (!V7 h.name x80.name)else some false).bind fun f=>bif f then some (.ret 7)else(u6 k.a7 3).bind fun i=>(M5 N c x80 i.aB 0 false).bind fun g=>(kP N j (c:Int) x80).bind fun b=>(bif !g then some (!b.err=0)else some false).bind fun d=>bif d then some (.ret b.err)else U1 N j k c e rest77 (a+1)
def R7 (N:Nat) (b:Wd) (d:Wd):List Cl->Nat->Option (F8 Int Unit)
  |[],a=>some (.next ())
  |x66::rest63,a=>(gM N b (a:Int)).bind fun c=>bif 6<c then some (.ret 3)else bif 8<(x66.aB.length:Int)then some (.ret 5)else(U1 N b d a x66 x66.aB 0).bind fun o=>match o with|.ret r=>some (.ret r)|.next ()=>R7 N b d rest63 (a+1)
def T9 (N:Nat) (c:Wd):List V->Nat->Option (F8 Int Unit)
  |[],a=>some (.next ())
  |x151::rest148,a=>(kL N x151 (c.heap.length:Int)).bind fun b=>bif !b=0 then some (.ret b)else T9 N c rest148 (a+1)
def R8 (N:Nat) (b:Wd):List Ob->Nat->Option (F8 Int Unit)
  |[],a=>some (.next ())
  |x126::rest123,a=>(bif x126.cls<0 then some true else bif 0<x126.cls then bif x126.cls<4 then some true else bif(b.a7.length:Int)<=x126.cls then some true else(gM N b x126.cls).bind fun c=>some (!(x126.aC.length:Int)=c)else bif(b.a7.length:Int)<=x126.cls then some true else(gM N b x126.cls).bind fun d=>some (!(x126.aC.length:Int)=d)).bind fun e=>bif e then some (.ret 8)else(T9 N b x126.aC 0).bind fun o=>match o with|.ret r=>some (.ret r)|.next ()=>R8 N b rest123 (a+1)
def gN (N:Nat) (a:Wd):Option Int :=
  (lz N).bind fun c=>(bif(a.a7.length:Int)<4 then some true else bif 12<(a.a7.length:Int)then some true else some (decide (60<(a.heap.length:Int)))).bind fun d=>bif d then some 5 else(bif a.aN<0 then some true else some (decide (1073741824<a.aN))).bind fun b=>bif b then some 3 else(R5 N a c a.a7 0).bind fun o=>match o with|.ret r=>some r|.next ()=>(R7 N a c a.a7 0).bind fun o=>match o with|.ret r=>some r|.next ()=>(R8 N a a.heap 0).bind fun o=>match o with|.ret r=>some r|.next ()=>some 0
def K4 (N:Nat):List Int->Nat->ByteArray->Option (ByteArray)
  |[],c,b=>some b
  |x10::rest7,c,b=>(strconv_Itoa N x10).bind fun a=>bif b.size+a.size<=4611686018427387904 then bif(b++a).size+(⟨#[32]⟩:ByteArray).size<=4611686018427387904 then K4 N rest7 (c+1) ((b++a)++⟨#[32]⟩)else none else none
def J7 (N:Nat) (a:(List Int)) (b:ByteArray):Option ByteArray :=
  (K4 N a 0 b).bind fun c=>some c
def N9 (N:Nat):List Ins->Nat->ByteArray->Option (ByteArray)
  |[],d,c=>some c
  |x47::rest44,d,c=>((J7 N [x47.op,x47.a] c).bind fun b=>(bif x47.op=14 then bif b.size+x47.name.size<=4611686018427387904 then bif(b++x47.name).size+(⟨#[32]⟩:ByteArray).size<=4611686018427387904 then some ((b++x47.name)++⟨#[32]⟩)else none else none else some b).bind fun f=>some f:Option ByteArray).bind fun e=>N9 N rest44 (d+1) e
def K8 (N:Nat):List Me->Nat->ByteArray->Option (ByteArray)
  |[],b,a=>some a
  |x30::rest27,b,a=>bif a.size+x30.name.size<=4611686018427387904 then bif(a++x30.name).size+(⟨#[32]⟩:ByteArray).size<=4611686018427387904 then(J7 N [x30.args,x30.aJ,x30.aO,(x30.code.length:Int)] ((a++x30.name)++⟨#[32]⟩)).bind fun c=>(N9 N x30.code 0 c).bind fun d=>K8 N rest27 (b+1) d else none else none
def O0 (N:Nat):List Cl->Nat->ByteArray->Option (ByteArray)
  |[],d,a=>some a
  |x13::rest10,d,a=>bif a.size+x13.name.size<=4611686018427387904 then bif(a++x13.name).size+(⟨#[32]⟩:ByteArray).size<=4611686018427387904 then(J7 N [x13.aH,x13.aC,(x13.aB.length:Int)] ((a++x13.name)++⟨#[32]⟩)).bind fun b=>(K8 N x13.aB 0 b).bind fun c=>O0 N rest10 (d+1) c else none else none
def Q4 (N:Nat):List V->Nat->ByteArray->Option (ByteArray)
  |[],b,a=>some a
  |x86::rest83,b,a=>(J7 N [x86.k,x86.n] a).bind fun c=>Q4 N rest83 (b+1) c
def Q6 (N:Nat):List Ob->Nat->ByteArray->Option (ByteArray)
  |[],b,a=>some a
  |x71::rest68,b,a=>(J7 N [x71.cls,(x71.aC.length:Int)] a).bind fun c=>(Q4 N x71.aC 0 c).bind fun d=>Q6 N rest68 (b+1) d
def kU (N:Nat) (a:Wd):Option ByteArray :=
  (J7 N [a.aN,(a.a7.length:Int)] ⟨#[]⟩).bind fun d=>(O0 N a.a7 0 d).bind fun e=>(J7 N [(a.heap.length:Int)] e).bind fun b=>(Q6 N a.heap 0 b).bind fun c=>some c
def I6 (N:Nat) (c:ByteArray):Nat->Nat->(List ByteArray)->ByteArray->Option (F8 ((List ByteArray)×Bool) ((List ByteArray)×ByteArray))
  |0,a,d,b=>some (.next (d,b))
  |e+1,a,d,b=>((fW c (a:Int)).bind fun f=>bif !(f.toNat:Int)=32 then bif 0<=(a:Int)&&((a:Int)<=(a:Int)+1&&(a:Int)+1<=(c.size:Int))then bif b.size+(c.extract (a:Int).toNat ((a:Int)+1).toNat).size<=4611686018427387904 then some (.next (d,b++c.extract (a:Int).toNat ((a:Int)+1).toNat))else none else none else bif b=⟨#[]⟩then some (.ret ([],false))else bif AD ((d.length+[b].length)*16) 140737488355328 then some (.next (d++[b],⟨#[]⟩))else none:Option (F8 ((List ByteArray)×Bool) ((List ByteArray)×ByteArray))).bind fun o=>match o with|.ret r=>some (.ret r)|.next (v16,v17)=>I6 N c e (a+1) v16 v17
def hU (N:Nat) (a:ByteArray):Option ((List ByteArray)×Bool) :=
  (I6 N a ((a.size:Int)-((0:Nat):Int)).toNat 0 [] ⟨#[]⟩).bind fun o=>match o with|.ret r=>some r|.next (v7,v8)=>some (v7,v8=⟨#[]⟩)
def K7 (N:Nat) (a:J8):Option (ByteArray×J8) :=
  bif(a.l.length:Int)=0 then some (⟨#[]⟩,⟨a.l,false⟩)else(u6 a.l 0).bind fun b=>bif 0<=(1:Int)&&1<=(a.l.length:Int)then some (b,⟨a.l.drop (1:Int).toNat,a.cH⟩)else none
def l7 (N:Nat) (d:J8):Option (Int×J8) :=
  (K7 N d).bind fun a=>(strconv_Atoi N a.1).bind fun b=>(bif !b.2 then some true else(strconv_Itoa N b.1).bind fun e=>some (!e=a.1)).bind fun f=>(bif f then some ⟨a.2.l,false⟩else some a.2).bind fun c=>some (b.1,c)
def F4 (N:Nat) (b:J8) (c:Int):Option (Int×J8) :=
  (l7 N b).bind fun a=>(bif a.1<0 then some true else bif c<a.1 then some true else some (!a.2.cH)).bind fun d=>bif d then some (0,⟨a.2.l,false⟩)else some (a.1,a.2)
def I9 (N:Nat):Nat->Nat->J8->(List Ins)->Option ((J8×(List Ins)))
  |0,e,d,c=>some (d,c)
  |h+1,e,d,c=>(l7 N d).bind fun a=>(l7 N a.2).bind fun b=>(bif a.1=14 then(K7 N b.2).bind fun f=>some (f.2,f.1)else some (b.2,AE)).bind fun(i,g)=>bif AD ((c.length+[(⟨a.1,b.1,0,0,g⟩:Ins)].length)*48) 140737488355328 then I9 N h (e+1) i (c++[⟨a.1,b.1,0,0,g⟩])else none
def I1 (N:Nat):Nat->Nat->J8->(List Me)->Option ((J8×(List Me)))
  |0,g,f,a=>some (f,a)
  |j+1,g,f,a=>(K7 N f).bind fun b=>(l7 N b.2).bind fun c=>(l7 N c.2).bind fun d=>(l7 N d.2).bind fun e=>(F4 N e.2 60).bind fun h=>(I9 N (h.1-((0:Nat):Int)).toNat 0 h.2 []).bind fun(k,i)=>bif AD ((a.length+[(⟨b.1,c.1,d.1,e.1,i⟩:Me)].length)*64) 140737488355328 then I1 N j (g+1) k (a++[⟨b.1,c.1,d.1,e.1,i⟩])else none
def H9 (N:Nat):Nat->Nat->J8->(List Cl)->Option ((J8×(List Cl)))
  |0,j,i,a=>some (i,a)
  |g+1,j,i,a=>(K7 N i).bind fun b=>(l7 N b.2).bind fun c=>(l7 N c.2).bind fun d=>(F4 N d.2 8).bind fun e=>(I1 N (e.1-((0:Nat):Int)).toNat 0 e.2 []).bind fun(h,f)=>bif AD ((a.length+[(⟨b.1,c.1,d.1,f⟩:Cl)].length)*56) 140737488355328 then H9 N g (j+1) h (a++[⟨b.1,c.1,d.1,f⟩])else none
def I7 (N:Nat):Nat->Nat->J8->(List V)->Option ((J8×(List V)))
  |0,e,d,a=>some (d,a)
  |f+1,e,d,a=>(l7 N d).bind fun b=>(l7 N b.2).bind fun c=>bif AD ((a.length+[(⟨b.1,c.1⟩:V)].length)*16) 140737488355328 then I7 N f (e+1) c.2 (a++[⟨b.1,c.1⟩])else none
def I8 (N:Nat):Nat->Nat->J8->(List Ob)->Option ((J8×(List Ob)))
  |0,e,d,a=>some (d,a)
  |h+1,e,d,a=>(l7 N d).bind fun c=>(F4 N c.2 6).bind fun f=>(I7 N (f.1-((0:Nat):Int)).toNat 0 f.2 []).bind fun(g,b)=>bif AD ((a.length+[(⟨c.1,b⟩:Ob)].length)*32) 140737488355328 then I8 N h (e+1) g (a++[⟨c.1,b⟩])else none
def kK (N:Nat) (k:(List Int)):Option (Wd×Int) :=
  (hU N (strOfNums k)).bind fun i=>bif !i.2 then some (⟨[],[],0⟩,2)else(l7 N ⟨i.1,true⟩).bind fun g=>(F4 N g.2 12).bind fun j=>(H9 N (j.1-((0:Nat):Int)).toNat 0 j.2 []).bind fun(h,d)=>(F4 N h 60).bind fun b=>(I8 N (b.1-((0:Nat):Int)).toNat 0 b.2 []).bind fun(e,f)=>(bif !e.cH then some true else some (decide (0<(e.l.length:Int)))).bind fun c=>bif c then some (⟨[],[],0⟩,2)else(gN N ⟨d,f,g.1⟩).bind fun a=>bif !a=0 then some (⟨[],[],0⟩,a)else some (⟨d,f,g.1⟩,0)
def N7 (N:Nat) (c:(List Ins)):List Ins->Nat->Option (F8 Bool Unit)
  |[],a=>some (.next ())
  |x10::rest7,a=>(u6 c (a:Int)).bind fun b=>bif !cO (dF x10) (dF b)then some (.ret false)else N7 N c rest7 (a+1)
def kD (N:Nat) (a:(List Ins)) (b:(List Ins)):Option Bool :=
  bif !(a.length:Int)=(b.length:Int)then some false else(N7 N b a 0).bind fun o=>match o with|.ret r=>some r|.next ()=>some true
def M0 (N:Nat) (c:Cl):List Me->Nat->Option (F8 Bool Unit)
  |[],b=>some (.next ())
  |x35::rest32,b=>(u6 c.aB (b:Int)).bind fun a=>(bif !x35.name=a.name then some true else bif !x35.args=a.args then some true else bif !x35.aJ=a.aJ then some true else bif !x35.aO=a.aO then some true else(kD N x35.code a.code).bind fun d=>some (!d)).bind fun e=>bif e then some (.ret false)else M0 N c rest32 (b+1)
def M3 (N:Nat) (d:Wd):List Cl->Nat->Option (F8 Bool Unit)
  |[],b=>some (.next ())
  |x16::rest13,b=>(u6 d.a7 (b:Int)).bind fun a=>(bif !x16.name=a.name then some true else bif !x16.aH=a.aH then some true else bif !x16.aC=a.aC then some true else some (!(x16.aB.length:Int)=(a.aB.length:Int))).bind fun c=>bif c then some (.ret false)else(M0 N a x16.aB 0).bind fun o=>match o with|.ret r=>some (.ret r)|.next ()=>M3 N d rest13 (b+1)
def L8 (N:Nat) (e:Wd) (b:Nat):List V->Nat->Option (F8 Bool Unit)
  |[],a=>some (.next ())
  |x74::rest71,a=>(u6 e.heap (b:Int)).bind fun c=>(u6 c.aC (a:Int)).bind fun d=>bif !cO (eV x74) (eV d)then some (.ret false)else L8 N e b rest71 (a+1)
def L9 (N:Nat) (b:Wd):List Ob->Nat->Option (F8 Bool Unit)
  |[],a=>some (.next ())
  |x55::rest52,a=>((u6 b.heap (a:Int)).bind fun d=>bif !x55.cls=d.cls then some true else(u6 b.heap (a:Int)).bind fun e=>some (!(x55.aC.length:Int)=(e.aC.length:Int)):Option Bool).bind fun c=>bif c then some (.ret false)else(L8 N b a x55.aC 0).bind fun o=>match o with|.ret r=>some (.ret r)|.next ()=>L9 N b rest52 (a+1)
def kA (N:Nat) (a:Wd) (b:Wd):Option Bool :=
  (bif !a.aN=b.aN then some true else bif !(a.a7.length:Int)=(b.a7.length:Int)then some true else some (!(a.heap.length:Int)=(b.heap.length:Int))).bind fun c=>bif c then some false else(M3 N b a.a7 0).bind fun o=>match o with|.ret r=>some r|.next ()=>(L9 N b a.heap 0).bind fun o=>match o with|.ret r=>some r|.next ()=>some true
def mF (N:Nat) (a:Wd) (h:(List Int)):Option Bool :=
  (hZ N a).bind fun i=>(gN N a).bind fun j=>bif !i=j then some false else((gN N a).bind fun k=>bif k=0 then(kZ N a).bind fun d=>(kU N a).bind fun e=>some (!strOfNums d=e)else some false:Option Bool).bind fun l=>bif l then some false else(kV N h).bind fun b=>(kK N h).bind fun c=>(bif b.2=c.2 then(kA N b.1 c.1).bind fun f=>some f else some false).bind fun g=>some g
def newRow (a:AV):List (List AV):=[[.str ⟨#[79,98,106,101,99,116]⟩,.int (-1),.int 0,.a8],[.str ⟨#[78,105,108]⟩,.int 0,.int 0,.a8],[.str ⟨#[66,111,111,108]⟩,.int 0,.int 0,.a8],[.str ⟨#[73,110,116]⟩,.int 0,.int 0,a]]
def xK : ∀k:Nat,k<5->∃x p,nU[k]?=some x/\([3,1,2,4,5]:List Int)[k]?=some p/\M6[k]?=some ⟨x,1,0,p,[]⟩
 |0,_=>⟨_,_,rfl,rfl,rfl⟩
 |1,_=>⟨_,_,rfl,rfl,rfl⟩
 |2,_=>⟨_,_,rfl,rfl,rfl⟩
 |3,_=>⟨_,_,rfl,rfl,rfl⟩
 |4,_=>⟨_,_,rfl,rfl,rfl⟩
 |k+5,h=>absurd h d9
set_option maxRecDepth 100000 in
def tg (N:Nat) (r:Wd) (h:lz N=some r):Spec prog 31 [] [] (.agg (ba r)) [] []:=by
 obtain rfl:=Option.some.inj h;refine Spec.of gL func31 rfl ntmps31 o7 rfl rfl rfl fun f a=>?_
 (repeat (first|refine c8 a ?_|refine cP a ?_|refine cy a ?_|refine cV a ?_|refine cW a ?_|refine cX a ?_|refine cQ a ?_))
 (try refine Or.inr ?_)
 refine Exists.intro (newRow .a8) (A5 (by repeat (first|exact trivial|exact rfl|(refine A5 ?_ ?_))) ?_)
 (repeat (first|refine c8 a ?_|refine cP a ?_|refine cy a ?_|refine cV a ?_|refine cW a ?_|refine cX a ?_|refine cQ a ?_))
 refine Exists.intro (List.map fE nU) (A5 (by repeat (first|exact trivial|exact rfl|(refine A5 ?_ ?_))) ?_);refine M8 (fun B=>?_);show j4 prog f _ _ _ _;refine j4.gh (Gh.gK (r:=8) (i:=3) (off:=3) (j:=104) (j':=105) (isz:=5) (ie:=27) rfl rfl rfl rfl rfl rfl rfl rfl) (fun _=>?_);refine j4.gE (ι:=Hd) (fun g=>[(0,.ptr 0 0),(1,.ptr 1 0)]) (fun g=>[(0,.box [.a8,.a8,.int 0] 40),(1,.box [.aG 8,.a8,.int 0] 40),(8,.row 4 (newRow (.aU g.v)) 81),(104,.row 5 (M6.map X7) 27),(105,.eqv 104 g.v)]) (fun z u H E=>?_) (by intro q;rw[a];rfl) ?_
 ·refine j4.jj fun y C s G D=>?_;refine j4.eQ (ι:={ q:Nat×Hd // q.1<=5 }) (fun q=>[(0,.ptr 0 0),(1,.ptr 1 0),(10,.aG 10),(11,.int 5),(12,.int q.1.1)]) (fun q=>[(0,.box [.a8,.a8,.int 0] 40),(1,.box [.aG 8,.a8,.int 0] 40),(8,.row 4 (newRow (.aU q.1.2.v)) 81),(10,.row 1 (nU.map fE) 9),(104,.row 5 ((M6.take q.1.1).map X7) 27),(105,.eqv 104 q.1.2.v)]) (fun q=>5-q.1.1) ⟨(0,⟨none,0,0⟩),d9⟩ [] ⟨⟨rfl,rfl,rfl,rfl,rfl,trivial⟩,⟨rfl,rfl,rfl,rfl,rfl,rfl,trivial⟩,rfl,rfl⟩ (by intro q;rw[a];rfl) ?_;rintro⟨⟨k,hd⟩,m⟩ A nl w F;have m:k<=5:=m
  (repeat (first|refine c8 a ?_|refine cP a ?_|refine cy a ?_|refine cV a ?_|refine cW a ?_|refine cX a ?_|refine cQ a ?_))
  refine pL (fun c=>?_) (fun l=>?_)
  ·have c:k<5:=by have:(k:Int)<5:=c;omega
   obtain⟨x,p,o,n,t⟩:=xK k c
   (repeat (first|refine c8 a ?_|refine cP a ?_|refine cy a ?_|refine cV a ?_|refine cW a ?_|refine cX a ?_|refine cQ a ?_))
   refine cT (i:=(k:Int)) (by rw[H5];exact o) ?_;refine dV o ?_;show j4 prog f _ _ _ _;refine j4.snoc (oh a o7 ?_);refine A5 G7 (A5 (by show(3:Int)<4;decide) ?_);refine A5 (by show 3<4;decide) (fun d b=>?_);have b:(newRow (.aU hd.v))[3]?=some d:=b;obtain rfl:d=[.str ⟨#[73,110,116]⟩,.int 0,.int 0,.aU hd.v]:=(Option.some.inj b).symm;refine A5 rfl ?_;refine Exists.intro (List.map Q0 [3,1,2,4,5]) (A5 (by repeat (first|exact trivial|exact rfl|(refine A5 ?_ ?_))) ?_);refine cT (i:=(k:Int)) (by rw[H5];exact n) ?_;refine dV n ?_;refine Exists.intro (List.map X7 [⟨x,1,0,p,[]⟩]) (A5 (by repeat (first|exact trivial|exact rfl|(refine A5 ?_ ?_))) ?_);refine A5 ?_ (Exists.intro (List.map X7 (M6.take k++[⟨x,1,0,p,[]⟩])) (A5 (nh (fG _)) ?_))
   ·show((List.map X7 (M6.take k)).length+1)*64<=_;rw[AR,List.length_take];omega
   refine A5 G7 (A5 (by show(3:Int)<4;decide) ?_);refine A5 (by show 3<4;decide) (A5 ?_ ?_)
   ·intro d b;have b:(newRow (.aU hd.v))[3]?=some d:=b;obtain rfl:d=[.str ⟨#[73,110,116]⟩,.int 0,.int 0,.aU hd.v]:=(Option.some.inj b).symm;show 3<4;omega
   show O9 f _ _ _;refine O9.gh (Gh.ay 8 106 rfl rfl rfl (fun _=>rfl) rfl) (fun g=>?_);refine O9.done ?_;show j4 prog f _ _ _ _
   (repeat (first|refine c8 a ?_|refine cP a ?_|refine cy a ?_|refine cV a ?_|refine cW a ?_|refine cX a ?_|refine cQ a ?_))
   refine A9 (A5 ⟨d9,d9⟩ ?_);refine nl _ _ ?_;refine O9.done ?_;have e:M6.take k++[⟨x,1,0,p,[]⟩]=M6.take (k+1):=by rw[List.take_add_one,t];rfl
   refine⟨⟨(k+1,g),c⟩,[(104,31),(105,106)],by show 5-(k+1)<5-k;omega,⟨⟨rfl,rfl,rfl,rfl,rfl,trivial⟩,⟨rfl,rfl,rfl,rfl,?_,rfl,trivial⟩,rfl,rfl⟩⟩;exact congrArg (fun q=>some (Obj.row 5 (List.map X7 q) 27)) e
  ·have e:k=5:=by have:¬((k:Int)<5):=l;omega
   subst e
   (repeat (first|refine c8 a ?_|refine cP a ?_|refine cy a ?_|refine cV a ?_|refine cW a ?_|refine cX a ?_|refine cQ a ?_))
   refine w _ _ _ ?_;refine s _ _ ?_;refine u _ _ ?_;refine O9.done ?_;exact⟨hd,[],trivial,⟨⟨rfl,rfl,trivial⟩,⟨rfl,rfl,rfl,rfl,rfl,trivial⟩,rfl,rfl⟩⟩
 intro g;show j4 prog f _ _ _ _;refine j4.fX 8 3 3 104 105 rfl rfl rfl rfl rfl rfl rfl rfl ?_;refine j4.b8 8 (List.map gB O5.a7) rfl (by repeat (first|exact trivial|exact rfl|(refine A5 ?_ ?_))) ?_;refine j4.au 8 rfl ?_
 (repeat (first|refine c8 a ?_|refine cP a ?_|refine cy a ?_|refine cV a ?_|refine cW a ?_|refine cX a ?_|refine cQ a ?_))
 exact⟨[],_,rfl,(by repeat (first|exact trivial|exact rfl|(refine A5 ?_ ?_))),trivial,rfl,rfl,rfl,rfl,rfl⟩
section
open Go.RowKit Go.Lib Go.Proofs Go.Shelf Go.Sort
def uY : Go.Shelf.Ren:=⟨fun|6=>70|15=>104|14=>103|28=>143|29=>144|20=>135|21=>136|22=>137|23=>138|24=>139|25=>140|26=>141|27=>142|46=>179|47=>180|48=>181|49=>182|50=>183|57=>211|n=>n,fun|22=>79|24=>27|25=>134|3=>3|39=>179|0=>0|53=>225|55=>227|4=>4|46=>219|45=>218|50=>181|5=>5|9=>9|66=>266|70=>270|76=>302|77=>135|n=>n,fun|n=>n⟩
def xI : Go.Proofs.SlLaysF0.n6 prog uY:={
 mixed:=o7,
 f6:=⟨f70.name,G7,func70.trans (congrArg some o7)⟩,
 f14:=⟨f103.name,G7,func103.trans (congrArg some o7)⟩,
 f15:=func104.trans (congrArg some o7),
 f20:=⟨f135.name,G7,func135.trans (congrArg some o7)⟩,
 f21:=⟨f136.name,G7,func136.trans (congrArg some o7)⟩,
 f22:=⟨f137.name,G7,func137.trans (congrArg some o7)⟩,
 f23:=⟨f138.name,G7,func138.trans (congrArg some o7)⟩,
 f24:=⟨f139.name,G7,func139.trans (congrArg some o7)⟩,
 f25:=⟨f140.name,G7,func140.trans (congrArg some o7)⟩,
 f26:=⟨f141.name,G7,func141.trans (congrArg some o7)⟩,
 f27:=⟨f142.name,G7,func142.trans (congrArg some o7)⟩,
 f28:=func143.trans (congrArg some o7),
 f29:=func144.trans (congrArg some o7),
 f46:=⟨f179.name,G7,func179.trans (congrArg some o7)⟩,
 f47:=func180.trans (congrArg some o7),
 f48:=func181.trans (congrArg some o7),
 f49:=⟨f182.name,G7,func182.trans (congrArg some o7)⟩,
 f50:=⟨f183.name,G7,func183.trans (congrArg some o7)⟩,
 f57:=⟨f211.name,G7,func211.trans (congrArg some o7)⟩,
 t0:=underlying0,
 a0:=isAgg0,
 z0:=sizeOf0,
 v0:=zeroValue0,
 t3:=underlying3,
 a3:=isAgg3,
 z3:=sizeOf3,
 v3:=zeroValue3,
 t4:=underlying4,
 a4:=isAgg4,
 z4:=sizeOf4,
 v4:=zeroValue4,
 t5:=underlying5,
 a5:=isAgg5,
 z5:=sizeOf5,
 v5:=zeroValue5,
 t9:=underlying9,
 a9:=isAgg9,
 z9:=sizeOf9,
 v9:=zeroValue9,
 t22:=underlying79,
 a22:=isAgg79,
 z22:=sizeOf79,
 v22:=zeroValue79,
 t25:=underlying134,
 a25:=isAgg134,
 z25:=sizeOf134,
 v25:=zeroValue134,
 t39:=underlying179,
 a39:=isAgg179,
 z39:=sizeOf179,
 v39:=zeroValue179,
 t45:=underlying218,
 a45:=isAgg218,
 z45:=sizeOf218,
 v45:=zeroValue218,
 t46:=underlying219,
 a46:=isAgg219,
 z46:=sizeOf219,
 v46:=zeroValue219,
 t50:=underlying181,
 a50:=isAgg181,
 z50:=sizeOf181,
 v50:=zeroValue181,
 t53:=underlying225,
 a53:=isAgg225,
 z53:=sizeOf225,
 v53:=zeroValue225,
 t55:=underlying227,
 a55:=isAgg227,
 z55:=sizeOf227,
 v55:=zeroValue227,
 t66:=underlying266,
 a66:=isAgg266,
 z66:=sizeOf266,
 v66:=zeroValue266,
 t70:=underlying270,
 a70:=isAgg270,
 z70:=sizeOf270,
 v70:=zeroValue270,
 t76:=underlying302,
 a76:=isAgg302,
 z76:=sizeOf302,
 v76:=zeroValue302,
 t77:=underlying135,
 a77:=isAgg135,
 z77:=sizeOf135,
 v77:=zeroValue135 }
def wS (s:ByteArray) (W:World):Calls prog 145 #[.string s] W fun e w'=>e=.returned (.bool false)/\w'=W:=by
 go_enter func145,ntmps145
 go_wp2
 go_ret
 exact⟨rfl,rfl⟩
def xX (a b:ByteArray) (W:World):Calls prog 105 #[.string a,.string b] W fun e w'=>e=.returned (.int .i64 (if Op.bytesLess a.toList b.toList=true then -1 else if(!(Op.bytesLess a.toList b.toList || a.toList == b.toList))=true then 1 else 0))/\w'=W:=by
 have d:=wS;have c:∀w,(binOp .gtr 9 (.string a) (.string b)).run prog w=.ok (.bool !(Op.bytesLess a.toList b.toList || a.toList == b.toList)) w:=fun w=>by
  simp[binOp,run_underlying underlying9,Op.stringOp]
 generalize f:(!(Op.bytesLess a.toList b.toList || a.toList == b.toList))=z at c⊢
 go_enter func105,ntmps105
 go_wp2_with (go_at_call 145;refine(d _ _).mono ?_;rintro e w' ⟨rfl,rfl⟩)
 all_goals (try (go_ret;exact⟨rfl,rfl⟩))
 all_goals go_wp2_with (simp only[c])
 all_goals (try (go_ret;first|exact⟨rfl,rfl⟩|(refine⟨?_,rfl⟩;simp_all)))
 all_goals go_wp2
 all_goals (go_ret;first|exact⟨rfl,rfl⟩|(refine⟨?_,rfl⟩;simp_all))
def gb (a b:ByteArray):Int:=if Op.bytesLess a.toList b.toList=true then -1 else if(!(Op.bytesLess a.toList b.toList || a.toList == b.toList))=true then 1 else 0
def wD (s t:ByteArray) (c d f g:Value) (W:World):Calls prog 72 #[.agg #[.string s,c,d,f,g],.string t] W fun e w'=>e=.returned (.int .i64 (gb s t))/\∃q b,w'=grow (W.drewN q) b:=by
 have a:=xX s t;change ∀W,Calls prog 105 _ W fun e w'=>e=.returned (.int .i64 (gb s t))/\w'=W at a;generalize gb s t=r at a⊢
 go_enter func72,ntmps72
 go_wp2_with (go_at_call 105;refine(a _).mono ?_;rintro e w' ⟨rfl,rfl⟩)
 go_ret
 exact⟨rfl,0,_,by rw[alloc_eq_grow];rfl⟩
def xn (s t:ByteArray) (b c d f h i j k:Value) (W:World):Calls prog 71 #[.agg #[.string s,b,c,d,f],.agg #[.string t,h,i,j,k]] W fun e w'=>e=.returned (.int .i64 (gb s t))/\∃q a,w'=grow (W.drewN q) a:=by
 have g:=fun W=>wD s t b c d f W;generalize gb s t=r at g⊢
 go_enter func71,ntmps71
 go_wp2_with (go_at_call 72;refine(g _).mono ?_;rintro e w' ⟨rfl,q,a,rfl⟩)
 go_ret
 exact⟨rfl,q,_,by rw[alloc_eq_grow,alloc_eq_grow,grow_grow];exact grow_grow (W.drewN q) _ a⟩
set_option maxHeartbeats 1000000 in
def xl (n:Nat) (W:World) (h:n<=12):Calls prog 144 #[.int .u64 n] W fun e w'=>(∃l:Int,e=.returned (.int .i64 l))/\w'=W:=by
 have a:∃m:Nat,m<=12/\n=m:=⟨n,h,rfl⟩
 match n,h with
 |0,_|1,_|2,_|3,_|4,_|5,_|6,_|7,_|8,_|9,_|10,_|11,_|12,_ =>
  go_enter func144,ntmps144
  go_wp2
  go_ret
  exact⟨⟨_,rfl⟩,rfl⟩
def bitsLen (n:Nat) (W:World) (h:n<=12):Calls prog 104 #[.int .u64 n] W fun e w'=>(∃l:Int,e=.returned (.int .i64 l))/\w'=W:=by
 have a:=fun W=>xl n W h
 go_enter func104,ntmps104
 go_wp2_with (go_at_call 144;refine(a _).mono ?_;rintro e w' ⟨⟨l,rfl⟩,rfl⟩)
 go_ret
 exact⟨⟨_,rfl⟩,rfl⟩
def xG (b:ByteArray):b.toList=b.data.toList:=by
 have:∀(n i:Nat) (r:List UInt8),n=b.size-i->ByteArray.toList.loop b i r=r.reverse++b.data.toList.drop i:=by
  intro n
  induction n with
  |zero =>
   intro i r h;unfold ByteArray.toList.loop;rw[Ag d9];have:b.data.toList.length<=i:=by simpa using(show b.size<=i by omega)
   rw[List.drop_eq_nil_of_le this];simp
  |succ n ih =>
   intro i r h;have a:i<b.size:=d9;have c:i<b.data.toList.length:=by simpa using a
   unfold ByteArray.toList.loop;rw[Ah a,ih (i+1) _ d9,List.drop_eq_getElem_cons c];have e:b.get! i=b.data.toList[i]:=by
    show b.data[i]! = _;rw[getElem!_pos b.data i a,Array.getElem_toList]
   simp[e]
 have:=this b.size 0 [] d9;simpa[ByteArray.toList] using this
def ef : List Me:=[⟨⟨#[43]⟩,1,0,1,[]⟩,⟨⟨#[45]⟩,1,0,2,[]⟩,⟨⟨#[42]⟩,1,0,3,[]⟩,⟨⟨#[60]⟩,1,0,4,[]⟩,⟨⟨#[61]⟩,1,0,5,[]⟩]
def rk : _root_.Fin 5->Nat|0=>1|1=>2|2=>0|3=>3|4=>4
def la (i j:_root_.Fin 5):Int:=if rk i<rk j then -1 else if rk j<rk i then 1 else 0
def gu (i:_root_.Fin 5):ByteArray:=match i with|0=>⟨#[43]⟩|1=>⟨#[45]⟩|2=>⟨#[42]⟩|3=>⟨#[60]⟩|4=>⟨#[61]⟩
def uQ : Sort.insertionSort (ltOf la) #[0,1,2,3,4] 0 5=#[2,0,1,3,4]:=by decide +kernel
def uD : ∀i j:_root_.Fin 5,gb (gu i) (gu j)=la i j:=by
 have h:∀i:_root_.Fin 5,(gu i).toList=(gu i).data.toList:=fun i=>xG _;unfold gb;simp only[h];decide +kernel
theorem aF.dm {c:Ctx} {w w':World} {id sz e:Nat} {ls d:List (List AV)} {css':List (List Value)} {b:Nat} (h:H7 c w [(id,.row sz ls e)]) (f:(c.hd id).ownBlock=some b) (z:y7 w' (c.hd id) sz e css') (g:css'.length=d.length)
  (C:∀(i:Nat) (us:List Value) (p:List AV),css'[i]?=some us->d[i]?=some p->p8 c.Φ w us p) (s:∀k,k<w.heap.size->k≠b->w'.heap[k]?=w.heap[k]?)
  (D:w.heap.size<=w'.heap.size) (u:w'.os=w.os) (v:w'.tape=w.tape) (y:w'.output=w.output):aF c w c w' [(id,.row sz ls e)] [(id,.row sz d e)] []:=by
 have n:=h.lt id _ b (j3 _ _ _) f;have t:∀x,x=b->Touch c [(id,.row sz ls e)] [(id,.row sz d e)] x:=fun x j=>⟨id,_,j3 _ _ _,by rw[j3];rfl,by rw[j];exact f⟩;have r:∀x,c.Φ x->w'.heap[x]?=w.heap[x]?:=fun x j=>s x (h.aX x j) fun e=>n.2 (e▸j);refine⟨u,v,y,D,fun b f=>f,fun b f=>.inl f,fun x j B=>s x j fun e=>B (t x e),fun _ _=>⟨rfl,rfl⟩,⟨fun i o g=>?_,fun i o x g q=>?_,fun i F o G x l g m q=>?_,fun x j=>by have:=h.aX x j;omega⟩,fun i o x g q=>?_⟩<;>rw[j5] at g<;>split at g<;>first|(rename_i e1;subst e1;cases g)|cases g
 ·exact⟨css',z,by assumption,fun i us p E A=>(C i us p E A).mono r fun _ h=>h⟩
 ·have:x=b:=by have a:(c.hd id).ownBlock=some x:=q;rw[f] at a;injection a with e;exact e.symm
  rw[this];exact⟨d9,n.2⟩
 ·rw[G5 _ _ l] at m;cases m
 ·have:x=b:=by have a:(c.hd id).ownBlock=some x:=q;rw[f] at a;injection a with e;exact e.symm
  exact .inr (t x this)
def jO {Φ:Nat->Prop} {w:World} {us:List Value} {m:Me} (h:p8 Φ w us (X7 m)):∃a b c d,us=[.string m.name,a,b,c,d]:=by
 cases h with
 |cons e f =>
  cases f with
  |cons _ g=>cases g with
   |cons _ i=>cases i with
    |cons _ j=>cases j with
     |cons _ k =>
      cases k;cases e;exact⟨_,_,_,_,rfl⟩
def X3 (css:List (List Value)) (i:_root_.Fin 5):List Value:=css.getD i.val []
def ri {p:_root_.Fin 5->Prop} (a:p 0) (b:p 1) (c:p 2) (d:p 3) (e:p 4):∀i,p i
 |⟨0,_⟩=>a
 |⟨1,_⟩=>b
 |⟨2,_⟩=>c
 |⟨3,_⟩=>d
 |⟨4,_⟩=>e
def rC (css:List (List Value)) (a:∀i,(X3 css i).length=5) (d:Array (_root_.Fin 5)) (j:Nat) (f:j<d.size*5):(d.toList.map (X3 css)).flatten[j]?=some ((Go.Sort.flatK (X3 css) 5 d)[j]!):=by
 have c:j / 5<d.size:=d9;have e:(d.toList.map (X3 css))[j / 5]?=some (X3 css d[j / 5]):=by
  rw[Aa,Array.getElem?_toList,Array.getElem?_eq_getElem c];rfl
 have:=ad 5 (d.toList.map (X3 css)) (fun x g=>by obtain⟨i,_,rfl⟩:=AL.1 g;exact a i) (j / 5) (j % 5) _ e (Nat.mod_lt _ G7);rw[show j / 5*5+j % 5=j by omega] at this;have b:j % 5<(X3 css d[j / 5]).length:=by rw[a];omega
 rw[this,get_flatK _ _ _ _ f,getElem!_pos d (j / 5) c,getElem!_pos (X3 css d[j / 5]) (j % 5) b,A8 b]
set_option maxHeartbeats 1000000 in
set_option maxRecDepth 100000 in
def ui : Spec prog 70 [(1000,.row 5 (ef.map X7) 27)] [.aG 1000,.fn 71 []] (.aS []) [(1000,.row 5 (M6.map X7) 27)] []:=by
 refine⟨o7,(fun id hid=>by cases hid),fun c w args aD G=>?_⟩;obtain⟨args⟩:=args;have G:l8 c w args [.aG 1000,.fn 71 []]:=G;obtain⟨v1,W,rfl,r1,G⟩:∃v r,args=v::r/\Rd c w v (.aG 1000)/\l8 c w r [.fn 71 []]:=by cases G with|cons a b=>exact⟨_,_,rfl,a,b⟩
 obtain⟨v2,X,rfl,r2,G⟩:∃v r,W=v::r/\Rd c w v (.fn 71 [])/\l8 c w r []:=by cases G with|cons a b=>exact⟨_,_,rfl,a,b⟩
 obtain rfl:X=[]:=by cases G;rfl
 obtain⟨cb,rfl,hcb⟩:=r2.il;obtain rfl:cb=[]:=by cases hcb;rfl
 obtain⟨A1,n1,I,rfl,Y,_,hc1⟩:=r1.aj;have k0:lk [(1000,Obj.row 5 (ef.map X7) 27)] 1000=some (.row 5 (ef.map X7) 27):=rfl;obtain⟨css,B,L1,s⟩:=aD.rep 1000 _ k0;rw[Y] at B;obtain⟨f,g,h,l,o,rfl⟩:∃f g h l o,css=[f,g,h,l,o]:=by
  match css,L1 with
  |[a,b,c,d,e],_=>exact⟨a,b,c,d,e,rfl⟩
 obtain⟨a1,a2,a3,a4,rfl⟩:=jO (s 0 f _ rfl rfl);obtain⟨b1,b2,b3,b4,rfl⟩:=jO (s 1 g _ rfl rfl);obtain⟨c1,c2,c3,c4,rfl⟩:=jO (s 2 h _ rfl rfl);obtain⟨d1,d2,d3,d4,rfl⟩:=jO (s 3 l _ rfl rfl);obtain⟨e1,e2,e3,e4,rfl⟩:=jO (s 4 o _ rfl rfl);generalize P:([.string (⟨#[43]⟩:ByteArray),a1,a2,a3,a4]:List Value)=f at B s;generalize Q:([.string (⟨#[45]⟩:ByteArray),b1,b2,b3,b4]:List Value)=g at B s;generalize R:([.string (⟨#[42]⟩:ByteArray),c1,c2,c3,c4]:List Value)=h at B s;generalize S:([.string (⟨#[60]⟩:ByteArray),d1,d2,d3,d4]:List Value)=l at B s;generalize T:([.string (⟨#[61]⟩:ByteArray),e1,e2,e3,e4]:List Value)=o at B s;have Z:∀i,∃y1 y2 y3 y4,X3 [f,g,h,l,o] i=[.string (gu i),y1,y2,y3,y4]:=ri ⟨_,_,_,_,P.symm⟩ ⟨_,_,_,_,Q.symm⟩ ⟨_,_,_,_,R.symm⟩ ⟨_,_,_,_,S.symm⟩ ⟨_,_,_,_,T.symm⟩;have E:∀i,(X3 [f,g,h,l,o] i).length=5:=fun i=>by obtain⟨_,_,_,_,e⟩:=Z i;rw[e];rfl
 have N:∀i,X3 [f,g,h,l,o] i∈[f,g,h,l,o]:=ri (by simp[X3]) (by simp[X3]) (by simp[X3]) (by simp[X3]) (by simp[X3]);have J:∀i,∀v∈X3 [f,g,h,l,o] i,v.oneCell'=true:=fun i v hv=>B.one _ (N i) v hv;clear P Q R S T;rcases B.b9 with⟨e,h0⟩|⟨b,off,p,cap,t,e,V,F,hpm,hsz,O,H⟩
 ·cases h0
 obtain⟨rfl,rfl,rfl⟩:A1=some ⟨b,off,none⟩/\n1=5/\cap=I:=by cases e;exact⟨rfl,rfl,rfl⟩
 have F:5<=cap:=F;obtain rfl:=O d9;have K:b<w.heap.size:=(Array.getElem?_eq_some_iff.1 V).1;have C:∀j,w.cell? ⟨b,j,none⟩=t[j]?:=fun j=>by unfold World.cell?;rw[V];rfl
 have hfl:∀d:Array (_root_.Fin 5),d.size=5->(d.toList.map (X3 [f,g,h,l,o])).flatten.length=25:=fun d hd=>by
  rw[P7 5 _ (fun x U=>by obtain⟨i,_,rfl⟩:=AL.1 U;exact E i),AR,Array.length_toList,hd]
 have hH:HoldsK (X3 [f,g,h,l,o]) 5 w b (p*5) #[0,1,2,3,4]:=fun j D=>by
  rw[size_flatK] at D;have D:j<25:=D;have hf:=rC [f,g,h,l,o] E #[0,1,2,3,4] j D;have H:(t.toList.drop (p*5)).take (5*5)=((#[0,1,2,3,4]:Array (_root_.Fin 5)).toList.map (X3 [f,g,h,l,o])).flatten:=H;have ht:((t.toList.drop (p*5)).take (5*5))[j]?=(t.toList.drop (p*5))[j]?:=List.getElem?_take_of_lt d9;refine⟨?_,by unfold World.frozen?;rw[V];simp⟩;rw[C,<-Array.getElem?_toList,<-Ac,<-ht,H,hf];rfl
 have L:CmpLays prog 71 #[] (X3 [f,g,h,l,o]) 5 la b (p*5) (#[0,1,2,3,4]:Array (_root_.Fin 5)).size w:=fun m os dk hdk x y=>by
  obtain⟨x1,x2,x3,x4,ex⟩:=Z x;obtain⟨y1,y2,y3,y4,ey⟩:=Z y;rw[ex,ey,<-uD x y];exact xn (gu x) (gu y) x1 x2 x3 x4 y1 y2 y3 y4 _
 have M:=AnyQ.slices_SortFunc_small xI 5 isAgg27 sizeOf27 (X3 [f,g,h,l,o]) E J la 71 #[] b (p*5) cap #[0,1,2,3,4] w (enters_of func71 o7 rfl) L hH K G7 bitsLen;refine Calls.mono (show Calls prog 70 _ _ _ from M) ?_;rintro e w' ⟨rfl,n,os,A⟩;rw[show(#[0,1,2,3,4]:Array (_root_.Fin 5)).size=5 from rfl,uQ] at A;have q:w'.heap=(w.heap.modify b (onCells (putCells id (p*5) (Go.Sort.flatK (X3 [f,g,h,l,o]) 5 #[2,0,1,3,4]))))++os:=by rw[A];rfl
 have hb':w'.heap[b]?=some (.cells (putCells id (p*5) (Go.Sort.flatK (X3 [f,g,h,l,o]) 5 #[2,0,1,3,4]) t) 27):=by
  rw[q,Array.getElem?_append_left (by simpa using K),Array.getElem?_modify,Ah rfl,V];rfl
 have hob:(c.hd 1000).ownBlock=some b:=by rw[Y];rfl
 refine⟨.tuple #[],c,rfl,aF.dm (css':=(#[2,0,1,3,4]:Array (_root_.Fin 5)).toList.map (X3 [f,g,h,l,o])) (b:=b) aD hob ?_ rfl ?_ (fun k E hne=>?_) (by rw[q];simp) (by rw[A];rfl) (by rw[A];rfl) (by rw[A];rfl),.aS .nil⟩
 ·rw[Y];refine⟨.inr ⟨b,p*5,p,cap,_,rfl,hb',F,hpm,by simpa[putCells] using hsz,fun _=>rfl,?_⟩,fun x U=>by obtain⟨i,_,rfl⟩:=AL.1 U;exact E i,fun x U=>by obtain⟨i,_,rfl⟩:=AL.1 U;exact J i⟩;apply AY;intro j;by_cases D:j<25
  ·have hf:=rC [f,g,h,l,o] E #[2,0,1,3,4] j D;have hp:p*5+j<t.size:=d9;rw[List.getElem?_take_of_lt (show j<((#[2,0,1,3,4]:Array (_root_.Fin 5)).toList.map (X3 [f,g,h,l,o])).length*5 from D),Ac,Array.getElem?_toList,hf];unfold putCells;rw[Array.getElem?_mapIdx,Array.getElem?_eq_getElem hp];simp only[Ab];rw[Ah ⟨d9,by rw[size_flatK];show p*5+j<p*5+25;omega⟩,show p*5+j-p*5=j by omega];rfl
  ·rw[AW (by rw[List.length_take];show min 25 _<=j;omega),AW (by rw[hfl _ rfl];omega)]
 ·intro i us cs z u
  match i,z,u with
  |0,z,u=>cases z;cases u;exact s 2 _ _ rfl rfl
  |1,z,u=>cases z;cases u;exact s 0 _ _ rfl rfl
  |2,z,u=>cases z;cases u;exact s 1 _ _ rfl rfl
  |3,z,u=>cases z;cases u;exact s 3 _ _ rfl rfl
  |4,z,u=>cases z;cases u;exact s 4 _ _ rfl rfl
  |i+5,z,u=>cases u
 ·rw[q,Array.getElem?_append_left (by simpa using E),Array.getElem?_modify,Ag (fun e=>hne e.symm)]
def lD : List ByteArray:=[⟨#[43]⟩,⟨#[45]⟩,⟨#[42]⟩,⟨#[60]⟩,⟨#[61]⟩]
set_option maxRecDepth 100000 in
def wu : Spec prog 69 [] [] (.aG 0) [(0,.row 1 (List.map fE lD) 9)] [0]:=by
 refine Spec.of gL func69 rfl ntmps69 o7 rfl rfl rfl fun b a=>?_;refine c8 a ?_;refine c8 a ?_;refine Exists.intro (List.map fE lD) (A5 (by repeat (first|exact trivial|exact rfl|(refine A5 ?_ ?_))) ?_);refine cQ a ?_;exact⟨[(0,1)],_,fm⟩
def iV (a:AV):List (List AV):=[[.str ⟨#[79,98,106,101,99,116]⟩,.int (-1),.int 0,.a8],[.str ⟨#[78,105,108]⟩,.int 0,.int 0,.a8],[.str ⟨#[66,111,111,108]⟩,.int 0,.int 0,.a8],[.str ⟨#[73,110,116]⟩,.int 0,.int 0,a]]
def uA : ∀k:Nat,k<5->∃x,lD[k]?=some x/\ef[k]?=some ⟨x,1,0,(k:Int)+1,[]⟩
 |0,_=>⟨_,rfl,rfl⟩
 |1,_=>⟨_,rfl,rfl⟩
 |2,_=>⟨_,rfl,rfl⟩
 |3,_=>⟨_,rfl,rfl⟩
 |4,_=>⟨_,rfl,rfl⟩
 |k+5,h=>absurd h d9
set_option maxRecDepth 100000 in
def sQ (N:Nat) (r:Wd) (h:mz N=some r):Spec prog 35 [] [] (.agg (ba r)) [] []:=by
 obtain rfl:=Option.some.inj h;refine Spec.of gL func35 rfl ntmps35 o7 rfl rfl rfl fun f a=>?_
 (repeat (first|refine c8 a ?_|refine cP a ?_|refine cy a ?_|refine cV a ?_|refine cW a ?_|refine cX a ?_|refine cQ a ?_))
 refine Or.inr ?_;refine Exists.intro (iV .a8) (A5 (by repeat (first|exact trivial|exact rfl|(refine A5 ?_ ?_))) ?_)
 (repeat (first|refine c8 a ?_|refine cP a ?_|refine cy a ?_|refine cV a ?_|refine cW a ?_|refine cX a ?_|refine cQ a ?_))
 refine A5 G7 (A5 (by show(3:Int)<4;decide) ?_)
 (repeat (first|refine c8 a ?_|refine cP a ?_|refine cy a ?_|refine cV a ?_|refine cW a ?_|refine cX a ?_|refine cQ a ?_))
 show Y7 prog _ _ _ _;refine cA (wu.sw 0 15) ?_;refine M8 (fun z=>?_);show j4 prog f _ _ _ _;refine j4.gh (Gh.gK (r:=9) (i:=3) (off:=3) (j:=104) (j':=105) (isz:=5) (ie:=27) rfl rfl rfl rfl rfl rfl rfl rfl) (fun _=>?_);refine j4.gE (ι:=Hd) (fun g=>[(0,.ptr 0 0),(1,.ptr 1 0),(2,.ep 9 3 4 3)]) (fun g=>[(0,.box [.a8,.a8,.int 0] 40),(1,.box [.aG 9,.a8,.int 0] 40),(9,.row 4 (iV (.aU g.v)) 81),(104,.row 5 (ef.map X7) 27),(105,.eqv 104 g.v)]) (fun w s F C=>?_) (by intro q;rw[a];rfl) ?_
 ·refine j4.jj fun u A o E B=>?_;refine j4.eQ (ι:={ q:Nat×Hd // q.1<=5 }) (fun q=>[(0,.ptr 0 0),(1,.ptr 1 0),(2,.ep 9 3 4 3),(15,.aG 15),(16,.int 5),(17,.int q.1.1)]) (fun q=>[(0,.box [.a8,.a8,.int 0] 40),(1,.box [.aG 9,.a8,.int 0] 40),(9,.row 4 (iV (.aU q.1.2.v)) 81),(15,.row 1 (lD.map fE) 9),(104,.row 5 ((ef.take q.1.1).map X7) 27),(105,.eqv 104 q.1.2.v)]) (fun q=>5-q.1.1) ⟨(0,⟨none,0,0⟩),d9⟩ [] ⟨⟨rfl,rfl,rfl,rfl,rfl,rfl,trivial⟩,⟨rfl,rfl,rfl,rfl,rfl,rfl,trivial⟩,rfl,rfl⟩ (by intro q;rw[a];rfl) ?_;rintro⟨⟨k,hd⟩,m⟩ y nl t D;have m:k<=5:=m
  (repeat (first|refine c8 a ?_|refine cP a ?_|refine cy a ?_|refine cV a ?_|refine cW a ?_|refine cX a ?_|refine cQ a ?_))
  refine pL (fun c=>?_) (fun l=>?_)
  ·have c:k<5:=by have:(k:Int)<5:=c;omega
   obtain⟨x,n,p⟩:=uA k c
   (repeat (first|refine c8 a ?_|refine cP a ?_|refine cy a ?_|refine cV a ?_|refine cW a ?_|refine cX a ?_|refine cQ a ?_))
   refine cT (i:=(k:Int)) (by rw[H5];exact n) ?_;refine dV n ?_;show j4 prog f _ _ _ _;refine j4.snoc (cP a ?_);refine A5 (by show 3<4;decide) (fun d b=>?_);have b:(iV (.aU hd.v))[3]?=some d:=b;obtain rfl:d=[.str ⟨#[73,110,116]⟩,.int 0,.int 0,.aU hd.v]:=(Option.some.inj b).symm;refine A5 rfl ?_;refine A9 (A5 ⟨d9,d9⟩ ?_);refine Exists.intro (List.map X7 [⟨x,1,0,(k:Int)+1,[]⟩]) (A5 (by repeat (first|exact trivial|exact rfl|(refine A5 ?_ ?_))) ?_);refine A5 ?_ (Exists.intro (List.map X7 (ef.take k++[⟨x,1,0,(k:Int)+1,[]⟩])) (A5 (nh (fG _)) ?_))
   ·show((List.map X7 (ef.take k)).length+1)*64<=_;rw[AR,List.length_take];omega
   refine A5 (by show 3<4;decide) (A5 ?_ ?_)
   ·intro d b;have b:(iV (.aU hd.v))[3]?=some d:=b;obtain rfl:d=[.str ⟨#[73,110,116]⟩,.int 0,.int 0,.aU hd.v]:=(Option.some.inj b).symm;show 3<4;omega
   show O9 f _ _ _;refine O9.gh (Gh.ay 9 106 rfl rfl rfl (fun _=>rfl) rfl) (fun g=>?_);refine O9.done ?_;show j4 prog f _ _ _ _
   (repeat (first|refine c8 a ?_|refine cP a ?_|refine cy a ?_|refine cV a ?_|refine cW a ?_|refine cX a ?_|refine cQ a ?_))
   refine A9 (A5 ⟨d9,d9⟩ ?_);refine nl _ _ ?_;refine O9.done ?_;have e:ef.take k++[⟨x,1,0,(k:Int)+1,[]⟩]=ef.take (k+1):=by rw[List.take_add_one,p];rfl
   refine⟨⟨(k+1,g),c⟩,[(104,31),(105,106)],by show 5-(k+1)<5-k;omega,⟨⟨rfl,rfl,rfl,rfl,rfl,rfl,trivial⟩,⟨rfl,rfl,rfl,rfl,?_,rfl,trivial⟩,rfl,rfl⟩⟩;exact congrArg (fun q=>some (Obj.row 5 (List.map X7 q) 27)) e
  ·have e:k=5:=by have:¬((k:Int)<5):=l;omega
   subst e
   (repeat (first|refine c8 a ?_|refine cP a ?_|refine cy a ?_|refine cV a ?_|refine cW a ?_|refine cX a ?_|refine cQ a ?_))
   refine t _ _ _ ?_;refine o _ _ ?_;refine s _ _ ?_;refine O9.done ?_;exact⟨hd,[],trivial,⟨⟨rfl,rfl,rfl,trivial⟩,⟨rfl,rfl,rfl,rfl,rfl,trivial⟩,rfl,rfl⟩⟩
 intro g;show j4 prog f _ _ _ _
 (repeat (first|refine c8 a ?_|refine cP a ?_|refine cy a ?_|refine cV a ?_|refine cW a ?_|refine cX a ?_|refine cQ a ?_))
 refine A5 (by show 3<4;decide) (fun d b=>?_);have b:(iV (.aU g.v))[3]?=some d:=b;obtain rfl:d=[.str ⟨#[73,110,116]⟩,.int 0,.int 0,.aU g.v]:=(Option.some.inj b).symm;refine A5 rfl ?_;show Y7 prog _ _ _ _;refine cA (ui.sw 1000 104) ?_;show j4 prog f _ _ _ _;refine j4.fX 9 3 3 104 105 rfl rfl rfl rfl rfl rfl rfl rfl ?_;refine j4.b8 9 (List.map gB O5.a7) rfl (by repeat (first|exact trivial|exact rfl|(refine A5 ?_ ?_))) ?_;refine j4.au 9 rfl ?_
 (repeat (first|refine c8 a ?_|refine cP a ?_|refine cy a ?_|refine cV a ?_|refine cW a ?_|refine cX a ?_|refine cQ a ?_))
 exact⟨[],_,rfl,(by repeat (first|exact trivial|exact rfl|(refine A5 ?_ ?_))),trivial,rfl,rfl,rfl,rfl,rfl⟩
end
section
variable {P:Program} {Γ:K5}
def SQ (P:Program) (Γ:K5) (y:Code) (Q:Qt):Qt:=fun e ts os=>match e with
 |.normal=>j4 P Γ y ts os Q
 |.exit id=>Q (.exit id) ts os
 |.ret=>Q .ret ts os
def BQ (b:Nat) (Q:Qt):Qt:=fun e ts os=>match e with
 |.normal=>Q .normal ts os
 |.exit id=>match A4 id b with
  |true=>Q .normal ts os
  |false=>Q (.exit id) ts os
 |.ret=>Q .ret ts os
def JE (p:Option (Ts×Os)):Qt:=fun _ ts os=>match p with
 |some (t,o)=>∃rl,bj ts os t o rl
 |none=>False
def JS (Γ:K5) (p:Option (Ts×Os)) (Q:Qt):Qt:=fun e ts os=>match e with
 |.normal=>O9 Γ ts os (JE p)
 |.exit id=>Q (.exit id) ts os
 |.ret=>Q .ret ts os
def LS (Γ:K5) (b:Nat) (R:Qt) (p:Option (Ts×Os)) (Q:Qt):Qt:=fun e ts os=>match e with
 |.normal=>O9 Γ ts os R
 |.exit id=>match A4 id b with
  |true=>O9 Γ ts os (JE p)
  |false=>Q (.exit id) ts os
 |.ret=>Q .ret ts os
theorem j4.jy {x y:Code} {ts:Ts} {os:Os} {Q:Qt} (h:j4 P Γ x ts os (SQ P Γ y Q)):j4 P Γ (.seq x y) ts os Q :=
 j4.seq (h.mono fun e _ _ h=>by cases e<;>exact h)
theorem j4.jk {c:Code} {b:Nat} {ts:Ts} {os:Os} {Q:Qt} (h:j4 P Γ c ts os (BQ b Q)):j4 P Γ (.block b c) ts os Q :=
 j4.rH (h.mono fun e _ _ h=>by cases e<;>exact h)
def G6 {β:Type} (l:List (Nat×β)):List Nat->List (Nat×β)
 |[]=>[]
 |k::r=>match lk l k with
  |some v=>(k,v)::G6 l r
  |none=>G6 l r
def F8.nx {ρ σ:Type}:F8 ρ σ->Option σ
 |.ret _=>none
 |.next s=>some s
structure En (τ ρ:Type) where
 e:τ->Option ρ
 s:ρ->τ
 h:∀o x,e o=some x->o=s x
abbrev e0 {τ:Type}:En τ τ:=⟨some,fun x=>x,fun _ _ h=>Option.some.inj h⟩
abbrev e1 {ρ σ:Type}:En (F8 ρ σ) σ:=⟨F8.nx,.next,fun o x h=>by cases o with|ret=>cases h|next=>cases h;rfl⟩
def eW {σ:Type} (D:σ->Ts) (O:σ->Os) (dt dO:List Nat) (ts:Ts) (os:Os) (s:Option σ):Option (Ts×Os):=match s with
 |none=>none
 |some s=>some (D s++G6 ts dt,O s++G6 os dO)
theorem j4.gF {c:Code} {ts:Ts} {os:Os} {Q:Qt} (p:Option (Ts×Os)) (h:j4 P Γ c ts os (JS Γ p Q)) (hn:∀q,p=some q->(q.1.all fun p=>AM p.1 Γ.n)=true) (h2:∀q,p=some q->Q .normal q.1 q.2):j4 P Γ c ts os Q:=by
 refine⟨fun a w hr=>wp_mono (h.run a w hr) fun e a' w' ⟨ex,ts',os',h1,h2',h3⟩=>?_⟩;cases ex with
 |normal =>
  obtain⟨ts2,os2,hj,h4⟩:=O9.run h2' a' w' h3;unfold JE at hj;split at hj
  ·rename_i t o;obtain⟨rl,hs⟩:=hj;exact⟨.normal,_,_,h1,h2 _ rfl,hs.rel (hn _ rfl) h4⟩
  ·exact hj.elim
 |exit id=>exact⟨.exit id,ts',os',h1,h2',h3⟩
 |ret=>exact⟨.ret,ts',os',h1,h2',h3⟩
end
section
variable {α β σ τ:Type}
def xi {x:Option α} {f:α->Option β} {r:β} {G:Prop} (h:x.bind f=some r) (k:∀a,x=some a->f a=some r->G):G :=
 let ⟨a,h1,h2⟩:=oG h;k a h1 h2
def xu {b:Bool} {x:Option β} {r:β} {G:Prop} (h:(bif b then x else none)=some r) (k:b=true->x=some r->G):G :=
 let ⟨h1,h2⟩:=mh h;k h1 h2
end
structure Wz {κ:Type} (c:κ) (G:Prop):Prop where
 o:G
def jt {Γ:K5} {ts t:Ts} {os o:Os} {rl:List (Nat×Nat)} (h:bj ts os t o rl:=by(refine bj.mk ?_ ?_ rfl rfl<;>repeat (first|exact trivial|exact rfl|(refine A5 ?_ ?_)))):Wz rl (O9 Γ ts os (JE (some (t,o)))):=⟨O9.done ⟨rl,h⟩⟩
def sC {tab:F7} {rs:List ResultVar} {ts:Ts} {os:Os} {av:AV} {upd:Os} {news:List Nat} {rl:List (Nat×Nat)} {r:List AV} (h:Fin tab rs ts os av upd news rl r):Wz rl (mv tab rs av upd news .ret ts os):=⟨⟨rl,r,h⟩⟩
section
variable {P:Program} {Γ:K5} {n:Nat} {α β σ ρ τ:Type} {c:Code} {ts:Ts} {os:Os} {Q:Qt}
abbrev nl {α β:Type}:α->List β:=fun _=>[]
def fc (ts:Ts) (os:Os) (K:Ts->Os->Prop):Prop:=db ts fun ts=>dv os [] fun os=>K ts os
def ru {K:Ts->Os->Prop} (h:fc ts os K):K ts os:=by
 have h:=(ea os [] _).1 ((iA ts _).1 h)
 rwa [List.append_nil] at h
def J {x:Option τ} {f:τ->Option β} {r:β} (E:En τ σ) (hn:Γ.n=n) (h:x.bind f=some r) (D:σ->Ts) (O:σ->Os) (dt dO:List Nat)
  (k1:∀o,x=some o->f o=some r->j4 P Γ c ts os (JS Γ (eW D O dt dO ts os (E.e o)) Q)) (k2:∀s,f (E.s s)=some r->fc (D s++G6 ts dt) (O s++G6 os dO) (Q .normal))
  (hb:∀s,((D s++G6 ts dt).all fun p=>AM p.1 n)=true:=by intro s;rfl):j4 P Γ c ts os Q:=by
 obtain⟨o,h1,h2⟩:=oG h;subst hn;refine j4.gF _ (k1 o h1 h2) (fun q hq=>?_) (fun q hq=>?_)<;>(cases ho:E.e o with|none=>rw[ho] at hq;cases hq|some s=>rw[ho] at hq;cases hq;first|exact hb s|(have:=E.h _ _ ho;subst this;exact ru (k2 s h2)))
def Jb {x:Option Bool} {f:Bool->Option β} {r:β} (t:Nat) (hn:Γ.n=n) (h:x.bind f=some r) (dt dO:List Nat) (k1:∀o,x=some o->f o=some r->j4 P Γ c ts os (JS Γ (eW (fun s=>[(t,.bool s)]) (fun _=>[]) dt dO ts os (some o)) Q))
  (k2:∀s,f s=some r->fc ((t,.bool s)::G6 ts dt) (G6 os dO) (Q .normal)) (hb:∀s,(((t,AV.bool s)::G6 ts dt).all fun p=>AM p.1 n)=true:=by intro s;rfl):j4 P Γ c ts os Q:=J e0 hn h (fun s=>[(t,.bool s)]) (fun _=>[]) dt dO k1 k2 hb
def Jk {x:Option τ} {f:τ->Option β} {r:β} (E:En τ σ) (hn:Γ.n=n) (h:x.bind f=some r) (D:σ->Ts) (O:σ->Os) (dt dO:List Nat) (rl:List (Nat×Nat))
  (k1:∀o,x=some o->f o=some r->j4 P Γ c ts os (JS Γ (eW D O dt dO ts os (E.e o)) Q)) (k2:∀s,f (E.s s)=some r->Wz rl (fc (D s++G6 ts dt) (O s++G6 os dO) (Q .normal)):=by intro s h;obtain rfl:=oI h;exact jt)
  (hb:∀s,((D s++G6 ts dt).all fun p=>AM p.1 n)=true:=by intro s;rfl):j4 P Γ c ts os Q:=J E hn h D O dt dO k1 (fun s h=>(k2 s h).o) hb
def cK {x:Option Bool} {f:Bool->Option β} {r:β} (t:Nat) (hn:Γ.n=n) (h:x.bind f=some r) (dt dO:List Nat) (rl:List (Nat×Nat)) (k1:∀o,x=some o->f o=some r->j4 P Γ c ts os (JS Γ (eW (fun s=>[(t,.bool s)]) (fun _=>[]) dt dO ts os (some o)) Q))
  (k2:∀s,f s=some r->Wz rl (fc ((t,.bool s)::G6 ts dt) (G6 os dO) (Q .normal)):=by intro s h;obtain rfl:=oI h;exact jt) (hb:∀s,(((t,AV.bool s)::G6 ts dt).all fun p=>AM p.1 n)=true:=by intro s;rfl):j4 P Γ c ts os Q:=J e0 hn h (fun s=>[(t,.bool s)]) (fun _=>[]) dt dO k1 (fun s h=>(k2 s h).o) hb
theorem jd {β:Type} {l:List (Nat×β)}:∀{ks:List Nat} {t:Nat} {x:β},lk (G6 l ks) t=some x->lk l t=some x
 |k::ks,t,x,h=>by
  unfold G6 at h;split at h
  ·rename_i v hv;rw[j5] at h;split at h
   ·rename_i e;subst e;cases h;exact hv
   ·exact jd h
  ·exact jd h
def kd (dt dO:List Nat) (h:db (G6 ts dt) fun ts=>dv (G6 os dO) [] fun os=>j4 P Γ c ts os Q):j4 P Γ c ts os Q:=by
 have h:=(ea (G6 os dO) [] _).1 ((iA (G6 ts dt) _).1 h);rw[List.append_nil] at h;refine⟨fun a w hr=>h.run a w ?_⟩;obtain⟨c,⟨h1,h2,h3,h4,h5⟩,h6⟩:=hr;exact⟨c,⟨h1,h2,fun t x hl=>h3 t x (jd hl),h4.sub fun _ _=>jd,⟨h5.bV,h5.tape,h5.output,h5.size,h5.aX,h5.aV,h5.aP,fun id o b hl hf=>h5.ab _ _ b (jd hl) hf⟩⟩,h6⟩
def xq {ι:Type} (St:ι->Ts) (So:ι->Os) (m:ι->Nat) {b:Nat} (p:Option (Ts×Os)) (i0:ι) (rl0:List (Nat×Nat)) (h0:bj ts os (St i0) (So i0) rl0) (hn:∀i,((St i).all fun p=>AM p.1 Γ.n)=true)
  (hr:∀i,j4 P Γ c (St i) (So i) (LS Γ b (JQ St So fun j=>m j<m i) p Q)) (hp:∀q,p=some q->(q.1.all fun p=>AM p.1 Γ.n)=true) (h2:∀q,p=some q->Q .normal q.1 q.2):j4 P Γ (.block b (.loop c)) ts os Q:=by
 refine j4.gF p (j4.jk (j4.eQ St So m i0 rl0 h0 hn fun i Q1 q1 q2 q3=>(hr i).mono fun e t o h=>?_)) hp h2;cases e with
 |normal=>exact q1 _ _ h
 |ret=>exact q3 _ _ h
 |exit id =>
  refine q2 id _ _ ?_;unfold LS at h;unfold BQ;cases hb:A4 id b<;>(simp only[hb] at h⊢;exact h)
def RK {κ:Type} (μ:κ->Nat) (Iv:κ->Nat->Prop) (F:κ->Nat->σ->Option τ) (o:τ) (D:Nat->σ->Ts) (O:Nat->σ->Os) (z:Nat):Qt:=fun _ ts os =>
 ∃(l:κ) (k:Nat) (v:σ) (rl:List (Nat×Nat)),μ l<z/\Iv l k/\F l k v=some o/\bj ts os (D k v) (O k v) rl
def xw {κ:Type} {μ:κ->Nat} {Iv:κ->Nat->Prop} {l:κ} {F:κ->Nat->σ->Option τ} {o:τ} {D:Nat->σ->Ts} {O:Nat->σ->Os} {z k:Nat} {v:σ} {rl:List (Nat×Nat)} (h:F l k v=some o) (hd:Iv l k) (hz:μ l<z)
  (hs:bj ts os (D k v) (O k v) rl:=by(refine bj.mk ?_ ?_ rfl rfl<;>repeat (first|exact trivial|exact rfl|(refine A5 ?_ ?_)))):Wz (v,rl) (O9 Γ ts os (RK μ Iv F o D O z)):=⟨O9.done ⟨l,k,v,rl,hz,hd,h,hs⟩⟩
def LK {κ:Type} {E:En τ ρ} {b:Nat} {f:τ->Option β} {r:β} (μ:κ->Nat) (Iv:κ->Nat->Prop) (l0:κ) (i0:Iv l0 0) (hn:Γ.n=n) {F:κ->Nat->σ->Option τ} {v0:σ} (h:(F l0 0 v0).bind f=some r)
  {D:Nat->σ->Ts} {O:Nat->σ->Os} {rl:List (Nat×Nat)} {D':ρ->Ts} {O':ρ->Os} {dt dO:List Nat}
  (k1:∀o,f o=some r->∀l k v,Iv l k->F l k v=some o->j4 P Γ c (D k v) (O k v) (LS Γ b (RK μ Iv F o D O (μ l)) (eW D' O' dt dO ts os (E.e o)) Q))
  (k3:∀s,f (E.s s)=some r->fc (D' s++G6 ts dt) (O' s++G6 os dO) (Q .normal)) (h0:bj ts os (D 0 v0) (O 0 v0) rl)
  (hb:∀k s,((D k s).all fun p=>AM p.1 n)=true) (hb':∀s,((D' s++G6 ts dt).all fun p=>AM p.1 n)=true):j4 P Γ (.block b (.loop c)) ts os Q:=by
 obtain⟨o,h1,h2⟩:=oG h;subst hn;refine xq (fun q:{ q:κ×Nat×σ // Iv q.1 q.2.1/\F q.1 q.2.1 q.2.2=some o }=>D q.1.2.1 q.1.2.2) (fun q=>O q.1.2.1 q.1.2.2) (fun q=>μ q.1.1) (eW D' O' dt dO ts os (E.e o)) ⟨(l0,0,v0),i0,h1⟩ rl h0 (fun q=>hb _ _) ?_ (fun q hq=>?_) (fun q hq=>?_)
 ·rintro⟨⟨l,k,v⟩,hd,hf⟩;refine(k1 o h2 l k v hd hf).mono fun ex t s hh=>?_;cases ex with
  |normal=>exact⟨fun a w hr=>let ⟨t2,o2,⟨l,k,v,rl,e1,e2,e3,e4⟩,e5⟩:=O9.run hh a w hr;⟨t2,o2,⟨⟨(l,k,v),e2,e3⟩,rl,e1,e4⟩,e5⟩⟩
  |exit id=>exact hh
  |ret=>exact hh
 all_goals (cases ho:E.e o with|none=>rw[ho] at hq;cases hq|some s=>rw[ho] at hq;cases hq;first|exact hb' s|(have:=E.h _ _ ho;subst this;exact ru (k3 s h2)))
def LR {b:Nat} {f:τ->Option β} {r:β} {lx:List α} (E:En τ ρ) (hn:Γ.n=n) (v0:σ) (F:List α->Nat->σ->Option τ) (h:(F lx 0 v0).bind f=some r)
  (D:Nat->σ->Ts) (O:Nat->σ->Os) (dt dO:List Nat) (rl:List (Nat×Nat)) (D':ρ->Ts) (O':ρ->Os) (dt' dO':List Nat)
  (k1:∀o,f o=some r->∀k v,F [] k v=some o->decide ((k:Int)<(lx.length:Int))=false->j4 P Γ c (D k v++G6 ts dt) (O k v++G6 os dO)
   (LS Γ b (RK List.length (fun l k=>l=lx.drop k) F o (fun k v=>D k v++G6 ts dt) (fun k v=>O k v++G6 os dO) 0) (eW D' O' dt' dO' ts os (E.e o)) Q))
  (k2:∀o,f o=some r->∀k v x l,F (x::l) k v=some o->decide ((k:Int)<(lx.length:Int))=true->lx[k]?=some x->l=lx.drop (k+1)->j4 P Γ c (D k v++G6 ts dt) (O k v++G6 os dO)
   (LS Γ b (RK List.length (fun l k=>l=lx.drop k) F o (fun k v=>D k v++G6 ts dt) (fun k v=>O k v++G6 os dO) (l.length+1)) (eW D' O' dt' dO' ts os (E.e o)) Q))
  (k3:∀s,f (E.s s)=some r->fc (D' s++G6 ts dt') (O' s++G6 os dO') (Q .normal)) (h0:bj ts os (D 0 v0++G6 ts dt) (O 0 v0++G6 os dO) rl:=by(refine bj.mk ?_ ?_ rfl rfl<;>repeat (first|exact trivial|exact rfl|(refine A5 ?_ ?_))))
  (hb:∀k s,((D k s++G6 ts dt).all fun p=>AM p.1 n)=true:=by intro k s;rfl) (hb':∀s,((D' s++G6 ts dt').all fun p=>AM p.1 n)=true:=by intro s;rfl):j4 P Γ (.block b (.loop c)) ts os Q :=
 LK List.length (fun l k=>l=lx.drop k) lx rfl hn h (fun o g l k v hd hf=>by
  rcases l with _|⟨x,l⟩
  ·exact k1 o g k v hf (wF hd)
  ·obtain⟨g1,g2,g3⟩:=e7 hd;exact k2 o g k v x l hf g3 g1 g2) k3 h0 hb hb'
def LU {b:Nat} {f:τ->Option β} {r:β} {nx:Int} (E:En τ ρ) (hn:Γ.n=n) (v0:σ) (F:Nat->Nat->σ->Option τ) (h:(F (nx-((0:Nat):Int)).toNat 0 v0).bind f=some r)
  (D:Nat->σ->Ts) (O:Nat->σ->Os) (dt dO:List Nat) (rl:List (Nat×Nat)) (D':ρ->Ts) (O':ρ->Os) (dt' dO':List Nat)
  (k1:∀o,f o=some r->∀k v,F 0 k v=some o->decide ((k:Int)<nx)=false->j4 P Γ c (D k v++G6 ts dt) (O k v++G6 os dO)
   (LS Γ b (RK (fun m=>m) (fun m k=>m=(nx-(k:Int)).toNat) F o (fun k v=>D k v++G6 ts dt) (fun k v=>O k v++G6 os dO) 0) (eW D' O' dt' dO' ts os (E.e o)) Q))
  (k2:∀o,f o=some r->∀k v m,F (m+1) k v=some o->decide ((k:Int)<nx)=true->m=(nx-((k+1:Nat):Int)).toNat->j4 P Γ c (D k v++G6 ts dt) (O k v++G6 os dO)
   (LS Γ b (RK (fun m=>m) (fun m k=>m=(nx-(k:Int)).toNat) F o (fun k v=>D k v++G6 ts dt) (fun k v=>O k v++G6 os dO) (m+1)) (eW D' O' dt' dO' ts os (E.e o)) Q))
  (k3:∀s,f (E.s s)=some r->fc (D' s++G6 ts dt') (O' s++G6 os dO') (Q .normal)) (h0:bj ts os (D 0 v0++G6 ts dt) (O 0 v0++G6 os dO) rl:=by(refine bj.mk ?_ ?_ rfl rfl<;>repeat (first|exact trivial|exact rfl|(refine A5 ?_ ?_))))
  (hb:∀k s,((D k s++G6 ts dt).all fun p=>AM p.1 n)=true:=by intro k s;rfl) (hb':∀s,((D' s++G6 ts dt').all fun p=>AM p.1 n)=true:=by intro s;rfl):j4 P Γ (.block b (.loop c)) ts os Q :=
 LK (fun m=>m) (fun m k=>m=(nx-(k:Int)).toNat) _ rfl hn h (fun o g m k v hd hf=>by
  rcases m with _|m
  ·exact k1 o g k v hf (xe hd)
  ·exact k2 o g k v m hf (rN hd).2 (rN hd).1) k3 h0 hb hb'
def LF {b N:Nat} {f:τ->Option β} {r:β} (E:En τ ρ) (hn:Γ.n=n) (v0:σ) (F:Nat->σ->Option τ) (h:(F N v0).bind f=some r)
  (D:σ->Ts) (O:σ->Os) (dt dO:List Nat) (rl:List (Nat×Nat)) (D':ρ->Ts) (O':ρ->Os) (dt' dO':List Nat)
  (k2:∀o,f o=some r->∀v m,F (m+1) v=some o->j4 P Γ c (D v++G6 ts dt) (O v++G6 os dO)
   (LS Γ b (RK (fun m=>m) (fun m k=>k=0) (fun m _=>F m) o (fun _ v=>D v++G6 ts dt) (fun _ v=>O v++G6 os dO) (m+1)) (eW D' O' dt' dO' ts os (E.e o)) Q))
  (k3:∀s,f (E.s s)=some r->fc (D' s++G6 ts dt') (O' s++G6 os dO') (Q .normal)) (hz:∀v,F 0 v=none:=by intro v;rfl) (h0:bj ts os (D v0++G6 ts dt) (O v0++G6 os dO) rl:=by(refine bj.mk ?_ ?_ rfl rfl<;>repeat (first|exact trivial|exact rfl|(refine A5 ?_ ?_))))
  (hb:∀s,((D s++G6 ts dt).all fun p=>AM p.1 n)=true:=by intro s;rfl) (hb':∀s,((D' s++G6 ts dt').all fun p=>AM p.1 n)=true:=by intro s;rfl):j4 P Γ (.block b (.loop c)) ts os Q :=
 LK (fun m=>m) (fun m k=>k=0) N rfl hn (F:=fun m _=>F m) h (fun o g m k v hd hf=>by
  rcases m with _|m
  ·rw[hz] at hf;cases hf
  ·exact k2 o g v m hf) k3 h0 (fun _=>hb) hb'
end
section
variable {P:Program} {Γ:K5} {c:Code} {ts:Ts} {os:Os} {Q:Qt} {α:Type} {enc:α->List AV}
def nR (t id sz e:Nat) (h:j4 P Γ c ((t,.aG id)::ts) ((id,.row sz [] e)::os) Q) (h1:lk ts t=some .a8:=by rfl) (h2:D5 [id] ts=true:=by rfl) (h3:D6 [id] [(id,.row sz [] e)] os=true:=by rfl):j4 P Γ c ts os Q:=j4.bd t id sz e h1 h2 h3 h
def nB (b off id sz e:Nat) {cs:List AV} {e2:Nat} (h:j4 P Γ c ts ((b,.box (cs.set off (.aG id)) e2)::(id,.row sz [] e)::os) Q) (h1:lk os b=some (.box cs e2):=by rfl) (h2:cs[off]?=some .a8:=by rfl) (h3:(AV.aY cs).all (fun i=>!Nat.beq i id)=true:=by rfl) (h4:A4 b id=false:=by rfl)
  (h5:D5 [id] ts=true:=by rfl) (h6:D6 [id] [(b,.box (cs.set off (.aG id)) e2),(id,.row sz [] e)] os=true:=by rfl):j4 P Γ c ts os Q:=j4.cG b off id sz e h1 h2 h3 h4 h5 h6 h
def rB (b off j g:Nat) {cs:List AV} {e2 sz e:Nat} {ls:List (List AV)} (h:j4 P Γ c ts ((b,.box (cs.set off (.aG g)) e2)::(g,.row sz ls e)::(j,.aI)::os) Q) (h1:lk os b=some (.box cs e2):=by rfl) (h2:cs[off]?=some (.aG j):=by rfl) (h3:lk os j=some (.row sz ls e):=by rfl)
  (h4:(AV.aY cs).all (fun i=>!Nat.beq i g)=true:=by rfl) (h5:A4 b j=false:=by rfl) (h6:A4 b g=false:=by rfl) (h7:A4 j g=false:=by rfl) (h8:D5 [g] ts=true:=by rfl) (h9:D6 [g] [(b,.box (cs.set off (.aG g)) e2),(g,.row sz ls e),(j,.aI)] os=true:=by rfl):j4 P Γ c ts os Q :=
 j4.eU b off j g h1 h2 h3 h4 h5 h6 h7 h8 h9 h
variable {l l1 l2:List α} {i:Nat} {x:α} {A B' C D':Prop}
def hD {K:Prop} (h:l[i]?=some x) (H:K) (a:A:=by rfl) (b:B':=by rfl) (c:C:=by decide) (d:D':=by rfl):A/\B'/\i<(l.map enc).length/\C/\D'/\K:=xZ h a b c d H
def hS {K:Prop} (h:l[i]?=some x) (H:K) (a:A:=by rfl) (b:B':=by rfl) (d:D':=by decide):A/\B'/\i<(l.map enc).length/\D'/\K:=xE h a b d H
def sM {p:List AV->Prop} {cs':List AV} {K:List (List AV)->Prop} (h:l[i]?=some x) (x2:α) (H:K ((l.set i x2).map enc)) (hp:(∃q,S9 ((l.map enc).set i cs') q/\K q)->p (enc x):=by exact fun h=>h) (hc:dw cs' (enc x2):=by exact aT) :
  i<(l.map enc).length/\∀cs,(l.map enc)[i]?=some cs->p cs:=dV h (hp ⟨_,vO h hc,H⟩)
def bS {q0:List (List AV)} {K:List (List AV)->Prop} (enc:α->List AV) (l:List α) (H:K (l.map enc)) (h:S9 q0 (l.map enc):=by exact aT):∃q,S9 q0 q/\K q:=⟨_,h,H⟩
def aM {ls2:List (List AV)} {B C:Nat} {K:List (List AV)->Prop} (hb:AD ((l1.length+l2.length)*B) C=true) (H:K ((l1++l2).map enc)) (hle:S9 ls2 (l2.map enc):=by first|exact fG _|exact vD _ _|exact aT) :
  ((l1.map enc).length+ls2.length)*B<=C/\∃q,S9 (l1.map enc++ls2) q/\K q:=uO hb hle H
end
section
variable {Γ:K5} {n:Nat} {c:List Nat} {ts:Ts} {os:Os} {Q:Qt} {x y:Code}
def z2 (h:Wz c (j4 prog Γ x ts os (SQ prog Γ y Q))):Wz (2::c) (j4 prog Γ (.seq x y) ts os Q):=⟨.jy h.o⟩
def z3 (hn:Γ.n=n) (h:Wz c (dA prog tab cN Γ n (.seq x y) ts os Q)):Wz (3::c) (j4 prog Γ (.seq x y) ts os Q):=⟨c8 hn h.o⟩
def z4 (hn:Γ.n=n) {a:Operand} (h:Wz c (dA prog tab cN Γ n (.cond a x y) ts os Q)):Wz (4::c) (j4 prog Γ (.cond a x y) ts os Q):=⟨cV hn h.o⟩
def z5 (hn:Γ.n=n) {id:Nat} {l:Array Oper} (h:Wz c (dA prog tab cN Γ n (.region id l false) ts os Q)):Wz (5::c) (j4 prog Γ (.region id l false) ts os Q):=⟨cP hn h.o⟩
def z6 {b:Nat} (h:Wz c (j4 prog Γ x ts os (BQ b Q))):Wz (6::c) (j4 prog Γ (.block b x) ts os Q):=⟨.jk h.o⟩
def z7 (hn:Γ.n=n) (h:Wz c (dA prog tab cN Γ n .ret ts os Q)):Wz (7::c) (j4 prog Γ .ret ts os Q):=⟨cQ hn h.o⟩
def z8 (hn:Γ.n=n) {id:Nat} {l:Array Oper} (hd:X5 l.toList=true) (h:Wz c (db ts fun ts=>dy prog tab cN n l.toList 0 l.toList ts os [] (Q .normal))):Wz (8::c) (j4 prog Γ (.region id l true) ts os Q):=⟨oh hn hd h.o⟩
def z9 (hn:Γ.n=n) {id:Nat} {l:Array Oper} (hd:X5 l.toList=true) (h:Wz c (db ts fun ts=>dy prog tab cN n l.toList 0 l.toList ts os [] (SQ prog Γ y Q .normal))):Wz (9::c) (j4 prog Γ (.seq (.region id l true) y) ts os Q):=⟨.jy (oh hn hd h.o)⟩
def xz {p K:Prop} (hp:p) (h:Wz c K):Wz (10::c) (p/\K):=⟨⟨hp,h.o⟩⟩
def y0 {p K:Prop} (h:Wz c p):Wz (11::c) (p\/K):=⟨.inl h.o⟩
def z12 {p K:Prop} (h:Wz c K):Wz (12::c) (p\/K):=⟨.inr h.o⟩
def y5 {α:Type} {l:List α} {enc:α->List AV} {K:Nat->Prop} (h:Wz c (K l.length)):Wz (13::c) (∀n:Nat,n=(l.map enc).length->n<=maxLen->K n):=⟨M8 fun _=>h.o⟩
def y6 (h:Wz c (Q .normal ts os)):Wz (14::c) (O9 Γ ts os Q):=⟨.done h.o⟩
def yA {P:Program} (h:Wz c (j4 P Γ x ts os fun e ts' os'=>match e with
  |.normal=>O9 Γ ts' os' Q
  |.exit id=>Q (.exit id) ts' os'
  |.ret=>Q .ret ts' os')):Wz (15::c) (j4 P Γ x ts os Q):=⟨.snoc h.o⟩
def yB {a b:Int} (h0:0<b) (h1:b<=4611686018427387904) {K:Prop} (h:Wz c K):Wz (16::c) (b≠0/\D8 (a.tmod b)/\K):=⟨uG h0 h1 h.o⟩
def z17 {p q K:Prop} (hp:p) (hq:q) (h:Wz c K):Wz (17::c) (p/\q/\K):=⟨⟨hp,hq,h.o⟩⟩
def yC {p K:Prop} (h:Wz c K):Wz (18::c) (p->K):=⟨fun _=>h.o⟩
def yD {P:Program} (h:Wz c (dv os [] fun os=>j4 P Γ x ts os Q)):Wz (19::c) (j4 P Γ x ts os Q):=⟨by have:=(ea os [] _).1 h.o;rwa [List.append_nil] at this⟩
def z0 {G:Prop} (h:Wz c G):Wz (0::c) G:=⟨h.o⟩
def z1 (hn:Γ.n=n) (h:Wz c (Q .normal ts os)):Wz (1::c) (j4 prog Γ .skip ts os Q):=⟨cX hn h.o⟩
def z20 (hn:Γ.n=n) {id:Nat} (h:Wz c (Q (.exit id) ts os)):Wz (20::c) (j4 prog Γ (.exit id) ts os Q):=⟨cW hn h.o⟩
def zT {b:Bool} {X Y:Prop} (hb:b=true) (h:Wz c X):Wz c (eK.match_1 (motive:=fun _ _ _=>Prop) b X Y (fun X _=>X) (fun _ Y=>Y)):=⟨xY hb h.o⟩
def zF {b:Bool} {X Y:Prop} (hb:b=false) (h:Wz c Y):Wz c (eK.match_1 (motive:=fun _ _ _=>Prop) b X Y (fun X _=>X) (fun _ Y=>Y)):=⟨xd hb h.o⟩
end
def je {G:Prop} (rl:List (Nat×Nat):=[]) (a:Wz rl G:=by obtain rfl:=oI h;exact jt):G:=a.o
def le {G:Prop} {σ:Type} (v:σ) (rl:List (Nat×Nat)) (a:Wz (v,rl) G:=by exact xw h (by first|with_reducible assumption|exact rfl) (Nat.lt_succ_self _)):G:=a.o
structure dn (R:Prop):Prop where
 o:R
abbrev Sp (f:Nat) (ins:List AV) (av:AV):Prop:=Spec prog f [] ins av [] []
abbrev Sq (f:Nat) (need:Os) (ins:List AV) (av:AV) (upd:Os) (news:List Nat):Prop:=Spec prog f need ins av upd news
def so {f n:Nat} {fn:Func} {c:Code} {need upd:Os} {ins:List AV} {av:AV} {news:List Nat} (hf:prog.funcs[f]?=some fn) (hn:fn.ntmps=n)
  (h:∀Γ:K5,Γ.n=n->j4 prog Γ c (kz ins) need (mv tab fn.results.toList av upd news)) (hb:fn.body=some c:=by rfl) (hc:b7 prog f=true:=by kernel_rfl)
  (hl:AD ins.length n=true:=by rfl) (hneed:(need.all fun p=>AD top p.1 && (lk upd p.1).isSome)=true:=by rfl) (hnews:(news.all fun i=>(lk upd i).isSome)=true:=by rfl):Spec prog f need ins av upd news :=
 Spec.of gL hf hb hn hc hl hneed hnews h
def gz (ks ms:Nat) {Γ:K5} {n:Nat} (hn:Γ.n=n) {id:Nat} {l:Array Oper} {ts:Ts} {os:Os} {Q:Qt} (h:db ts fun ts=>dz prog tab cN n l.toList ks ms 0 l.toList ts os [] none (Q .normal)) (hd:X5 l.toList=true:=by kernel_rfl):j4 prog Γ (.region id l true) ts os Q:=uL ks ms hn hd h
def jl {β:Type} {b b':Bool} {x y:Option β} {r:β} (h:(bif b then x else y)=some r) {X Y:Prop} (hx:b'=true->x=some r->X) (hy:b'=false->y=some r->Y) (e:b=b':=by rfl):eK.match_1 (motive:=fun _ _ _=>Prop) b' X Y (fun X _=>X) (fun _ Y=>Y):=by
 subst e;exact xj h hx hy
theorem l8.c3 {c:Ctx} {w:World}:∀{us:List Value} {a X Y:AV} {cs:List AV},l8 c w us (a::X::Y::cs)->∃v0 vl vq vs,us=v0::vl::vq::vs/\Rd c w v0 a/\Rd c w vl X/\Rd c w vq Y/\l8 c w vs cs
 |_,_,_,_,_,.cons h0 (.cons h1 (.cons h2 t))=>⟨_,_,_,_,rfl,h0,h1,h2,t⟩
def Sx {c:List Nat} {G R:Prop} (k:R) (a:dn R->Wz c G:=by
  intro q_;(repeat (first|refine z2 ?_|refine z3 hn ?_|(refine z0 ?_;(repeat (first|refine zT (by with_reducible assumption) ?_|refine zF (by with_reducible assumption) ?_)))|refine z4 hn ?_|refine z5 hn ?_|refine z1 hn ?_|refine z7 hn ?_|refine z8 hn o7 ?_|refine z6 ?_|refine xz rfl ?_|refine y5 ?_|refine z9 hn o7 ?_|refine z12 ?_|refine y0 ?_|refine z20 hn ?_|refine y6 ?_|refine yA ?_|refine yB G7 G7 ?_|refine z17 G7 G7 ?_|refine yC ?_|refine yD ?_));exact⟨q_.o⟩):Wz c G:=a ⟨k⟩
def S (c:List Nat) {G R:Prop} (k:R) (a:dn R->Wz c G:=by intro q_;exact Sx q_.o):G:=(a ⟨k⟩).o
def Sj (c:List Nat) {G R:Prop} (rl:List (Nat×Nat):=[]) (a:dn R->Wz c G:=by intro q_;exact Sx q_.o) (b:Wz rl R:=by obtain rfl:=oI h;exact jt):G:=(a ⟨b.o⟩).o
def Sr (c:List Nat) {G R:Prop} (rl:List (Nat×Nat):=[]) (a:dn R->Wz c G:=by intro q_;exact Sx q_.o) (b:Wz rl R:=by obtain rfl:=oI h;(repeat (have e_:=oI g;clear g;subst e_));exact sC fm):G:=(a ⟨b.o⟩).o
def B (c:List Nat) {G R:Prop} (k:R) (a:dn R->Wz c G:=by intro q_;refine Sx ?_;exact xi h q_.o):G:=(a ⟨k⟩).o
def A (c:List Nat) {G R:Prop} (k:R) (a:dn R->Wz c G:=by intro q_;refine Sx ?_;exact xu h q_.o):G:=(a ⟨k⟩).o
def I (c:List Nat) {G R R':Prop} (k:R) (k':R') (a:dn R->dn R'->Wz c G:=by intro p_ q_;refine Sx ?_;exact jl h p_.o q_.o):G:=(a ⟨k⟩ ⟨k'⟩).o
structure Pk (c:List Nat):Prop where
def Pj {c:List Nat} (_:Pk c) {G R:Prop} (a:dn R->Wz c G:=by intro q_;exact Sx q_.o) (b:Wz ([]:List (Nat×Nat)) R:=by obtain rfl:=oI h;exact jt):G:=(a ⟨b.o⟩).o
def Pr {c:List Nat} (_:Pk c) {G R:Prop} (a:dn R->Wz c G:=by intro q_;exact Sx q_.o) (b:Wz ([]:List (Nat×Nat)) R:=by obtain rfl:=oI h;(repeat (have e_:=oI g;clear g;subst e_));exact sC fm):G:=(a ⟨b.o⟩).o
def Ij (c d:List Nat) {G R:Prop} (k:R) (a:Pk d->dn R->Wz c G:=by intro p_ q_;refine Sx ?_;refine jl h ?_ q_.o;intro _ h;exact Pj p_):G:=(a ⟨⟩ ⟨k⟩).o
def Ir (c d:List Nat) {G R:Prop} (k:R) (a:Pk d->dn R->Wz c G:=by intro p_ q_;refine Sx ?_;refine jl h ?_ q_.o;intro _ h;exact Pr p_):G:=(a ⟨⟩ ⟨k⟩).o
def E8 (c d e:List Nat) {G:Prop} (a:Pk d->Pk e->Wz c G:=by intro p_ q_;refine Sx ?_;refine jl h ?_ ?_;intro _ h;exact Pj p_;intro _ h;exact Pj q_):G:=(a ⟨⟩ ⟨⟩).o
def fB (c d e:List Nat) {G:Prop} (a:Pk d->Pk e->Wz c G:=by intro p_ q_;refine Sx ?_;refine jl h ?_ ?_;intro _ h;exact Pr p_;intro _ h;exact Pr q_):G:=(a ⟨⟩ ⟨⟩).o
end Go.Proofs.YtibjcppjfkamhaaGreatDoor
