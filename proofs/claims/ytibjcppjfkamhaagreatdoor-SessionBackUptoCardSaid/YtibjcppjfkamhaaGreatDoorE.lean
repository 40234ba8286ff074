import Derived.Test.YtibjcppjfkamhaaGreatDoorC
set_option linter.unusedVariables false
set_option linter.defProp false
set_option linter.unusedSimpArgs false
namespace Go.Proofs.YtibjcppjfkamhaaGreatDoor
open Go.RowKit
open _root_.Bool renaming and_eq_true->IT,not_true->M1,not_false->MJ,false_eq_true->Mc
open _root_.ByteArray renaming empty->BY
open _root_.Int renaming le_refl->MH,toNat_natCast->MX
open _root_.List renaming getElem?_eq_getElem->IS,getElem?_eq_some_iff->Lx,mem_cons->Ly,length_cons->MB,replicate->MC,length_append->MD,map->MF,mem_of_getElem?->MI,all_eq_true->MK,map_cons->ML,mem_map->MM,mem_append->MN,append_assoc->MO,length_map->MP,getElem?_set->MQ,getElem?_append_right->MS,sum_cons->MT,length_set->MU,getElem?_eq_none->MV,mem_singleton->MY,eq_nil_of_length_eq_zero->Ma,getElem?_append_left->Mh,mem_cons_of_mem->Mi,length_nil->Mj,getElem?_take->Mm,mem_iff_getElem?->Mn,length_singleton->Mp,getElem?_cons_zero->Mq
open _root_.Nat renaming ble->IN,le_refl->It
open _root_.Option renaming bind_some->A0,map_eq_some_iff->ME,map_some->MW
open _root_.Or renaming inl->MA
def pt (a b:V):dG (eV a) (eV b)=decide (a=b):=Lk a b
def im (a b:St):dG (bW a) (bW b)=decide (a=b):=zH a b
def pd (a b:Ln):dG (V5 a) (V5 b)=decide (a=b):=Hh a b
def pZ (a b:Ins):dG (bc a) (bc b)=decide (a=b):=LV a b
def rV {b:Type} {l:List b} {k n:Nat} (h:n+1=(l.drop k).length):∃y,l[k]?=some y/\l.drop k=y::l.drop (k+1)/\n=(l.drop (k+1)).length:=by
 rw[List.length_drop] at h;have a:k<l.length:=d9;refine⟨l[k],IS a,List.drop_eq_getElem_cons a,by rw[List.length_drop];omega⟩
def sd {a:Type} {l:List a} {k:Nat} (h:0=(l.drop k).length):l.drop k=[]:=Ma h.symm
theorem Be (N:Nat) (b:List Ins):∀(l:List Ins) (k:Nat),l.length=(b.drop k).length->mb N b l k=some (if l=b.drop k then .next () else .ret false)
 |[],k,h=>by rw[sd h];rfl
 |x::l,k,h=>by
  obtain⟨y,a,hd,hl⟩:=rV h;rw[hd,mb];simp only[A0,Option.bind_none,Mr,Ms,Bool.cond_decide,pt,im,pd,pZ,M1,MJ,D9,a,Be N b l (k+1) hl];by_cases e:x=y<;>simp[e]
def HS (N:Nat) (a b:List Ins):rN N a b=some (decide (a=b)):=by
 unfold rN;by_cases h:a.length=b.length
 ·rw[Be N b a 0 (by simpa using h)];by_cases e:a=b<;>simp[h,e]
 ·have:a≠b:=fun e=>h (by rw[e]);have c:¬((a.length:Int)=b.length):=d9;simp[this,c]
theorem BT (N:Nat) (b:Wd) (i:Nat) (o:Ob) (a:b.heap[i]?=some o):∀(l:List V) (k:Nat),l.length=(o.aI.drop k).length->mX N b i l k=some (if l=o.aI.drop k then .next () else .ret false)
 |[],k,h=>by rw[sd h];rfl
 |x::l,k,h=>by
  obtain⟨y,c,hd,hl⟩:=rV h;rw[hd,mX];simp only[A0,Option.bind_none,Mr,Ms,Bool.cond_decide,pt,im,pd,pZ,M1,MJ,D9,c,a,BT N b i o a l (k+1) hl];by_cases e:x=y<;>simp[e]
theorem BJ (N:Nat) (b:Wd):∀(l:List Ob) (k:Nat),l.length=(b.heap.drop k).length->mY N b l k=some (if l=b.heap.drop k then .next () else .ret false)
 |[],k,h=>by rw[sd h];rfl
 |x::l,k,h=>by
  obtain⟨y,i,hd,hl⟩:=rV h;rw[hd,mY];simp only[A0,Option.bind_none,Mr,Ms,Bool.cond_decide,pt,im,pd,pZ,M1,MJ,D9,i,BJ N b l (k+1) hl];obtain⟨m,a⟩:=x;obtain⟨j,c⟩:=y;by_cases e1:m=j
  ·by_cases f:a.length=c.length
   ·have:=BT N b k ⟨j,c⟩ i a 0 (by simpa using f);simp only[List.drop_zero] at this;by_cases d:a=c
    ·subst d;simp[e1,this]
    ·simp[e1,f,d,this]
   ·have d:a≠c:=fun e=>f (by rw[e]);have g:¬((a.length:Int)=c.length):=d9;simp[e1,g,d]
  ·simp[e1]
theorem BS (N:Nat) (c:Cl):∀(l:List Me) (k:Nat),l.length=(c.aC.drop k).length->mW N c l k=some (if l=c.aC.drop k then .next () else .ret false)
 |[],k,h=>by rw[sd h];rfl
 |x::l,k,h=>by
  obtain⟨y,f,hd,hl⟩:=rV h;rw[hd,mW];simp only[A0,Option.bind_none,Mr,Ms,Bool.cond_decide,pt,im,pd,pZ,M1,MJ,D9,f,BS N c l (k+1) hl,HS];obtain⟨g,i,j,m,n⟩:=x;obtain⟨o,p,q,r,s⟩:=y;by_cases e1:g=o
  ·by_cases a:i=p
   ·by_cases b:j=q
    ·by_cases d:m=r
     ·by_cases e:n=s<;>simp[e1,a,b,d,e]
     ·simp[e1,a,b,d]
    ·simp[e1,a,b]
   ·simp[e1,a]
  ·simp[e1]
theorem BP (N:Nat) (b:Wd):∀(l:List Cl) (k:Nat),l.length=(b.a7.drop k).length->mZ N b l k=some (if l=b.a7.drop k then .next () else .ret false)
 |[],k,h=>by rw[sd h];rfl
 |x::l,k,h=>by
  obtain⟨y,p,hd,hl⟩:=rV h;rw[hd,mZ];simp only[A0,Option.bind_none,Mr,Ms,Bool.cond_decide,pt,im,pd,pZ,M1,MJ,D9,p,BP N b l (k+1) hl];obtain⟨q,r,s,c⟩:=x;obtain⟨m,n,o,d⟩:=y;by_cases e1:q=m
  ·by_cases a:r=n
   ·by_cases f:s=o
    ·by_cases i:c.length=d.length
     ·have:=BS N ⟨m,n,o,d⟩ c 0 (by simpa using i);simp only[List.drop_zero] at this;by_cases g:c=d
      ·subst g;simp[e1,a,f,this]
      ·simp[e1,a,f,i,g,this]
     ·have g:c≠d:=fun e=>i (by rw[e]);have j:¬((c.length:Int)=d.length):=d9;simp[e1,a,f,j,g]
    ·simp[e1,a,f]
   ·simp[e1,a]
  ·simp[e1]
def HC (N:Nat) (a b:Wd):rL N a b=some (decide (a=b)):=by
 unfold rL;obtain⟨g,h,q⟩:=a;obtain⟨c,d,m⟩:=b;by_cases f:q=m
 ·by_cases j:g.length=c.length
  ·by_cases k:h.length=d.length
   ·have l:=BP N ⟨c,d,m⟩ g 0 (by simpa using j);have p:=BJ N ⟨c,d,m⟩ h 0 (by simpa using k);simp only[List.drop_zero] at l p;by_cases e1:g=c
    ·subst e1;by_cases i:h=d
     ·subst i;simp[f,l,p]
     ·simp[i,f,k,l,p]
    ·simp[e1,f,j,k,l]
   ·have i:h≠d:=fun e=>k (by rw[e]);have o:¬((h.length:Int)=d.length):=d9;simp[i,f,j,o]
  ·have e1:g≠c:=fun e=>j (by rw[e]);have n:¬((g.length:Int)=c.length):=d9;simp[e1,f,n]
 ·simp[f]
def G5 {a b:Nat} (h:a<=b):IN a b=true:=by rw[Nat.ble_eq];exact h
def xw {a:Type} {l:List a} {i:Int} (h:¬(i<l.length)):l[i.toNat]?=none:=MV d9
def fE {a:Type} {l:List a} {i:Int} (h:0<=i):j4 l i=l[i.toNat]?:=by
 unfold j4;rw[My h];rfl
def de {a:Type} {l:List a} {i:Int} (h:0<=i) (b:i<l.length):∃x,l[i.toNat]?=some x/\j4 l i=some x:=by
 have hl:i.toNat<l.length:=d9;exact⟨l[i.toNat],IS hl,by rw[fE h,IS hl]⟩
def ch (v:V) (n:Int):Int :=
 if v.k=0\/v.k=1\/v.k=2 then(if v.n=0 then 0 else 2)
 else if v.k=3 then(if v.n < -1073741824\/1073741824<v.n then 3 else 0)
 else if v.k=4 then(if v.n<0\/n<=v.n then 6 else 0) else 1
def Ao (N:Nat) (v:V) (n:Int):oz N v n=some (ch v n):=by
 unfold oz ch;by_cases b:v.k=0
 ·by_cases h:v.n=0<;>simp[b,h]
 by_cases c:v.k=1
 ·by_cases h:v.n=0<;>simp[c,h]
 by_cases d:v.k=2
 ·by_cases h:v.n=0<;>simp[d,h]
 by_cases e:v.k=3
 ·by_cases h:v.n < -1073741824<;>by_cases a:1073741824<v.n<;>simp[e,h,a]
 by_cases f:v.k=4
 ·by_cases h:v.n<0<;>by_cases a:n<=v.n<;>simp[f,h,a]
 simp[b,c,d,e,f]
def wW (N:Nat) (v:V) (n:Int):wF N v n=some (ch v n):=by
 unfold wF ch;by_cases b:v.k=0
 ·by_cases h:v.n=0<;>simp[b,h]
 by_cases c:v.k=1
 ·by_cases h:v.n=0<;>simp[c,h]
 by_cases d:v.k=2
 ·by_cases h:v.n=0<;>simp[d,h]
 by_cases e:v.k=3
 ·by_cases h:v.n < -1073741824<;>by_cases a:1073741824<v.n<;>simp[e,h,a]
 by_cases f:v.k=4
 ·by_cases h:v.n<0<;>by_cases a:n<=v.n<;>simp[f,h,a]
 by_cases g:v.k<0
 ·simp[b,c,d,e,f,g]
 ·have i:4<v.k:=d9;simp[b,c,d,e,f,g,i]
def G9 (h:List Ob) (v:V):Int :=
 if v.k=0 then 1 else if v.k=1\/v.k=2 then 2 else if v.k=3 then 3
 else if v.k=4/\0<=v.n then(match h[v.n.toNat]? with|some o=>o.cls|none=>0) else 0
def rP (N:Nat) (h:List Ob) (v:V):kH N h v=some (G9 h v):=by
 unfold kH G9;by_cases d:v.k=0
 ·simp[d]
 by_cases e:v.k=1
 ·simp[e]
 by_cases f:v.k=2
 ·simp[f]
 by_cases g:v.k=3
 ·simp[g]
 by_cases a:v.k=4
 ·by_cases b:0<=v.n
  ·by_cases c:v.n<h.length
   ·obtain⟨x,i,j⟩:=de b c;simp[a,b,c,j];exact(congrArg Ob.cls (Lx.1 i).2).symm
   ·simp[a,b,c]
  ·simp[a,b]
 ·simp[d,e,f,g,a]
def lW (h:List Ob) (v:V) (n:Int):V :=
 if v.k=4/\0<=v.n/\0<=n then(match h[v.n.toNat]? with|some o=>o.aI.getD n.toNat ⟨0,0⟩|none=>⟨0,0⟩) else⟨0,0⟩
def BE (N:Nat) (h:List Ob) (v:V) (n:Int):pJ N h v n=some (lW h v n):=by
 unfold pJ lW;by_cases e:v.k=4
 ·by_cases f:0<=v.n
  ·have a:¬v.n<0:=d9;by_cases o:v.n<h.length
   ·have b:¬((h.length:Int)<=v.n):=d9;obtain⟨x,l,m⟩:=de f o;by_cases g:0<=n
    ·have c:¬n<0:=d9;by_cases p:n<x.aI.length
     ·have d:¬((x.aI.length:Int)<=n):=d9;obtain⟨y,i,j⟩:=de g p;simp[e,f,a,b,g,c,l,m,d,i,j,List.getD_eq_getElem?_getD]
     ·have d:((x.aI.length:Int)<=n):=d9;simp[e,f,a,b,g,c,l,m,d,List.getD_eq_getElem?_getD]
    ·have c:n<0:=d9;simp[e,f,a,b,g,c]
   ·have b:((h.length:Int)<=v.n):=d9;simp[e,f,a,b]
  ·have a:v.n<0:=d9;simp[e,f,a]
 ·simp[e]
def we (N:Nat) (b:Bool):pK N b=some (if b=true then⟨2,0⟩ else⟨1,0⟩):=by cases b<;>rfl
def uG (N:Nat) {l:List V} (h:l.length<=1048576):mn N l=some l:=by
 unfold mn;rw[G5 d9];rfl
theorem zh (N:Nat):∀(l:List Ob) (k:Nat) (a:List Ob),(∀o∈l,o.aI.length<=1048576)->a.length+l.length<=1048576->lL N l k a=some (a++l)
 |[],k,a,_,_=>by simp[lL]
 |x::l,k,a,h,hl=>by
  rw[lL,uG N (h x l8)];simp only[A0];rw[G5 (by simp at hl⊢;omega)];simp only[Mr];rw[zh N l (k+1) _ (fun o b=>h o (by simp[b])) (by simp at hl⊢;omega)];simp
def rh (N:Nat) {l:List Ob} (h:∀o∈l,o.aI.length<=1048576) (hl:l.length<=1048576):ku N l=some l:=by
 unfold ku;rw[zh N l 0 [] h (by simpa using hl)];rfl
def HD (N:Nat) {l:List Ob} (c s:Int) (h:∀o∈l,o.aI.length<=1048576) (hl:l.length<=1048575) (e:0<=s) (f:s<=1000) :
  jY N l c s=some (if 60<=l.length then([],⟨0,0⟩,15) else(l++[⟨c,MC s.toNat ⟨0,0⟩⟩],⟨4,(l.length:Int)⟩,0)):=by
 unfold jY;have d:max s 0=s:=d9;by_cases b:60<=l.length
 ·have a:(60:Int)<=l.length:=d9;simp[b,a]
 ·have a:¬(60:Int)<=l.length:=d9;rw[rh N h d9,d];have e1:(decide (0<=s) && decide (s<=140737488355328) && decide (s*16<=140737488355328))=true:=by
   simp only[IT,Mz];omega
  rw[e1];simp only[A0,Mr];rw[G5 M3];simp[b,a]
def qS (n:Int):V:=⟨3,n.tmod 1073741825⟩
def eh (p:Int) (a b:V):V×Int :=
 if a.k≠3\/b.k≠3 then(⟨0,0⟩,12)
 else if p=1 then(qS (a.n+b.n),0) else if p=2 then(qS (a.n-b.n),0) else if p=3 then(qS (a.n*b.n),0)
 else if p=4 then(if a.n<b.n then⟨2,0⟩ else⟨1,0⟩,0) else if p=5 then(if a.n=b.n then⟨2,0⟩ else⟨1,0⟩,0) else(⟨0,0⟩,1)
def Js (n:Int):I1 (n.tmod 1073741825):=by
 have a:=Int.tmod_lt_of_pos n (show(0:Int)<1073741825 by omega);have b:-1073741825<n.tmod 1073741825:=by
  rcases Int.le_total 0 n with h|h
  ·have:=Int.tmod_nonneg (1073741825:Int) h;omega
  ·have:=Int.tmod_lt_of_pos (-n) (show(0:Int)<1073741825 by omega);rw[Int.neg_tmod] at this;omega
 exact⟨d9,d9⟩
def GH (N:Nat) (n:Int):nH N n=some (qS n):=by
 first
  |rfl
  |(unfold nH qS
    have:=Js n;simp[this])
def gM (n:Int):Prop:=-1073741824<=n/\n<=1073741824
def Kj {a b:Int} (c:gM a) (d:gM b):-1152921504606846976<=a*b/\a*b<=1152921504606846976:=by
 have h:(a*b).natAbs<=1073741824*1073741824:=by
  rw[Int.natAbs_mul];exact Nat.mul_le_mul (by have:=c.1;have:=c.2;omega) (by have:=d.1;have:=d.2;omega)
 omega
def Gy (N:Nat) (p:Int) (a b:V) (c:a.k=3->gM a.n) (d:b.k=3->gM b.n):sL N p a b=some (eh p a b):=by
 unfold sL eh;by_cases e:a.k=3
 ·by_cases f:b.k=3
  ·have c:=c e;have d:=d f;have o:=Kj c d;have l:wr (a.n+b.n)=a.n+b.n:=u7 (by unfold I1;unfold gM at c d;omega);have m:wr (a.n-b.n)=a.n-b.n:=u7 (by unfold I1;unfold gM at c d;omega);have w3:wr (a.n*b.n)=a.n*b.n:=u7 ino;simp only[e,f,l,m,w3,GH,we,A0,Option.bind_none,Mr,Ms,Bool.cond_decide,pt,im,pd,pZ,M1,MJ,D9,Mv,Mz,ne_eq,not_true_eq_false,or_self,if_false];by_cases e1:p=1
   ·simp[e1]
   by_cases g:p=2
   ·simp[g]
   by_cases h:p=3
   ·simp[h]
   by_cases i:p=4
   ·simp[i]
   by_cases j:p=5
   ·simp[j]
   simp[e1,g,h,i,j]
  ·simp[e,f]
 ·simp[e]
theorem d94 : ∀a:List UInt8,Op.bytesLess a a=false
 |[]=>rfl
 |a::x=>by simp[Op.bytesLess,d94 x]
theorem Cb : ∀a b c:List UInt8,Op.bytesLess a b=true->Op.bytesLess b c=true->Op.bytesLess a c=true
 |_,[],_,h,_=>by simp[Op.bytesLess] at h
 |_,_::_,[],_,h=>by simp[Op.bytesLess] at h
 |[],_::_,_::_,_,_=>rfl
 |a::x,b::y,c::z,h,d=>by
  simp only[Op.bytesLess,Bool.or_eq_true,IT,Mz,beq_iff_eq] at h d⊢;rcases h with h|⟨rfl,h⟩
  ·rcases d with d|⟨rfl,_⟩
   ·exact MA (UInt8.lt_trans h d)
   ·exact MA h
  ·rcases d with d|⟨rfl,d⟩
   ·exact MA d
   ·exact Or.inr ⟨rfl,Cb x y z h d⟩
theorem d88 : ∀a b:List UInt8,Op.bytesLess a b=false->Op.bytesLess b a=false->a=b
 |[],[],_,_=>rfl
 |[],_::_,h,_=>by simp[Op.bytesLess] at h
 |_::_,[],_,h=>by simp[Op.bytesLess] at h
 |a::x,b::y,h,h'=>by
  simp only[Op.bytesLess,Bool.or_eq_false_iff,decide_eq_false_iff_not,Bool.and_eq_false_iff,beq_eq_false_iff_ne,ne_eq] at h h';have e:a=b:=by
   rcases h with⟨c,_⟩
   rcases h' with⟨d,_⟩
   exact UInt8.le_antisymm (UInt8.not_lt.1 d) (UInt8.not_lt.1 c)
  subst e;have c:Op.bytesLess x y=false:=h.2.resolve_left (fun h=>h rfl);have d:Op.bytesLess y x=false:=h'.2.resolve_left (fun h=>h rfl);rw[d88 x y c d]
def Bw (b:ByteArray):b.toList=b.data.toList:=by
 have:∀(n i:Nat) (r:List UInt8),n=b.size-i->ByteArray.toList.loop b i r=r.reverse++b.data.toList.drop i:=by
  intro n
  induction n with
  |zero =>
   intro i r h;unfold ByteArray.toList.loop;rw[Mt d9];have:b.data.toList.length<=i:=by simpa using(show b.size<=i by omega)
   rw[List.drop_eq_nil_of_le this];simp
  |succ n ih =>
   intro i r h;have hi:i<b.size:=d9;have a:i<b.data.toList.length:=by simpa using hi
   unfold ByteArray.toList.loop;rw[Mu hi,ih (i+1) _ d9,List.drop_eq_getElem_cons a];have e:b.get! i=b.data.toList[i]:=by
    show b.data[i]! = _;rw[getElem!_pos b.data i hi,Array.getElem_toList]
   simp[e]
 have:=this b.size 0 [] d9;simpa[ByteArray.toList] using this
def toList_inj {a b:ByteArray} (h:a.toList=b.toList):a=b:=by
 rw[Bw,Bw] at h;cases a;cases b;congr;exact Array.toList_inj.1 h
def jh (a:ByteArray):Y6 a a=false:=d94 _
def lt_trans {a b c:ByteArray} (h:Y6 a b=true) (d:Y6 b c=true):Y6 a c=true:=Cb _ _ _ h d
def Ds {a b:ByteArray} (h:Y6 a b=false) (c:Y6 b a=false):a=b:=toList_inj (d88 _ _ h c)
def Lb {a b:ByteArray} (h:Y6 a b=true):a≠b:=fun e=>by rw[e,jh] at h;cases h
def Dc {a b:ByteArray} (h:Y6 a b=true):Y6 b a=false:=by
 cases e:Y6 b a with
 |false=>rfl
 |true=>have:=lt_trans h e;rw[jh] at this;cases this
def dP (ms:List Me):Prop:=ms.Pairwise fun a b=>Y6 a.name b.name=true
def bM (s:ByteArray):List Me->Option Nat
 |[]=>none
 |m::r=>if m.name=s then some 0 else(bM s r).map (·+1)
theorem ja {s:ByteArray}:∀{ms:List Me} {i:Nat},bM s ms=some i->∃m,ms[i]?=some m/\m.name=s
 |m::r,i,h=>by
  unfold bM at h;by_cases e:m.name=s
  ·rw[Mu e] at h;cases h;exact⟨m,rfl,e⟩
  ·rw[Mt e] at h;cases a:bM s r with
   |none=>rw[a] at h;cases h
   |some j=>rw[a] at h;cases h;obtain⟨d,b,c⟩:=ja a;exact⟨d,b,c⟩
theorem Cu {s:ByteArray}:∀{ms:List Me},bM s ms=none->∀m∈ms,m.name≠s
 |[],_=>fun m c=>by cases c
 |m::r,h=>by
  unfold bM at h;by_cases e:m.name=s
  ·rw[Mu e] at h;cases h
  ·rw[Mt e] at h;cases b:bM s r with
   |some j=>rw[b] at h;cases h
   |none =>
    intro x a;rcases Ly.1 a with rfl|a
    ·exact e
    ·exact Cu b x a
def lj {ms:List Me} (h:dP ms) {i j:Nat} {a b:Me} (hi:ms[i]?=some a) (f:ms[j]?=some b) (d:i<j):Y6 a.name b.name=true:=by
 obtain⟨c,rfl⟩:=Lx.1 hi;obtain⟨e,rfl⟩:=Lx.1 f;exact List.pairwise_iff_getElem.1 h i j c e d
def Bk {ms:List Me} (h:dP ms) {i:Nat} {m:Me} (b:ms[i]?=some m):bM m.name ms=some i:=by
 cases e:bM m.name ms with
 |none=>exact absurd rfl (Cu e m (MI b))
 |some j =>
  obtain⟨f,c,d⟩:=ja e;rcases Nat.lt_trichotomy i j with a|a|a
  ·have:=lj h b c a;rw[d,jh] at this;cases this
  ·rw[a]
  ·have:=lj h c b a;rw[d,jh] at this;cases this
def KH {ms:List Me} (h:∀i m p,0<i->ms[i]?=some m->ms[i-1]?=some p->Y6 p.name m.name=true):dP ms:=by
 have key:∀(d i:Nat) (a b:Me),ms[i]?=some a->ms[i+d+1]?=some b->Y6 a.name b.name=true:=by
  intro d
  induction d with
  |zero=>intro i a b e c;exact h (i+1) b a d9 c (by simpa using e)
  |succ d ih =>
   intro i a b e c;have l:=(Lx.1 c).1;obtain⟨x,f⟩:∃x,ms[i+d+1]?=some x:=⟨_,IS d9⟩;exact lt_trans (ih i a x e f) (h (i+(d+1)+1) b x d9 c (by rw[show i+(d+1)+1-1=i+d+1 by omega];exact f))
 refine List.pairwise_iff_getElem.2 fun i j hi k g=>?_;refine key (j-i-1) i _ _ (IS hi) ?_;rw[show i+(j-i-1)+1=j by omega];exact IS k
def Ap (N:Nat) (m:Me) (s:ByteArray):jV N m s=some (if Y6 m.name s=true then -1 else if m.name=s then 0 else 1):=by
 unfold jV uF cmp_isNaN_string;cases h:Y6 m.name s
 ·by_cases e:m.name=s<;>simp[e]
 ·simp
theorem xH (N:Nat) (ms:List Me) (s:ByteArray) (hl:ms.length<=1048576) (l:dP ms):∀(n:Nat) (a b:Nat),a<=b->b<=ms.length->b-a<n ->
  (∀i m,i<a->ms[i]?=some m->Y6 m.name s=true)->(∀i m,b<=i->ms[i]?=some m->Y6 m.name s=false) ->
  ∃v:Nat,w9 N ms s (fun o p=>jV N o p) n (a:Int) (b:Int)=some (v:Int)/\v<=ms.length /\
   (∀i m,i<v->ms[i]?=some m->Y6 m.name s=true)/\(∀i m,v<=i->ms[i]?=some m->Y6 m.name s=false)
 |0,a,b,_,_,h,_,_=>d9
 |n+1,a,b,t,r,D,q,f=>by
  rw[w9];by_cases u:a<b
  ·have c:(a:Int)<(b:Int):=d9;have A:wr ((a:Int)+(b:Int))=((a+b:Nat):Int):=by rw[u7 ino];omega
   have B:((a+b:Nat):Int) / 2=(((a+b) / 2:Nat):Int):=d9;have w3:decide (I1 ((((a+b) / 2:Nat):Int)))=true:=My ino;have C:wr ((((a+b) / 2:Nat):Int)+1)=(((a+b) / 2+1:Nat):Int):=by rw[u7 ino];omega
   have g:(a+b) / 2<ms.length:=d9;obtain⟨x,j⟩:∃x,ms[(a+b) / 2]?=some x:=⟨_,IS g⟩;have w5:(0:Int)<=((a+b:Nat):Int):=d9;have w:=Ap N x s;simp only[A,B,w3,C,w5,c,D9,j,w,Mv,Mr,A0];cases k:Y6 x.name s with
   |true =>
    simp only[if_true,show((-1:Int)<0)=True by simp,Mv,Mr,A0];refine xH N ms s hl l n _ b d9 r d9 (fun i m hi d=>?_) f;rcases Nat.lt_or_ge i ((a+b) / 2) with h|h
    ·exact lt_trans (lj l d j h) k
    ·have e:i=(a+b) / 2:=d9;subst e;rw[j] at d;cases d;exact k
   |false =>
    have hd:∀i m,(a+b) / 2<=i->ms[i]?=some m->Y6 m.name s=false:=by
     intro i m hi d;rcases Nat.lt_or_ge ((a+b) / 2) i with h|h
     ·cases y:Y6 m.name s with
      |false=>rfl
      |true=>have:=lt_trans (lj l j d h) y;rw[k] at this;cases this
     ·have e:i=(a+b) / 2:=d9;subst e;rw[j] at d;cases d;exact k
    have z:decide ((if false=true then(-1:Int) else if x.name=s then 0 else 1)<0)=false:=by
     by_cases e:x.name=s<;>simp[e]
    rw[z];simp only[Ms,A0];exact xH N ms s hl l n a _ d9 d9 d9 q hd
  ·have c:¬(a:Int)<(b:Int):=d9;simp only[c,Mw,Ms];have e:a=b:=d9;subst e;exact⟨a,rfl,r,q,f⟩
def Ai (N:Nat) (ms:List Me) (s:ByteArray) (y:1048577<=N) (hl:ms.length<=1048576) (l:dP ms) :
  ∃v:Nat,y8 N ms s (fun f g=>jV N f g)=some ((v:Int),(bM s ms).isSome)/\(∀i:Nat,bM s ms=some i->(v:Int)=i)/\v<=ms.length /\
   (∀i m,i<v->ms[i]?=some m->Y6 m.name s=true)/\(∀i m,v<=i->ms[i]?=some m->Y6 m.name s=false):=by
 obtain⟨v,w,o,k,n⟩:=xH N ms s hl l N 0 ms.length d9 d9 d9 (fun i m h=>absurd h d9) (fun i m h u=>by
  have:=(Lx.1 u).1;omega)
 refine⟨v,?_,?_,o,k,n⟩
 ·unfold y8;have q:w9 N ms s (fun f g=>jV N f g) N (0:Int) (ms.length:Int)=some (v:Int):=w;rw[q];simp only[A0];by_cases p:v<ms.length
  ·have c:(v:Int)<(ms.length:Int):=d9;obtain⟨x,d⟩:∃x,ms[v]?=some x:=⟨_,IS p⟩;have r:=n v x (It _) d;simp only[c,Mv,Mr,D9,d,A0,Ap,r];by_cases e:x.name=s
   ·have:=Bk l d;rw[e] at this;simp[e,this]
   ·cases hi:bM s ms with
    |none=>simp[e]
    |some i =>
     obtain⟨j,a,b⟩:=ja hi;rcases Nat.lt_trichotomy i v with h|h|h
     ·have:=k i j h a;rw[b,jh] at this;cases this
     ·subst h;rw[d] at a;cases a;exact absurd b e
     ·have:=lj l d a h;rw[b] at this;rw[r] at this;cases this
  ·have c:¬(v:Int)<(ms.length:Int):=d9;simp only[c,Mw,Ms,A0];cases hi:bM s ms with
   |none=>rfl
   |some i =>
    obtain⟨j,a,b⟩:=ja hi;have:=(Lx.1 a).1;have:=k i j d9 a;rw[b,jh] at this;cases this
 ·intro i hi;obtain⟨j,a,b⟩:=ja hi;have t:=(Lx.1 a).1;rcases Nat.lt_trichotomy i v with h|h|h
  ·have:=k i j h a;rw[b,jh] at this;cases this
  ·rw[h]
  ·obtain⟨x,d⟩:∃x,ms[v]?=some x:=⟨ms[v]' d9,IS d9⟩;have:=lj l d a h;rw[b] at this;rw[n v x (It _) d] at this;cases this
def ft (N:Nat) (ms:List Me) (s:ByteArray) (e:1048577<=N) (hl:ms.length<=1048576) (f:dP ms) :
  ∃v:Int,y8 N ms s (fun a b=>jV N a b)=some (v,(bM s ms).isSome)/\∀i:Nat,bM s ms=some i->v=i:=by
 obtain⟨v,c,d,_⟩:=Ai N ms s e hl f;exact⟨_,c,d⟩
def X5 (w:Wd) (s:ByteArray):Nat->Int->Option (Int×Int)
 |0,_=>none
 |n+1,c=>if 0<=c then(match w.a7[c.toNat]? with
  |some x=>(match bM s x.aC with|some i=>some (c,(i:Int))|none=>X5 w s n x.aV)
  |none=>none) else none
def l7 (w:Wd) (s:ByteArray) (c:Int):Int×Int:=(X5 w s (w.a7.length+1) c).getD (-1,-1)
def dX (w:Wd):Prop:=∀x∈w.a7,dP x.aC
def D6 (w:Wd):Prop:=w.a7.length<=1048576/\w.heap.length<=1048576/\(∀x∈w.a7,x.aC.length<=1048576/\∀m∈x.aC,m.code.length<=1048576)/\∀o∈w.heap,o.aI.length<=1048576
def EK {a:Type} (o:Option (Int×Int)) (s:a):H9 (Int×Int) a:=match o with|some p=>.ret p|none=>.next s
theorem zb (N:Nat) (w:Wd) (s:ByteArray) (m:1048577<=N) (o:dX w) (j:D6 w):∀(n:Nat) (k:Nat) (c:Int),k<=w.a7.length+1->w.a7.length+1-k<n ->
  n4 N w s n c (k:Int)=some (EK (X5 w s (w.a7.length+1-k) c) ())
 |0,k,c,_,h=>d9
 |n+1,k,c,t,u=>by
  rw[n4];by_cases a:0<=c
  ·by_cases d:c<w.a7.length
   ·obtain⟨x,p,f⟩:=de a d;by_cases r:k<=w.a7.length
    ·have b:(k:Int)<=(w.a7.length:Int):=d9;have g:=MI p;obtain⟨v,q,l⟩:=ft N x.aC s m (j.2.2.1 x g).1 (o x g);have e:w.a7.length+1-k=(w.a7.length+1-(k+1))+1:=d9;have wk:wr ((k:Int)+1)=((k+1:Nat):Int):=by rw[u7 (by have:=j.1;unfold I1;omega)];omega
     rw[e,X5];simp only[a,d,b,Mv,Mr,A0,f,q,p,if_true,wk];cases hi:bM s x.aC with
     |some i=>have:=l i hi;subst this;rfl
     |none =>
      simp only[Option.isSome_none,Ms];exact zb N w s m o j n (k+1) x.aV d9 d9
    ·have b:¬(k:Int)<=(w.a7.length:Int):=d9;have e:w.a7.length+1-k=0:=d9;simp only[a,d,b,Mv,Mw,Mr,Ms,A0,e];rfl
   ·have:X5 w s (w.a7.length+1-k) c=none:=by
     cases w.a7.length+1-k with
     |zero=>rfl
     |succ n=>rw[X5,Mu a,xw d]
    simp only[a,d,Mv,Mw,Mr,Ms,A0,this];rfl
  ·have:X5 w s (w.a7.length+1-k) c=none:=by
    cases w.a7.length+1-k with
    |zero=>rfl
    |succ n=>rw[X5,Mt a]
   simp only[a,Mw,Ms,A0,this];rfl
def lI (N:Nat) (w:Wd) (c:Int) (s:ByteArray) (e:1048578<=N) (d:dX w) (a:D6 w):fW N w c s=some (l7 w s c):=by
 unfold fW l7;have h:=zb N w s d9 d a N 0 c d9 (by have:=a.1;omega);have b:n4 N w s N c (0:Int)=some (EK (X5 w s (w.a7.length+1) c) ()):=h;rw[b];cases X5 w s (w.a7.length+1) c<;>rfl
def bj (w:Wd):Nat->Int->List Int
 |0,_=>[]
 |n+1,c=>if 0<=c then(match w.a7[c.toNat]? with|some x=>c::bj w n x.aV|none=>[]) else[]
theorem vJ (w:Wd):∀(n:Nat) (c:Int),(bj w n c).length<=n
 |0,_=>It _
 |n+1,c=>by
  rw[bj];split
  ·split
   ·have:=vJ w n;simp only[MB];exact Nat.succ_le_succ (this _)
   ·simp
  ·simp
theorem yT (w:Wd):∀(n:Nat) (c:Int),∀k∈bj w n c,0<=k/\k<w.a7.length
 |0,_,k,h=>by cases h
 |n+1,c,k,h=>by
  rw[bj] at h;split at h
  ·split at h
   ·rename_i a _ x b;rcases Ly.1 h with rfl|h
    ·exact⟨a,by have:=(Lx.1 b).1;omega⟩
    ·exact yT w n _ k h
   ·cases h
  ·cases h
theorem zd (N:Nat) (w:Wd) (j:w.a7.length<=1048576):∀(n:Nat) (c:Int) (a:List Int),a.length<=w.a7.length+1->w.a7.length+1-a.length<n ->
  ue N w n c a=some (a++bj w (w.a7.length+1-a.length) c)
 |0,c,a,_,h=>d9
 |n+1,c,a,m,o=>by
  rw[ue];by_cases b:0<=c
  ·by_cases f:c<w.a7.length
   ·obtain⟨x,k,g⟩:=de b f;by_cases l:a.length<=w.a7.length
    ·have d:(a.length:Int)<=(w.a7.length:Int):=d9;have e:w.a7.length+1-a.length=(w.a7.length+1-(a++[c]).length)+1:=M3;have i:IN ((a.length+[c].length)*8) 140737488355328=true:=G5 M3;rw[e,bj];simp only[b,f,d,Mv,Mr,A0,g,k,if_true,i];rw[zd N w j n x.aV (a++[c]) M3 M3];simp
    ·have d:¬(a.length:Int)<=(w.a7.length:Int):=d9;have e:w.a7.length+1-a.length=0:=d9;simp[b,f,d,e,bj]
   ·have:bj w (w.a7.length+1-a.length) c=[]:=by
     cases w.a7.length+1-a.length with
     |zero=>rfl
     |succ n=>rw[bj,Mu b,xw f]
    simp[b,f,this]
  ·have:bj w (w.a7.length+1-a.length) c=[]:=by
    cases w.a7.length+1-a.length with
    |zero=>rfl
    |succ n=>rw[bj,Mt b]
   simp[b,this]
def Gc (N:Nat) (w:Wd) (c:Int) (b:1048578<=N) (a:w.a7.length<=1048576):xJ N w c=some (bj w (w.a7.length+1) c):=by
 unfold xJ;rw[zd N w a N c [] l8 M3];rfl
def p8 (w:Wd) (c:Int):Int:=(bj w (w.a7.length+1) c).foldl (fun n k=>match w.a7[k.toNat]? with|some x=>wr (n+x.aI)|none=>n) 0
theorem AE (N:Nat) (w:Wd) (L:List Int) (d:∀k∈L,0<=k/\k<w.a7.length):∀(l:List Int) (k:Nat) (n:Int),l=L.drop k ->
  uY N w L l k n=some (l.foldl (fun n k=>match w.a7[k.toNat]? with|some x=>wr (n+x.aI)|none=>n) n)
 |[],k,n,_=>rfl
 |c::l,k,n,h=>by
  obtain⟨b,g,_⟩:=eK h;obtain⟨e,f⟩:=d c (MI b);obtain⟨x,i,a⟩:=de e f;rw[uY];simp only[D9,b,A0,a,List.foldl_cons,i];exact AE N w L d l (k+1) _ g
def kz (N:Nat) (w:Wd) (c:Int) (a:1048578<=N) (b:w.a7.length<=1048576):ow N w c=some (p8 w c):=by
 unfold ow p8;rw[Gc N w c a b];simp only[A0];rw[AE N w _ (yT w _ c) (bj w (w.a7.length+1) c) 0 0 rfl];rfl
theorem DG (w:Wd) (s:ByteArray):∀(n:Nat) (c:Int) (p:Int×Int),X5 w s n c=some p->0<=p.1/\0<=p.2/\∃x m,w.a7[p.1.toNat]?=some x/\x.aC[p.2.toNat]?=some m/\m.name=s
 |0,c,p,h=>by cases h
 |n+1,c,p,h=>by
  rw[X5] at h;by_cases a:0<=c
  ·rw[Mu a] at h;cases b:w.a7[c.toNat]? with
   |none=>rw[b] at h;cases h
   |some x =>
    rw[b] at h;simp only at h;cases hi:bM s x.aC with
    |none=>rw[hi] at h;exact DG w s n _ p h
    |some i =>
     rw[hi] at h;cases h;obtain⟨m,d,e⟩:=ja hi;exact⟨a,Int.natCast_nonneg _,x,m,b,d,e⟩
  ·rw[Mt a] at h;cases h
def rb {w:Wd} {s:ByteArray} {c:Int} (h:0<=(l7 w s c).2):∃x m,j4 w.a7 (l7 w s c).1=some x/\j4 x.aC (l7 w s c).2=some m/\m.name=s:=by
 unfold l7 at h⊢;cases a:X5 w s (w.a7.length+1) c with
 |none=>rw[a] at h;exact absurd h E5
 |some p =>
  obtain⟨b,d,x,m,g,e,f⟩:=DG w s _ c p a;exact⟨x,m,by rw[Option.getD_some,fE b,g],by rw[Option.getD_some,fE d,e],f⟩
def vr (p:Int×Int) (x:Ln):Int×Int:=if p.2<x.found\/(x.found=p.2/\0<p.2/\x.cls<p.1) then(x.cls,x.found) else p
def j7 (s:St) (l:List Tl):Int×Int:=l.foldl (fun p t=>if t.site=s then t.a7.foldl vr p else p) (-1,0)
def nL (n:Int) (x:Ln):Int:=wr (n+x.found)
def tU (s:St) (l:List Tl):Int:=l.foldl (fun n t=>if t.site=s then t.a7.foldl nL n else n) 0
theorem AQ (N:Nat):∀(l:List Ln) (k:Nat) (p:Int×Int),mq N l k p.1 p.2=some (l.foldl vr p)
 |[],k,p=>rfl
 |x::l,k,p=>by
  rw[mq,List.foldl_cons,<-AQ N l (k+1)];unfold vr;by_cases b:p.2<x.found
  ·simp[b]
  ·by_cases a:x.found=p.2
   ·by_cases c:0<p.2
    ·by_cases d:x.cls<p.1<;>simp[a,c,d]
    ·simp[a,c]
   ·simp[b,a]
theorem zf (N:Nat) (s:St):∀(l:List Tl) (k:Nat) (p:Int×Int),my N s l k p.1 p.2=some (l.foldl (fun p t=>if t.site=s then t.a7.foldl vr p else p) p)
 |[],k,p=>rfl
 |t::l,k,p=>by
  rw[my,List.foldl_cons,<-zf N s l (k+1)];by_cases h:t.site=s
  ·simp[h,im,AQ]
  ·simp[h,im]
def Gj (N:Nat) (l:List Tl) (s:St):sJ N l s=some (j7 s l):=by
 unfold sJ;rw[zf N s l 0 (-1,0)];rfl
theorem zo (N:Nat):∀(l:List Ln) (k:Nat) (n:Int),nI N l k n=some (l.foldl nL n)
 |[],k,n=>rfl
 |x::l,k,n=>by rw[nI,List.foldl_cons,zo N l (k+1)];rfl
theorem zm (N:Nat) (s:St):∀(l:List Tl) (k:Nat) (n:Int),nG N s l k n=some (l.foldl (fun n t=>if t.site=s then t.a7.foldl nL n else n) n)
 |[],k,n=>rfl
 |t::l,k,n=>by
  rw[nG,List.foldl_cons,<-zm N s l (k+1)];by_cases h:t.site=s
  ·simp[h,im,zo]
  ·simp[h,im]
def HE (N:Nat) (l:List Tl) (s:St):sW N l s=some (tU s l):=by
 unfold sW;rw[zm N s l 0 0];rfl
def aH (i:Ins):Bool:=decide (i.op=14) || decide (i.op=13)
def fU (m:Me):Bool:=decide (m.aX=0) && !m.code.any aH
def GC (N:Nat) (i:Ins):oo N i=some (aH i):=by
 unfold oo aH;by_cases h:i.op=14<;>simp[h]
theorem Br (N:Nat):∀(l:List Ins) (k:Nat),∃o,G7 N (fun a=>oo N a) l k=some o/\(match o with|.ret r=>0<=r/\l.any aH=true|.next ()=>l.any aH=false)
 |[],k=>⟨_,rfl,rfl⟩
 |x::l,k=>by
  rw[G7,GC];cases h:aH x with
  |true=>exact⟨_,rfl,by simp[h]⟩
  |false =>
   obtain⟨o,c,b⟩:=Br N l (k+1);refine⟨o,c,?_⟩;cases o with
   |ret r=>simpa[h] using b
   |next u=>simpa[h] using b
def wY (N:Nat) (m:Me):p6 N m=some (fU m):=by
 unfold p6 fU U5 V9;by_cases h:m.aX=0
 ·obtain⟨o,b,a⟩:=Br N m.code 0;rw[b];cases o with
  |ret r=>simp[h,a.1,a.2]
  |next u =>
   have a:m.code.any aH=false:=a;simp only[h,Mv,Mr,A0,a];rfl
 ·simp[h]
def EM (w:Wd) (f:Int×Int) (args:Int):Bool:=match j4 w.a7 f.1 with
 |some x=>(match j4 x.aC f.2 with|some m=>fU m && decide (m.args=args)|none=>false)
 |none=>false
def E3 (w:Wd) (t:List Tl) (s:St) (name:ByteArray) (args:Int):Int :=
 if(j7 s t).1<0\/tU s t<2\/wr (2*(j7 s t).2)<=tU s t then -1
 else if 0<=(l7 w name (j7 s t).1).2/\EM w (l7 w name (j7 s t).1) args=true then(j7 s t).1 else -1
def FV (N:Nat) (w:Wd) (t:List Tl) (s:St) (name:ByteArray) (args:Int) (g:1048578<=N) (j:dX w) (i:D6 w):s8 N w t s name args=some (E3 w t s name args):=by
 unfold s8 E3;rw[Gj,HE];simp only[A0];by_cases b:(j7 s t).1<0
 ·simp[b]
 by_cases c:tU s t<2
 ·simp[c]
 by_cases e:wr (2*(j7 s t).2)<=tU s t
 ·simp[b,c,e]
 simp only[b,c,e,Mw,Ms,A0,or_self,if_false];rw[lI N w _ name g j i];simp only[A0];by_cases d:0<=(l7 w name (j7 s t).1).2
 ·obtain⟨x,m,k,h,_⟩:=rb d;have a:¬(l7 w name (j7 s t).1).2<0:=d9;simp only[d,a,Mw,Ms,k,h,A0,wY,EM,true_and];cases l:fU m
  ·simp
  ·by_cases f:m.args=args<;>simp[f]
 ·have a:(l7 w name (j7 s t).1).2<0:=d9;simp[d,a]
theorem wS (N:Nat) (w:Wd) (t:List Tl) (c:Int) (m:Me) (b:1048578<=N) (e:dX w) (d:D6 w):∀(l:List Ins) (k:Nat) (a:List Int),a.length+l.length<=1048576 ->
  ∃r,mj N w t c m l k a=some r
 |[],k,a,_=>⟨_,rfl⟩
 |x::l,k,a,h=>by
  simp only[MB] at h;rw[mj,FV N w t _ _ _ b e d];simp only[A0];have g:∀n:Int,IN ((a.length+[n].length)*8) 140737488355328=true:=fun n=>G5 M3;by_cases f:x.op=14
  ·simp only[f,Mv,Mr,A0,g];exact wS N w t c m b e d l (k+1) _ M3
  ·simp only[f,Mw,Ms,A0,g,Mr];exact wS N w t c m b e d l (k+1) _ M3
def Fz (N:Nat) (w:Wd) (t:List Tl) (c k:Int) (j:1048578<=N) (p:dX w) (h:D6 w):∃r,nF N w t c k=some r:=by
 unfold nF;by_cases a:c<0
 ·simp[a]
 by_cases b:(w.a7.length:Int)<=c
 ·simp[a,b]
 by_cases d:k<0
 ·simp[a,b,d]
 obtain⟨x,q,g⟩:=de (l:=w.a7) (i:=c) d9 d9;by_cases f:(x.aC.length:Int)<=k
 ·simp[a,b,d,f,g]
 obtain⟨m,n,e⟩:=de (l:=x.aC) (i:=k) d9 d9;simp only[a,b,d,f,g,e,Mw,Ms,A0];obtain⟨r,o⟩:=wS N w t c m j p h m.code 0 [] (by
  have:=(h.2.2.1 x (MI q)).2 m (MI n);simpa using this)
 rw[o];exact⟨r,rfl⟩
def kP {d:Type} {b:Bool} {x y:Option d} (a:b=true->∃r,x=some r) (c:b=false->∃r,y=some r):∃r,(bif b then x else y)=some r:=by
 cases b
 ·exact c rfl
 ·exact a rfl
def vS {b e:Type} {x:Option b} {f:b->Option e} (d:∃a,x=some a) (c:∀a,x=some a->∃r,f a=some r):∃r,x.bind f=some r:=by
 obtain⟨a,rfl⟩:=d;exact c a rfl
def er (u:UInt8):Bool:=!decide ((u.toNat:Int)<33) && !decide (126<(u.toNat:Int))
def Y2 (s:ByteArray):Bool:=s.data.toList.all er && (decide (0<s.size) && decide (s.size<=12))
def Di (s:ByteArray) (k:Nat):lv s (k:Int)=s.data.toList[k]?:=by
 unfold lv;rw[My (Int.natCast_nonneg k)];show s[k]?=_;by_cases h:k<s.size
 ·rw[getElem?_pos s k h,IS (by simpa using h)];rfl
 ·rw[getElem?_neg s k h,MV (by simpa using h)]
theorem AP (N:Nat) (s:ByteArray):∀(n k:Nat),n+k=s.size->ud N s n k=some (if(s.data.toList.drop k).all er=true then .next () else .ret false)
 |0,k,h=>by
  rw[List.drop_eq_nil_of_le (by rw[show s.data.toList.length=s.size from rfl];omega)];rfl
 |n+1,k,h=>by
  have d:k<s.data.toList.length:=by rw[show s.data.toList.length=s.size from rfl];omega
  rw[ud,List.drop_eq_getElem_cons d,Di,IS d,AP N s n (k+1) d9];simp only[A0,List.all_cons];generalize s.data.toList[k]=u;generalize s.data.toList.drop (k+1)=b;by_cases a:(u.toNat:Int)<33
  ·have e:er u=false:=(by simp[er,a]);simp only[a,e,Mv,Mr,A0,Bool.false_and];rfl
  ·by_cases c:126<(u.toNat:Int)
   ·have e:er u=false:=(by simp only[er,a,c,Mv,Mw,M1,Bool.and_false]);simp only[a,c,e,Mv,Mw,Mr,Ms,A0,Bool.false_and];rfl
   ·have e:er u=true:=(by simp only[er,a,c,Mw,MJ,Bool.and_true]);simp only[a,c,e,Mw,Ms,A0,Bool.true_and]
def kE (N:Nat) (s:ByteArray):s9 N s=some (Y2 s):=by
 unfold s9 Y2;have e:((s.size:Int)-((0:Nat):Int)).toNat=s.size:=d9;rw[e,AP N s s.size 0 d9,List.drop_zero];cases h:s.data.toList.all er
 ·simp
 ·by_cases c:0<s.size
  ·by_cases d:s.size<=12
   ·have b:(0:Int)<(s.size:Int):=d9;have a:(s.size:Int)<=12:=d9;simp[c,d,a]
   ·have a:¬(s.size:Int)<=12:=d9;have b:(0:Int)<(s.size:Int):=d9;simp[d,a]
  ·have b:¬(0:Int)<(s.size:Int):=d9;simp[c]
def A9 (N:Nat) (w:Wd) (c:Int) (m:Me) (i:Ins) (b:1048578<=N) (d:w.a7.length<=1048576):∃r,M7 N w c m i=some r:=by
 unfold M7;simp only[kz N w c b d,kE]
 repeat (first|exact⟨_,rfl⟩|refine kP (fun _=>?_) (fun _=>?_)|refine vS ?_ (fun a _=>?_)|split)
def Fj (N:Nat) (w:Wd) (c:Int) (m:Me) (i:Ins) (h:M7 N w c m i=some 0) (e:i.op=14):0<=i.a/\i.a<=4:=by
 unfold M7 at h;simp only[e,kE,show((14:Int)=1)=False by decide,show((14:Int)=2)=False by decide,show((14:Int)=3)=False by decide,show((14:Int)=4)=False by decide,show((14:Int)=5)=False by decide,show((14:Int)=6)=False by decide,show((14:Int)=7)=False by decide,show((14:Int)=8)=False by decide,show((14:Int)=9)=False by decide,show((14:Int)=10)=False by decide,show((14:Int)=11)=False by decide,show((14:Int)=12)=False by decide,show((14:Int)=13)=False by decide,show((14:Int)=17)=False by decide,Mv,Mw,Mr,Ms,A0] at h;by_cases b:i.a<0
 ·simp[b] at h
 ·by_cases d:4<i.a
  ·simp[b,d] at h
  ·omega
def lY (m:Me):Prop:=∀i∈m.code,i.op=14->0<=i.a/\i.a<=4
def U3 (i:Ins) (p:Int):Int×Int×List Int :=
 if i.op=9\/i.op=11\/i.op=12 then(1,-1,[wr (p+1)]) else if i.op=10 then(1,1,[wr (p+1)])
 else if i.op=14 then(wr (i.a+1),-i.a,[wr (p+1)]) else if i.op=15 then(0,0,[i.a])
 else if i.op=16 then(1,-1,[wr (p+1),i.a]) else if i.op=17 then(1,-1,[]) else(0,1,[wr (p+1)])
def yN (i:Ins) (p:Int):(U3 i p).2.2.length<=2:=by
 unfold U3
 (repeat' split)<;>simp
def GR (N:Nat) (i:Ins) (p:Int) (h:i.op=14->0<=i.a/\i.a<=4):x6 N i p=some (U3 i p):=by
 unfold x6 U3;by_cases c:i.op=9
 ·simp[c]
 by_cases d:i.op=11
 ·simp[d]
 by_cases f:i.op=12
 ·simp[f]
 by_cases g:i.op=10
 ·simp[g]
 by_cases b:i.op=14
 ·have:=h b;have e:decide (I1 (-i.a))=true:=My ino;simp only[b,e,Mv,Mr,show((14:Int)=9)=False by decide,show((14:Int)=11)=False by decide,show((14:Int)=12)=False by decide,show((14:Int)=10)=False by decide,Mw,Ms,A0,or_self,if_false,if_true]
 by_cases j:i.op=15
 ·simp[j]
 by_cases k:i.op=16
 ·simp[k]
 by_cases l:i.op=17
 ·simp[l]
 simp[c,d,f,g,b,j,k,l]
def uM {i:Ins} {p:Int} {x:Int} (l:0<=x) (k:x<=12) (c:¬x<(U3 i p).1) (b:¬12<wr (x+(U3 i p).2.1)) (hi:i.op=14->0<=i.a/\i.a<=4) :
  0<=wr (x+(U3 i p).2.1)/\wr (x+(U3 i p).2.1)<=12/\wr (x+(U3 i p).2.1)=x+(U3 i p).2.1:=by
 unfold U3 at c b⊢;split at c
 ·rename_i e;simp only[e,if_true] at b⊢;rw[u7 ino];omega
 ·rename_i e;simp only[e,if_false] at b⊢;split at c
  ·rename_i f;simp only[f,if_true] at b⊢;rw[u7 ino] at b⊢;omega
  ·rename_i f;simp only[f,if_false] at b⊢;split at c
   ·rename_i d;have hi:=hi d;simp only[d,if_true] at b⊢;simp only at c;rw[u7 ino] at c b⊢;omega
   ·rename_i d;simp only[d,if_false] at b⊢;split at c
    ·rename_i g;simp only[g,if_true] at b⊢;rw[u7 ino] at b⊢;omega
    ·rename_i g;simp only[g,if_false] at b⊢;split at c
     ·rename_i h;simp only[h,if_true] at b⊢;rw[u7 ino] at b⊢;omega
     ·rename_i h;simp only[h,if_false] at b⊢;split at c
      ·rename_i j;simp only[j,if_true] at b⊢;rw[u7 ino] at b⊢;omega
      ·rename_i j;simp only[j,if_false] at b⊢;rw[u7 ino] at b⊢;omega
theorem A7 (N:Nat):∀(n k:Nat) (v:List Int),n+k=v.length->rJ N n k v=some (v.take k++MC n (-1))
 |0,k,v,h=>by rw[rJ,List.take_of_length_le d9];simp
 |n+1,k,v,h=>by
  have a:k<v.length:=d9;rw[rJ,D9,IS a];simp only[A0,MX];rw[A7 N n (k+1) _ M3];congr 1;rw[List.take_add_one,List.take_set_of_le (It _),List.getElem?_set_self a,List.replicate_succ];simp
theorem A6 (N:Nat) (x:Int) (r:Int×Int×List Int):∀(l:List Int) (k:Nat) (a b:List Int),l=r.2.2.drop k->a.length+l.length<=17592186044416->b.length+l.length<=17592186044416 ->
  rF N x r l k a b=some (a++l,b++MC l.length (wr (x+r.2.1)))
 |[],k,a,b,_,_,_=>by simp[rF]
 |y::l,k,a,b,h,ha,hb=>by
  obtain⟨d,e,_⟩:=eK h;simp only[MB] at ha hb;rw[rF];have e1:IN ((a.length+[y].length)*8) 140737488355328=true:=G5 M3;have c:IN ((b.length+[wr (x+r.2.1)].length)*8) 140737488355328=true:=G5 M3;simp only[D9,d,A0,e1,c,Mr];rw[A6 N x r l (k+1) _ _ e M3 M3];simp[List.replicate_succ]
def kV (h:List Int):Nat:=h.countP fun x=>decide (x<0)
def xN {h:List Int} {i:Nat} {x y:Int} (hi:h[i]?=some x) (b:x<0) (c:0<=y):kV (h.set i y)+1=kV h:=by
 induction h generalizing i with
 |nil=>simp at hi
 |cons a h ih =>
  cases i with
  |zero =>
   simp only[Mq,Option.some.injEq] at hi;subst hi;have:¬y<0:=d9;simp[kV,b,this]
  |succ i =>
   have:=ih (i:=i) (by simpa using hi);simp only[kV,List.set_cons_succ,List.countP_cons] at this⊢;omega
def cC (m:Me):Nat->List Int->List (Int×Int)->Option (H9 (List Int×dA) (List Int))
 |0,_,_=>none
 |_+1,h,[]=>some (.next h)
 |n+1,h,(p,x)::r =>
  if(m.code.length:Int)<=p\/p<0 then some (.ret ([],⟨9,m.code.length⟩)) else
  match h[p.toNat]?,m.code[p.toNat]? with
  |some y,some i =>
   if 0<=y then(if y=x then cC m n h r else some (.ret ([],⟨8,p⟩)))
   else if x<(U3 i p).1\/(i.op=17/\x≠1) then some (.ret ([],⟨8,p⟩))
   else if 12<wr (x+(U3 i p).2.1) then some (.ret ([],⟨4,p⟩))
   else cC m n (h.set p.toNat x) (r++(U3 i p).2.2.map fun q=>(q,wr (x+(U3 i p).2.1)))
  |_,_=>none
def ki (l:List (Int×Int)):Prop:=∀q∈l,0<=q.2/\q.2<=12
theorem vP (m:Me) (d:lY m):∀(n:Nat) (h:List Int) (l:List (Int×Int)),h.length=m.code.length->ki l->l.length+3*kV h<n->∃r,cC m n h l=some r
 |0,h,l,_,_,o=>d9
 |n+1,h,[],_,_,_=>⟨_,rfl⟩
 |n+1,h,(p,x)::r,hh,hl,o=>by
  rw[cC];simp only[MB] at o;have e:=hl (p,x) l8;have t:ki r:=fun q a=>hl q (by simp[a]);by_cases g:(m.code.length:Int)<=p\/p<0
  ·rw[Mu g];exact⟨_,rfl⟩
  rw[Mt g];have s:p.toNat<m.code.length:=d9;have e1:h[p.toNat]?=some (h[p.toNat]' d9):=IS d9;have f:m.code[p.toNat]?=some m.code[p.toNat]:=IS s;generalize h[p.toNat]' d9=y at e1;have hi:=d _ (List.getElem_mem s);generalize m.code[p.toNat]=i at f hi;rw[e1,f];simp only;by_cases j:0<=y
  ·rw[Mu j];by_cases b:y=x
   ·rw[Mu b];exact vP m d n h r hh t d9
   ·rw[Mt b];exact⟨_,rfl⟩
  rw[Mt j];by_cases b:x<(U3 i p).1\/(i.op=17/\x≠1)
  ·rw[Mu b];exact⟨_,rfl⟩
  rw[Mt b];by_cases c:12<wr (x+(U3 i p).2.1)
  ·rw[Mu c];exact⟨_,rfl⟩
  rw[Mt c];have k:=uM e.1 e.2 (fun h=>b (MA h)) c hi;have v:=xN (y:=x) e1 d9 e.1;have u:=yN i p;refine vP m d n _ _ (by simpa using hh) (fun q a=>?_) M3;rcases MN.1 a with a|a
  ·exact t q a
  ·obtain⟨z,_,rfl⟩:=MM.1 a;exact⟨k.1,k.2.1⟩
theorem wA (N:Nat) (m:Me) (C:lY m) (I:m.code.length<=1048576):∀(n:Nat) (h:List Int) (b c:List Int) (k:Nat),b.length=c.length->k<=b.length->b.length+2*kV h<=4194304->h.length=m.code.length ->
  ki ((b.drop k).zip (c.drop k))->rH N m n h b c (k:Int)=cC m n h ((b.drop k).zip (c.drop k))
 |0,_,_,_,_,_,_,_,_,_=>rfl
 |n+1,h,b,c,k,hl,T,O,J,K=>by
  rw[rH];by_cases s:k<b.length
  ·have d:(k:Int)<(b.length:Int):=d9;have f:k<c.length:=d9;have D:b[k]?=some b[k]:=IS s;have E:c[k]?=some c[k]:=IS f;have l:(b.drop k).zip (c.drop k)=(b[k],c[k])::(b.drop (k+1)).zip (c.drop (k+1)):=by
    rw[List.drop_eq_getElem_cons s,List.drop_eq_getElem_cons f];rfl
   have v:=K (b[k],c[k]) (by rw[l];simp);have M:ki ((b.drop (k+1)).zip (c.drop (k+1))):=fun q e=>K q (by rw[l];simp[e]);have wk:wr ((k:Int)+1)=((k+1:Nat):Int):=by rw[u7 ino];omega
   rw[l,cC];generalize U:b[k]=p at D v;generalize Q:c[k]=x at E v;simp only[d,Mv,Mr,D9,D,E,A0,wk];by_cases B:(m.code.length:Int)<=p
   ·simp only[B,Mv,Mr,A0,true_or,if_true]
   by_cases o:p<0
   ·simp only[B,o,Mv,Mw,Mr,Ms,A0,or_true,if_true]
   simp only[B,o,Mw,Ms,A0,or_self,if_false];have u:p.toNat<m.code.length:=d9;have t:0<=p:=d9;have e1:h[p.toNat]?=some (h[p.toNat]' d9):=IS d9;have A:m.code[p.toNat]?=some m.code[p.toNat]:=IS u;generalize h[p.toNat]' d9=y at e1;have hi:=C _ (List.getElem_mem u);generalize m.code[p.toNat]=i at A hi;have R:j4 h p=some y:=by rw[fE t,e1]
   have S:j4 m.code p=some i:=(by rw[fE t,A]);simp only[R,S,e1,A,A0,GR N i p hi];by_cases G:0<=y
   ·simp only[G,Mv,Mr,if_true];by_cases g:y=x
    ·simp only[g,Mv,M1,Ms,A0,if_true];exact wA N m C I n h b c (k+1) hl d9 O J M
    ·simp only[g,Mw,MJ,Mr,A0,if_false]
   simp only[G,Mw,Ms,if_false];by_cases g:x<(U3 i p).1
   ·simp only[g,Mv,Mr,A0,true_or,if_true]
   by_cases w:i.op=17/\x≠1
   ·simp only[g,w.1,w.2,Mv,Mw,Mr,Ms,A0,MJ,or_true,if_true,ne_eq,not_false_eq_true,and_self]
   have e:((bif decide (i.op=(17:Int)) then some ((!decide (x=(1:Int)))) else some (false)):Option Bool)=some false:=by
    by_cases j:i.op=17
    ·by_cases H:x=1
     ·simp[H]
     ·exact absurd ⟨j,H⟩ w
    ·simp[j]
   simp only[g,w,e,Mw,Ms,A0,or_self,if_false];by_cases j:12<wr (x+(U3 i p).2.1)
   ·simp only[j,Mv,Mr,A0,if_true]
   simp only[j,Mw,Ms,if_false];have r:=uM v.1 v.2 g j hi;have V:=xN (y:=x) e1 d9 v.1;have P:=yN i p;rw[A6 N x (U3 i p) (U3 i p).2.2 0 b c rfl d9 d9];simp only[A0];have F:((b++(U3 i p).2.2).drop (k+1)).zip ((c++MC (U3 i p).2.2.length (wr (x+(U3 i p).2.1))).drop (k+1)) =
     (b.drop (k+1)).zip (c.drop (k+1))++(U3 i p).2.2.map fun q=>(q,wr (x+(U3 i p).2.1)):=by
    rw[List.drop_append_of_le_length d9,List.drop_append_of_le_length d9,List.zip_append M3];congr 1;generalize (U3 i p).2.2=L
    induction L with
    |nil=>rfl
    |cons a L ih=>simp[List.replicate_succ,ih]
   rw[wA N m C I n _ _ _ (k+1) M3 M3 M3 (by simpa using J) (by
    rw[F];intro q e;rcases MN.1 e with e|e
    ·exact M q e
    ·obtain⟨z,_,rfl⟩:=MM.1 e;exact⟨r.1,r.2.1⟩),F]
  ·have d:¬(k:Int)<(b.length:Int):=d9;have l:(b.drop k).zip (c.drop k)=[]:=by rw[List.drop_eq_nil_of_le d9];rfl
   rw[l,cC];simp only[d,Mw,Ms]
def qU (o:H9 (List Int×dA) (List Int)):List Int×dA:=match o with|.ret r=>r|.next h=>(h,⟨0,0⟩)
def uW (n:Nat):kV (MC n (-1))=n:=by
 induction n with
 |zero=>rfl
 |succ n ih=>simp only[kV,List.replicate_succ,List.countP_cons] at ih⊢;rw[ih];rfl
def AH (N:Nat) (m:Me) (d:lY m) (c:m.code.length<=1048576):uc N m=(cC m N (MC m.code.length (-1)) [(0,0)]).map qU:=by
 unfold uc;have e0:(decide (0<=(m.code.length:Int)) && decide ((m.code.length:Int)<=140737488355328) && decide ((m.code.length:Int)*8<=140737488355328))=true:=by
  simp only[IT,Mz];omega
 have e1:(((MC (m.code.length:Int).toNat (0:Int)).length:Int)-((0:Nat):Int)).toNat=m.code.length:=l8;rw[e0,e1,A7 N _ 0 _ l8];simp only[Mr,A0,List.take_zero,List.nil_append];have h:=wA N m d c N (MC m.code.length (-1)) [0] [0] 0 rfl l8 (by rw[uW];simp;omega) l8 (by
  intro q a;simp only[List.drop_zero,List.zip_cons_cons,List.zip_nil_right,Ly,List.not_mem_nil,or_false] at a;subst a;decide)
 have b:rH N m N (MC m.code.length (-1)) [(0:Int)] [(0:Int)] (0:Int)=cC m N (MC m.code.length (-1)) [(0,0)]:=h;rw[b];cases cC m N (MC m.code.length (-1)) [(0,0)] with
 |none=>rfl
 |some o=>cases o<;>rfl
def Fg (N:Nat) (m:Me) (e:4194304<=N) (a:lY m) (c:m.code.length<=1048576):∃r,uc N m=some r:=by
 rw[AH N m a c];obtain⟨o,d⟩:=vP m a N (MC m.code.length (-1)) [(0,0)] l8 (by
  intro q b;simp only[Ly,List.not_mem_nil,or_false] at b;subst b;decide) (by rw[uW];simp;omega)
 rw[d];exact⟨_,rfl⟩
theorem w8 (N:Nat) (w:Wd) (c:Int) (m:Me) (a:1048578<=N) (d:w.a7.length<=1048576):∀(l:List Ins) (k:Nat),∃o,kB N w c m l k=some o/\(o=.next ()->∀i∈l,M7 N w c m i=some 0)
 |[],k=>⟨_,rfl,fun _ i hi=>by cases hi⟩
 |x::l,k=>by
  obtain⟨r,b⟩:=A9 N w c m x a d;rw[kB,b];simp only[A0];by_cases h:r=0
  ·subst h;simp only[Mv,M1,Ms];obtain⟨o,f,g⟩:=w8 N w c m a d l (k+1);refine⟨o,f,fun e i hi=>?_⟩;rcases Ly.1 hi with rfl|hi
   ·exact b
   ·exact g e i hi
  ·simp only[h,Mw,MJ,Mr];exact⟨_,rfl,fun e=>by cases e⟩
def AK (N:Nat) (w:Wd) (c:Int) (m:Me) (e:4194304<=N) (k:w.a7.length<=1048576) (g:m.code.length<=1048576):∃f,kG N w c m=some f:=by
 unfold kG;simp only[kE,A0];refine vS ?_ fun a _=>?_
 ·repeat (first|exact⟨_,rfl⟩|refine kP (fun _=>?_) (fun _=>?_))
 refine kP (fun _=>⟨_,rfl⟩) fun _=>?_;refine kP (fun _=>⟨_,rfl⟩) fun _=>?_;refine vS ?_ fun a _=>?_
 ·repeat (first|exact⟨_,rfl⟩|refine kP (fun _=>?_) (fun _=>?_))
 refine kP (fun _=>⟨_,rfl⟩) fun _=>?_;refine kP (fun _=>⟨_,rfl⟩) fun _=>?_;refine vS ?_ fun a _=>?_
 ·repeat (first|exact⟨_,rfl⟩|refine kP (fun _=>?_) (fun _=>?_))
 refine kP (fun _=>⟨_,rfl⟩) fun _=>?_;obtain⟨o,b,d⟩:=w8 N w c m d9 k m.code 0;rw[b];simp only[A0];cases o with
 |ret r=>exact⟨_,rfl⟩
 |next u =>
  obtain⟨r,j⟩:=Fg N m e (fun i hi h=>Fj N w c m i (d rfl i hi) h) g;simp only[j,A0];exact⟨_,rfl⟩
def Good (x:Option (H9 Int Unit)) (P:Prop):Prop:=∃o,x=some o/\(∀r,o=.ret r->r≠0)/\(o=.next ()->P)
theorem Good.ret {r:Int} {P:Prop} (h:r≠0):Good (some (.ret r)) P:=⟨.ret r,rfl,(fun r e=>by cases e;exact h),fun e=>by cases e⟩
theorem Good.next {P:Prop} (h:P):Good (some (.next ())) P:=⟨.next (),rfl,(fun r e=>by cases e),fun _=>h⟩
theorem Good.bind {x:Option (H9 Int Unit)} {P Q:Prop} {y:Option (H9 Int Unit)} (h:Good x P) (c:P->Good y Q):Good (x.bind fun o=>match o with|.ret r=>some (.ret r)|.next ()=>y) Q:=by
 obtain⟨o,rfl,a,b⟩:=h;cases o with
 |ret r=>exact Good.ret (a r rfl)
 |next u=>exact c (b rfl)
theorem Good.imp {x:Option (H9 Int Unit)} {P Q:Prop} (h:Good x P) (d:P->Q):Good x Q:=by
 obtain⟨o,a,b,c⟩:=h;exact⟨o,a,b,fun e=>d (c e)⟩
theorem BA (N:Nat) (x:Cl):∀(l:List Cl) (k:Nat),Good (k8 N x l k) (∀d∈l,d.name≠x.name)
 |[],k=>Good.next fun d hd=>by cases hd
 |d::l,k=>by
  rw[k8];by_cases h:d.name=x.name
  ·simp only[h,Mv,Mr];exact Good.ret E5
  ·simp only[h,Mw,Ms];exact(BA N x l (k+1)).imp fun hl e a=>by
    rcases Ly.1 a with rfl|a
    ·exact h
    ·exact hl e a
def lf (w:Wd) (k:Nat) (c:Cl):Prop:=Y2 c.name=true/\(∀d∈w.a7.take k,d.name≠c.name) /\
 (k<4->∃f,N8.a7[k]?=some f/\c.name=f.name/\c.aV=f.aV/\c.aI=0) /\
 (4<=k->0<=c.aV/\c.aV<k/\(0<c.aV->4<=c.aV))/\0<=c.aI/\c.aI<=6
theorem BD (N:Nat) (w:Wd):∀(l:List Cl) (k:Nat),l=w.a7.drop k->Good (Z5 N w N8 l k) (∀j c,k<=j->w.a7[j]?=some c->lf w j c)
 |[],k,h=>Good.next fun j c p q=>by
   have D:=(Lx.1 q).1;have E:=List.drop_eq_nil_iff.1 h.symm;omega
 |c::l,k,h=>by
  obtain⟨q,hl,n⟩:=eK h;have n:=of_decide_eq_true n;rw[Z5,kE];simp only[A0];cases v:Y2 c.name with
  |false=>simp only[MJ,Mr,A0];exact Good.ret E5
  |true =>
   simp only[M1,Ms];have z:(decide (0<=(k:Int)) && decide ((k:Int)<=(w.a7.length:Int)))=true:=by simp only[IT,Mz];omega
   have step:∀(P:Prop) (y:Option (H9 Int Unit)),((∀d∈w.a7.take k,d.name≠c.name)->Good y P) ->
     Good ((bif (decide (0<=(k:Int)) && decide ((k:Int)<=(w.a7.length:Int))) then((k8 N c (w.a7.take (k:Int).toNat) 0).bind fun o=>match o with|.ret r=>some (.ret r)|.next ()=>y) else none)) P:=by
    intro P y C;rw[z];exact(BA N c _ 0).bind fun hd=>C (by simpa using hd)
   have g:∀(P:Prop),lf w k c->Good (Z5 N w N8 l (k+1)) (∀j c,k<=j->w.a7[j]?=some c->lf w j c):=fun _ A =>
    (BD N w l (k+1) hl).imp fun ih j d p hd=>by
     rcases Nat.eq_or_lt_of_le p with rfl|p
     ·rw[q] at hd;cases hd;exact A
     ·exact ih j d p hd
   by_cases x:k<4
   ·have i:(k:Int)<4:=d9;obtain⟨f,u⟩:∃f,N8.a7[k]?=some f:=⟨_,IS (by simpa[N8] using x)⟩;simp only[i,Mv,Mr,D9,u,A0];by_cases s:c.name=f.name
    ·simp only[s,Mv,M1,Ms];refine step _ _ fun hd=>?_;by_cases b:c.aV=f.aV
     ·simp only[b,Mv,M1,Ms,A0];by_cases e:c.aI<0
      ·simp only[e,Mv,Mr,A0];exact Good.ret E5
      ·by_cases a:0<c.aI
       ·simp only[e,a,Mv,Mw,Mr,Ms,A0];exact Good.ret E5
       ·simp only[e,a,Mw,Ms,A0];exact g True ⟨v,hd,fun _=>⟨f,u,s,b,d9⟩,fun h=>d9,d9,d9⟩
     ·simp only[b,Mw,MJ,Mr,A0];exact Good.ret E5
    ·simp only[s,Mw,MJ,Mr];exact Good.ret E5
   ·have i:¬(k:Int)<4:=d9;simp only[i,Mw,Ms,A0];refine step _ _ fun hd=>?_;by_cases b:c.aV<0
    ·simp only[b,Mv,Mr,A0];exact Good.ret E5
    by_cases e:(k:Int)<=c.aV
    ·simp only[b,e,Mv,Mw,Mr,Ms,A0];exact Good.ret E5
    have tail:(0<c.aV->4<=c.aV)->Good (((bif decide (c.aI<(0:Int)) then some (true) else some (decide ((6:Int)<c.aI))):Option Bool).bind fun t=>(bif t then some (.ret (3:Int)) else Z5 N w N8 l (k+1))) (∀j c,k<=j->w.a7[j]?=some c->lf w j c):=by
     intro B;by_cases a:c.aI<0
     ·simp only[a,Mv,Mr,A0];exact Good.ret E5
     ·by_cases m:6<c.aI
      ·simp only[a,m,Mv,Mw,Mr,Ms,A0];exact Good.ret E5
      ·simp only[a,m,Mw,Ms,A0];exact g True ⟨v,hd,fun h=>d9,fun _=>⟨d9,d9,B⟩,d9,d9⟩
    by_cases a:0<c.aV
    ·by_cases m:c.aV<4
     ·simp only[b,e,a,m,Mv,Mw,Mr,Ms,A0];exact Good.ret E5
     ·simp only[b,e,a,m,Mv,Mw,Mr,Ms,A0];exact tail fun _=>d9
    ·simp only[b,e,a,Mw,Ms,A0];exact tail fun h=>absurd h a
def nr (k:Nat) (m:Me):Prop:=k=3/\∃p∈bx,p.name=m.name/\p.aX=m.aX/\m.args=1/\m.a8=0/\m.code=[]
theorem wb (N:Nat) (k:Nat) (m:Me):∀(l:List Me) (j:Nat) (b:Bool),(∀p∈l,p∈bx)->(b=true->nr k m)->∃t,O6 N k m l j b=some t/\(t=true->nr k m)
 |[],j,b,_,s=>⟨b,rfl,s⟩
 |p::l,j,b,hl,s=>by
  rw[O6];have go:=wb N k m l (j+1);have d:∀p∈l,p∈bx:=fun q u=>hl q (by simp[u]);cases b with
  |true=>simp only[Mr,A0];exact go true d (fun _=>s rfl)
  |false =>
   have f:=go false d (fun h=>by cases h);simp only[Ms];by_cases a:(k:Int)=3
   ·by_cases c:p.name=m.name
    ·by_cases g:p.aX=m.aX
     ·by_cases i:m.args=1
      ·by_cases n:m.a8=0
       ·by_cases o:m.code=[]
        ·simp only[a,c,g,i,n,o,Mv,Mr,A0];exact go _ d fun _=>⟨d9,p,hl p l8,c,g,i,n,o⟩
        ·have r:¬(m.code.length:Int)=0:=fun e=>o (Ma d9);simp only[a,c,g,i,n,r,Mv,Mw,Mr,A0];exact f
       ·simp only[a,c,g,i,n,Mv,Mw,Mr,Ms,A0];exact f
      ·simp only[a,c,g,i,Mv,Mw,Mr,Ms,A0];exact f
     ·simp only[a,c,g,Mv,Mw,Mr,Ms,A0];exact f
    ·simp only[a,c,Mv,Mw,Mr,Ms,A0];exact f
   ·simp only[a,Mw,Ms,A0];exact f
def lz (N:Nat) (w:Wd) (k:Nat) (m:Me):Prop:=nr k m\/∃f,kG N w (k:Int) m=some f/\f.err=0
theorem Ax (N:Nat) (w:Wd) (k:Nat) (c:Cl) (D:4194304<=N) (y:D6 w) (B:c∈w.a7):∀(l:List Me) (j:Nat),l=c.aC.drop j ->
  Good (Z7 N w N8 k c l j) (∀i m,j<=i->c.aC[i]?=some m->lz N w k m/\∀p,0<i->c.aC[i-1]?=some p->Y6 p.name m.name=true)
 |[],j,h=>Good.next fun i m v x=>by
   have K:=(Lx.1 x).1;have L:=List.drop_eq_nil_iff.1 h.symm;omega
 |m::l,j,h=>by
  obtain⟨x,hl,o⟩:=eK h;have o:=of_decide_eq_true o;have I:=(y.2.2.1 c B).1;rw[Z7];have G:j4 N8.a7 3=some ⟨⟨#[73,110,116]⟩,0,0,bx⟩:=rfl;have C:=(y.2.2.1 c B).2 m (MI x);obtain⟨b,z,A⟩:=wb N k m bx 0 false (fun p a=>a) (fun h=>by cases h);obtain⟨f,E⟩:=AK N w (k:Int) m D y.1 C;have tail:(∀p,0<j->c.aC[j-1]?=some p->Y6 p.name m.name=true)->Good ((j4 N8.a7 (3:Int)).bind fun t=>((O6 N k m t.aC 0 false).bind fun r=>((kG N w (k:Int) m).bind fun e=>(((bif (!r) then some ((!decide (e.err=(0:Int)))) else some (false)):Option Bool).bind fun s=>(bif s then some (.ret e.err) else Z7 N w N8 k c l (j+1))))))
    (∀i m,j<=i->c.aC[i]?=some m->lz N w k m/\∀p,0<i->c.aC[i-1]?=some p->Y6 p.name m.name=true):=by
   intro a;have g:lz N w k m->Good (Z7 N w N8 k c l (j+1)) (∀i m,j<=i->c.aC[i]?=some m->lz N w k m/\∀p,0<i->c.aC[i-1]?=some p->Y6 p.name m.name=true):=fun H =>
    (Ax N w k c D y B l (j+1) hl).imp fun ih i d v hd=>by
     rcases Nat.eq_or_lt_of_le v with rfl|v
     ·rw[x] at hd;cases hd;exact⟨H,a⟩
     ·exact ih i d v hd
   rw[G];simp only[A0,z,E];cases b with
   |true=>simp only[M1,Ms,A0];exact g (MA (A rfl))
   |false =>
    simp only[MJ,Mr,A0];by_cases u:f.err=0
    ·simp only[u,Mv,M1,Ms];exact g (Or.inr ⟨f,E,u⟩)
    ·simp only[u,Mw,MJ,Mr];exact Good.ret u
  by_cases F:0<j
  ·have n:(0:Int)<(j:Int):=d9;have wk:wr ((j:Int)-1)=((j-1:Nat):Int):=by rw[u7 ino];omega
   obtain⟨p,a⟩:∃p,c.aC[j-1]?=some p:=⟨_,IS d9⟩;simp only[n,Mv,Mr,wk,D9,a,A0];cases J:Y6 p.name m.name with
   |true=>simp only[M1,Ms];exact tail fun M _ q=>by rw[a] at q;cases q;exact J
   |false=>simp only[MJ,Mr];exact Good.ret E5
  ·have n:¬(0:Int)<(j:Int):=d9;simp only[n,Mw,Ms,A0];exact tail fun p a=>absurd a F
theorem BB (N:Nat) (w:Wd) (r:4194304<=N) (q:D6 w):∀(l:List Cl) (k:Nat),l=w.a7.drop k ->
  Good (ky N w N8 l k) (∀j c,k<=j->w.a7[j]?=some c->p8 w (j:Int)<=6/\c.aC.length<=8/\dP c.aC/\∀m∈c.aC,lz N w j m)
 |[],k,h=>Good.next fun j c e b=>by
   have a:=(Lx.1 b).1;have f:=List.drop_eq_nil_iff.1 h.symm;omega
 |c::l,k,h=>by
  obtain⟨b,hl,t⟩:=eK h;rw[ky,kz N w _ d9 q.1];simp only[A0];by_cases a:6<p8 w (k:Int)
  ·simp only[a,Mv,Mr];exact Good.ret E5
  by_cases f:(8:Int)<(c.aC.length:Int)
  ·simp only[a,f,Mv,Mw,Mr,Ms];exact Good.ret E5
  simp only[a,f,Mw,Ms];refine(Ax N w k c r q (MI b) c.aC 0 rfl).bind fun s=>?_;refine(BB N w r q l (k+1) hl).imp fun ih j d e hd=>?_;rcases Nat.eq_or_lt_of_le e with rfl|e
  ·rw[b] at hd;cases hd;refine⟨d9,d9,KH fun i m p hi g o=>(s i m d9 g).2 p hi o,fun m n=>?_⟩;obtain⟨i,hi⟩:=Mn.1 n;exact(s i m d9 hi).1
  ·exact ih j d e hd
theorem B1 (N:Nat) (w:Wd):∀(l:List V) (k:Nat),Good (k9 N w l k) (∀v∈l,ch v (w.heap.length:Int)=0)
 |[],k=>Good.next fun v b=>by cases b
 |v::l,k=>by
  rw[k9,wW];simp only[A0];by_cases h:ch v (w.heap.length:Int)=0
  ·simp only[h,Mv,M1,Ms];exact(B1 N w l (k+1)).imp fun ih u a=>by
    rcases Ly.1 a with rfl|a
    ·exact h
    ·exact ih u a
  ·simp only[h,Mw,MJ,Mr];exact Good.ret h
def tV (w:Wd) (o:Ob):Prop:=0<=o.cls/\(0<o.cls->4<=o.cls)/\o.cls<w.a7.length/\(o.aI.length:Int)=p8 w o.cls/\∀v∈o.aI,ch v (w.heap.length:Int)=0
theorem Az (N:Nat) (w:Wd) (m:4194304<=N) (j:D6 w):∀(l:List Ob) (k:Nat),Good (kA N w l k) (∀o∈l,tV w o)
 |[],k=>Good.next fun o n=>by cases n
 |o::l,k=>by
  rw[kA];have d:(0<=o.cls/\(0<o.cls->4<=o.cls)/\o.cls<w.a7.length/\(o.aI.length:Int)=p8 w o.cls)->Good ((k9 N w o.aI 0).bind fun o=>match o with|.ret r=>some (.ret r)|.next ()=>kA N w l (k+1)) (∀x∈o::l,tV w x):=fun h =>
   (B1 N w o.aI 0).bind fun p=>(Az N w m j l (k+1)).imp fun ih x i=>by
    rcases Ly.1 i with rfl|i
    ·exact⟨h.1,h.2.1,h.2.2.1,h.2.2.2,p⟩
    ·exact ih x i
  by_cases b:o.cls<0
  ·simp only[b,Mv,Mr,A0];exact Good.ret E5
  have a:=kz N w o.cls d9 j.1;by_cases c:0<o.cls
  ·by_cases g:o.cls<4
   ·simp only[b,c,g,Mv,Mw,Mr,Ms,A0];exact Good.ret E5
   ·by_cases e:(w.a7.length:Int)<=o.cls
    ·simp only[b,c,g,e,Mv,Mw,Mr,Ms,A0];exact Good.ret E5
    ·by_cases f:(o.aI.length:Int)=p8 w o.cls
     ·simp only[b,c,g,e,a,f,Mv,Mw,Mr,Ms,A0,M1];exact d ⟨d9,fun _=>d9,d9,f⟩
     ·simp only[b,c,g,e,a,f,Mv,Mw,Mr,Ms,A0,MJ];exact Good.ret E5
  ·by_cases e:(w.a7.length:Int)<=o.cls
   ·simp only[b,c,e,Mv,Mw,Mr,Ms,A0];exact Good.ret E5
   ·by_cases f:(o.aI.length:Int)=p8 w o.cls
    ·simp only[b,c,e,a,f,Mv,Mw,Ms,A0,M1];exact d ⟨d9,fun h=>absurd h c,d9,f⟩
    ·simp only[b,c,e,a,f,Mw,Mr,Ms,A0,MJ];exact Good.ret E5
structure I5 (N:Nat) (w:Wd):Prop where
 many:4<=w.a7.length/\w.a7.length<=12/\w.heap.length<=60
 aB:0<=w.aB/\w.aB<=1073741824
 cls:∀(j:Nat) c,w.a7[j]?=some c->lf w j c
 aq:∀(j:Nat) c,w.a7[j]?=some c->p8 w (j:Int)<=6/\c.aC.length<=8/\dP c.aC/\∀m∈c.aC,lz N w j m
 obj:∀o∈w.heap,tV w o
theorem Good.end_ {x:Option (H9 Int Unit)} {P:Prop} {y:Option Int} {Q:Prop} (h:Good x P) (c:P->∃r,y=some r/\(r=0->Q)):∃r,(x.bind fun o=>match o with|.ret r=>some r|.next ()=>y)=some r/\(r=0->Q):=by
 obtain⟨o,rfl,a,b⟩:=h;cases o with
 |ret r=>exact⟨r,rfl,fun e=>absurd e (a r rfl)⟩
 |next u=>exact c (b rfl)
def d49 (N:Nat) (w:Wd) (i:4194304<=N) (k:D6 w):∃r,nA N w=some r/\(r=0->I5 N w):=by
 unfold nA uw;simp only[A0];by_cases a:(w.a7.length:Int)<4
 ·exact⟨5,by simp[a],fun h=>by cases h⟩
 by_cases b:(12:Int)<(w.a7.length:Int)
 ·exact⟨5,by simp[a,b],fun h=>by cases h⟩
 by_cases d:(60:Int)<(w.heap.length:Int)
 ·exact⟨5,by simp[a,b,d],fun h=>by cases h⟩
 by_cases e:w.aB<0
 ·exact⟨3,by simp[a,b,d,e],fun h=>by cases h⟩
 by_cases g:1073741824<w.aB
 ·exact⟨3,by simp[a,b,d,e,g],fun h=>by cases h⟩
 simp only[a,b,d,e,g,Mw,Ms,A0];refine(BD N w w.a7 0 rfl).end_ fun l=>?_;refine(BB N w i k w.a7 0 rfl).end_ fun m=>?_;refine(Az N w i k w.heap 0).end_ fun n=>?_;exact⟨0,rfl,fun _=>⟨d9,d9,fun j c f=>l j c d9 f,fun j c f=>m j c d9 f,n⟩⟩
theorem I5.cy {N:Nat} {w:Wd} (h:I5 N w):dX w:=fun c a=>by
 obtain⟨i,hi⟩:=Mn.1 a;exact(h.aq i c hi).2.2.1

def hA (c:Int):List Ln->List Ln×Bool
 |[]=>([],false)
 |x::l=>if x.cls=c then(⟨x.cls,wr (x.found+1)⟩::l,true) else(x::(hA c l).1,(hA c l).2)
def qO (c:Int) (l:List Ln):List Ln:=if(hA c l).2=true then(hA c l).1 else(hA c l).1++[⟨c,1⟩]
def fT (s:St) (c:Int):List Tl->List Tl×Bool
 |[]=>([],false)
 |x::l=>if x.site=s then(⟨x.site,qO c x.a7⟩::l,true) else(x::(fT s c l).1,(fT s c l).2)
def nk (s:St) (c:Int) (l:List Tl):List Tl:=if(fT s c l).2=true then(fT s c l).1 else(fT s c l).1++[⟨s,[⟨c,1⟩]⟩]
theorem CD (c:Int):∀l,(hA c l).1.length=l.length
 |[]=>rfl
 |x::l=>by
  unfold hA;split
  ·rfl
  ·simp[CD c l]
def IP (c:Int) (l:List Ln):(qO c l).length<=l.length+1:=by
 unfold qO;have:=CD c l;split<;>simp<;>omega
theorem Bs (s:St) (c:Int):∀l,(fT s c l).1.length=l.length
 |[]=>rfl
 |x::l=>by
  unfold fT;split
  ·rfl
  ·simp[Bs s c l]
def DX (c:Int) (l:List Ln):fk c l=qO c l:=by
 unfold fk qO bf;have key:∀l:List Ln,(match l.findIdx? (fun x=>decide (x.cls=c)) with|some k=>(hA c l).2=true/\l.modify k (fun x=>⟨x.cls,wr (x.found+1)⟩)=(hA c l).1|none=>(hA c l).2=false/\(hA c l).1=l):=by
  intro l
  induction l with
  |nil=>exact⟨rfl,rfl⟩
  |cons x l ih =>
   rw[List.findIdx?_cons];by_cases d:x.cls=c
   ·simp[d,hA]
   ·simp only[d,Mw,Mc,if_false,hA];cases b:l.findIdx? (fun x=>decide (x.cls=c)) with
    |none=>rw[b] at ih;exact⟨ih.1,by rw[ih.2]⟩
    |some k=>rw[b] at ih;exact⟨ih.1,by simp only[List.modify_succ_cons];rw[ih.2]⟩
 have:=key l;cases b:l.findIdx? (fun x=>decide (x.cls=c)) with
 |some k=>rw[b] at this;simp only[this.1,if_true];exact this.2
 |none =>
  rw[b] at this;have g:wr ((0:Int)+1)=1:=E5;simp only[this.1,this.2,if_false,Mc];have e:∀(l:List Ln) (y:Ln) (f:Ln->Ln),(l++[y]).modify l.length f=l++[f y]:=by
   intro l y f
   induction l with
   |nil=>rfl
   |cons a l ih=>simp only[List.cons_append,MB,List.modify_succ_cons,ih]
  rw[e,g]
def KD (s:St) (c:Int) (l:List Tl):tQ s c l=nk s c l:=by
 unfold tQ nk bf;have key:∀l:List Tl,(match l.findIdx? (fun x=>decide (x.site=s)) with|some k=>(fT s c l).2=true/\l.modify k (fun x=>⟨x.site,fk c x.a7⟩)=(fT s c l).1|none=>(fT s c l).2=false/\(fT s c l).1=l):=by
  intro l
  induction l with
  |nil=>exact⟨rfl,rfl⟩
  |cons x l ih =>
   rw[List.findIdx?_cons];by_cases d:x.site=s
   ·simp[d,fT,DX]
   ·simp only[d,Mw,Mc,if_false,fT];cases b:l.findIdx? (fun x=>decide (x.site=s)) with
    |none=>rw[b] at ih;exact⟨ih.1,by rw[ih.2]⟩
    |some k=>rw[b] at ih;exact⟨ih.1,by simp only[List.modify_succ_cons];rw[ih.2]⟩
 have:=key l;cases b:l.findIdx? (fun x=>decide (x.site=s)) with
 |some k=>rw[b] at this;simp only[this.1,if_true];exact this.2
 |none =>
  rw[b] at this;simp only[this.1,this.2,if_false,Mc];have e:∀(l:List Tl) (y:Tl) (f:Tl->Tl),(l++[y]).modify l.length f=l++[f y]:=by
   intro l y f
   induction l with
   |nil=>rfl
   |cons a l ih=>simp only[List.cons_append,MB,List.modify_succ_cons,ih]
  rw[e,DX];rfl
def HN (N:Nat) (l:List Tl) (s:St) (c:Int) (hl:∀t∈l,t.a7.length<=1099511627776) (h:l.length<=1099511627776):sU N l s c=some (nk s c l):=by
 unfold sU;have e:(IN ((l.length+1)*56) 140737488355328 && l.all fun t=>IN ((t.a7.length+1)*16) 140737488355328)=true:=by
  rw[IT,MK];exact⟨G5 d9,fun t a=>G5 (by have:=hl t a;omega)⟩
 rw[e,KD];rfl
def Fq (N:Nat) {l:List Ln} (h:l.length<=1099511627776):X3 N l=some l:=by
 unfold X3;rw[G5 d9];rfl
theorem zj (N:Nat):∀(l:List Tl) (k:Nat) (a:List Tl),(∀t∈l,t.a7.length<=1099511627776)->a.length+l.length<=1099511627776->lO N l k a=some (a++l)
 |[],k,a,_,_=>by simp[lO]
 |x::l,k,a,h,hl=>by
  rw[lO,Fq N (h x l8)];simp only[A0];rw[G5 (by simp at hl⊢;omega)];simp only[Mr];rw[zj N l (k+1) _ (fun o b=>h o (by simp[b])) (by simp at hl⊢;omega)];simp
def BO (N:Nat) {l:List Tl} (h:∀t∈l,t.a7.length<=1099511627776) (hl:l.length<=1099511627776):pS N l=some l:=by
 unfold pS;rw[zj N l 0 [] h (by simpa using hl)];rfl
def kb (c:Int):List Ln->Int
 |[]=>-1
 |y::l=>if y.cls=c then y.found else kb c l
def dx (s:St) (e c:Int):List Ce->Int
 |[]=>-1
 |x::l=>if x.site=s then(if x.aB=e then kb c x.lines else -1) else dx s e c l
theorem d95 (N:Nat) (s:St):∀(l:List Ce) (k:Nat),C9 N (fun x=>mw N x s) l k=some (match l.findIdx? (fun t=>decide (t.site=s)) with|some i=>.ret ((k+i:Nat):Int)|none=>.next ())
 |[],k=>rfl
 |x::l,k=>by
  rw[C9,nV,d95 N s l (k+1)];unfold mw;rw[im];by_cases e:x.site=s
  ·simp[e]
  ·cases l.findIdx? (fun t=>decide (t.site=s))<;>simp[e];omega
def GV (N:Nat) (l:List Ce) (s:St):nK N l s=some (fw (fun t=>decide (t.site=s)) l):=by
 unfold nK M8 fw;rw[d95];cases l.findIdx? (fun t=>decide (t.site=s))<;>simp
theorem zp (N:Nat) (c:Int):∀(l:List Ln) (k:Nat),∃o,nE N c l k=some o/\(match o with|.ret r=>r|.next ()=>-1)=kb c l
 |[],k=>⟨.next (),rfl,rfl⟩
 |y::l,k=>by
  rw[nE,kb];by_cases h:y.cls=c
  ·exact⟨.ret y.found,by simp[h],by simp[h]⟩
  ·obtain⟨o,a,b⟩:=zp N c l (k+1);exact⟨o,by simp[h,a],by rw[Mt h];exact b⟩
theorem Cs (s:St) (e c:Int):∀l:List Ce,dx s e c l=match l.findIdx? (fun t=>decide (t.site=s)) with
   |some i=>(match l[i]? with|some x=>(if x.aB=e then kb c x.lines else -1)|none=>-1)|none=>-1
 |[]=>rfl
 |x::l=>by
  rw[dx,nV];by_cases h:x.site=s
  ·simp[h]
  ·simp only[h,Mw,Mc,if_false];rw[Cs s e c l];cases l.findIdx? (fun t=>decide (t.site=s))<;>simp
def HI (N:Nat) (l:List Ce) (s:St) (e c:Int):sR N l s e c=some (dx s e c l):=by
 unfold sR;rw[GV,Cs];simp only[A0];rcases vZ (fun t:Ce=>decide (t.site=s)) l with⟨k,x,e1,a,i,d⟩|⟨e1,a⟩
 ·rw[e1,d];have f:¬((k:Int)<0):=d9;simp only[f,Mw,Ms,D9,a,A0];by_cases b:x.aB=e
  ·obtain⟨o,g,h⟩:=zp N c x.lines 0;simp only[b,Mv,M1,Ms,g,A0,if_true,<-h];cases o<;>rfl
  ·simp[b]
 ·rw[e1,a];simp
def yj (l:List Ce):Prop:=l.length<=1099511627776/\∀x∈l,x.lines.length<=1099511627776
def iQ (s:St) (e c f:Int):List Ce->List Ce
 |[]=>[iV e c f ⟨s,e,false,[]⟩]
 |x::l=>if x.site=s then iV e c f x::l else x::iQ s e c f l
def HH (N:Nat) (l:List Ce) (s:St) (e c f:Int) (h:yj l):sQ N l s e c f=some (iQ s e c f l):=by
 unfold sQ;have a:(IN ((l.length+1)*72) 140737488355328 && l.all fun t=>IN ((t.lines.length+1)*16) 140737488355328)=true:=by
  rw[IT,MK];exact⟨G5 (by have:=h.1;omega),fun t d=>G5 (by have:=h.2 t d;omega)⟩
 rw[a];simp only[Mr];congr 1;clear a h;unfold bf
 induction l with
 |nil=>rfl
 |cons x l ih =>
  rw[nV,iQ];by_cases b:x.site=s
  ·simp[b]
  ·simp only[b,Mw,Mc,if_false];rw[<-ih];cases l.findIdx? (fun t=>decide (t.site=s)) with
   |none=>simp
   |some i=>simp
def Fl (N:Nat) {l:List Ln} (h:l.length<=1099511627776):X3 N l=some l:=by
 unfold X3;rw[G5 d9];rfl
theorem zi (N:Nat):∀(l:List Ce) (k:Nat) (a:List Ce),(∀t∈l,t.lines.length<=1099511627776)->a.length+l.length<=1099511627776->lN N l k a=some (a++l)
 |[],k,a,_,_=>by simp[lN]
 |x::l,k,a,h,hl=>by
  rw[lN,Fl N (h x l8)];simp only[A0];rw[G5 (by simp at hl⊢;omega)];simp only[Mr];rw[zi N l (k+1) _ (fun o b=>h o (by simp[b])) (by simp at hl⊢;omega)];simp
def wg (N:Nat) {l:List Ce} (h:yj l):kt N l=some l:=by
 unfold kt;rw[zi N l 0 [] h.2 (by simpa using h.1)];rfl
def iH (w:Wd) (s:St) (c:Int) (name:ByteArray) (l:List Ce):List Ce×Int×Int×Bool :=
 if 0<=dx s w.aB c l/\dx s w.aB c l<w.a7.length then(l,(l7 w name (dx s w.aB c l)).1,(l7 w name (dx s w.aB c l)).2,true)
 else if(l7 w name c).2<0 then(l,(l7 w name c).1,(l7 w name c).2,false)
 else(iQ s w.aB c (l7 w name c).1 l,(l7 w name c).1,(l7 w name c).2,false)
def Gg (N:Nat) (l:List Ce) (w:Wd) (s:St) (c:Int) (name:ByteArray) (e:1048578<=N) (g:dX w) (f:D6 w) (hl:yj l):sI N l w s c name=some (iH w s c name l):=by
 unfold sI iH;rw[HI];simp only[A0,lI N w _ name e g f,wg N hl,HH N l s _ _ _ hl];by_cases a:0<=dx s w.aB c l
 ·by_cases d:dx s w.aB c l<w.a7.length
  ·simp[a,d]
  ·by_cases b:(l7 w name c).2<0<;>simp[a,d,b]
 ·by_cases b:(l7 w name c).2<0<;>simp[a,b]
theorem BZ {w:Wd} {s:ByteArray}:∀{n:Nat} {c:Int} {p:Int×Int},X5 w s n c=some p->∀m,X5 w s (m+1) p.1=some p
 |0,c,p,h,m=>by cases h
 |n+1,c,p,h,m=>by
  rw[X5] at h;by_cases a:0<=c
  ·rw[Mu a] at h;cases b:w.a7[c.toNat]? with
   |none=>rw[b] at h;cases h
   |some x =>
    rw[b] at h;simp only at h;cases hi:bM s x.aC with
    |none=>rw[hi] at h;exact BZ h m
    |some i =>
     rw[hi] at h;cases h;rw[X5,Mu a,b];simp only[hi]
  ·rw[Mt a] at h;cases h
def HZ {w:Wd} {s:ByteArray} {c:Int} (h:0<=(l7 w s c).2):l7 w s (l7 w s c).1=l7 w s c:=by
 unfold l7 at h⊢;cases a:X5 w s (w.a7.length+1) c with
 |none=>rw[a] at h;exact absurd h E5
 |some p =>
  rw[Option.getD_some,BZ a (w.a7.length),Option.getD_some]

def d45 (N:Nat) (w:Wd) (c:Int) (m:Me) (i:Ins) (v:1048578<=N) (x:w.a7.length<=1048576) (h:M7 N w c m i=some 0):1<=i.op/\i.op<=17:=by
 by_cases l:1<=i.op/\i.op<=17
 ·exact l
 ·exfalso;unfold M7 at h;have n:¬i.op=1:=d9;have o:¬i.op=2:=d9;have p:¬i.op=3:=d9;have q:¬i.op=4:=d9;have r:¬i.op=5:=d9;have n6:¬i.op=6:=d9;have s:¬i.op=7:=d9;have t:¬i.op=8:=d9;have u:¬i.op=9:=d9;have a:¬i.op=10:=d9;have b:¬i.op=11:=d9;have d:¬i.op=12:=d9;have e:¬i.op=13:=d9;have f:¬i.op=14:=d9;have g:¬i.op=15:=d9;have j:¬i.op=16:=d9;have k:¬i.op=17:=d9;simp only[n,o,p,q,r,n6,s,t,u,a,b,d,e,f,g,j,k,Mw,Ms,A0] at h;cases h
def HO (N:Nat) (w:Wd) (c:Int) (m:Me) (i:Ins) (B:m.code.length<=1048576) (h:M7 N w c m i=some 0) (b:i.op=15\/i.op=16):0<=i.a/\i.a<m.code.length:=by
 have r:wr ((m.code.length:Int)-1)=(m.code.length:Int)-1:=u7 ino;have key:∀o:Int,(o=15\/o=16)->i.op=o->0<=i.a/\i.a<m.code.length:=by
  intro o b p;unfold M7 at h;have s:¬o=1:=d9;have t:¬o=2:=d9;have u:¬o=3:=d9;have v:¬o=4:=d9;have x:¬o=5:=d9;have n6:¬o=6:=d9;have y:¬o=7:=d9;have z:¬o=8:=d9;have A:¬o=9:=d9;have d:¬o=10:=d9;have e:¬o=11:=d9;have f:¬o=12:=d9;have g:¬o=13:=d9;have j:¬o=14:=d9;have k:¬o=17:=d9;have q:((bif decide (o=(15:Int)) then some (decide (o=(15:Int))) else some (decide (o=(16:Int)))):Option Bool)=some true:=by
   rcases b with rfl|rfl<;>rfl
  simp only[p,s,t,u,v,x,n6,y,z,A,d,e,f,g,j,k,q,Mw,Ms,Mr,A0,r] at h;by_cases l:i.a<0
  ·simp only[l,Mv,Mr,A0] at h;cases h
  ·by_cases n:(m.code.length:Int)-1<i.a
   ·simp only[l,n,Mv,Mw,Mr,Ms,A0] at h;cases h
   ·omega
 exact key i.op b rfl
structure zV (N:Nat) (w:Wd) (k:Int) (m:Me):Prop where
 args:0<=m.args/\m.args<=4
 a8:0<=m.a8/\m.a8<=6
 len:m.code.length<=60
 num:∀i∈m.code,M7 N w k m i=some 0
def JF (N:Nat) (w:Wd) (k:Int) (m:Me) (f:dA) (y:1048578<=N) (A:w.a7.length<=1048576) (h:kG N w k m=some f) (a:f.err=0):zV N w k m:=by
 unfold kG at h;simp only[kE,A0] at h;by_cases d:k<0
 ·simp only[d,Mv,Mr,A0] at h;cases h;cases a
 by_cases n:(w.a7.length:Int)<=k
 ·simp only[d,n,Mv,Mw,Mr,Ms,A0] at h;cases h;cases a
 simp only[d,n,Mw,Ms,A0] at h;cases z:Y2 m.name with
 |false=>rw[z] at h;simp only[MJ,Mr] at h;cases h;cases a
 |true =>
  rw[z] at h;simp only[M1,Ms] at h;by_cases b:m.args<0
  ·simp only[b,Mv,Mr,A0] at h;cases h;cases a
  by_cases c:4<m.args
  ·simp only[b,c,Mv,Mw,Mr,Ms,A0] at h;cases h;cases a
  by_cases e:m.a8<0
  ·simp only[b,c,e,Mv,Mw,Mr,Ms,A0] at h;cases h;cases a
  by_cases p:6<m.a8
  ·simp only[b,c,e,p,Mv,Mw,Mr,Ms,A0] at h;cases h;cases a
  simp only[b,c,e,p,Mw,Ms,A0] at h;by_cases s:m.aX=0
  ·simp only[s,Mv,M1,Ms] at h;by_cases g:(m.code.length:Int)=0
   ·simp only[g,Mv,Mr,A0] at h;cases h;cases a
   by_cases t:(60:Int)<(m.code.length:Int)
   ·simp only[g,t,Mv,Mw,Mr,Ms,A0] at h;cases h;cases a
   simp only[g,t,Mw,Ms,A0] at h;obtain⟨o,v,B⟩:=w8 N w k m y A m.code 0;rw[v] at h;simp only[A0] at h;cases o with
   |next u=>exact⟨d9,d9,d9,B rfl⟩
   |ret r =>
    have h:some r=some f:=h;cases h;exfalso;have key:∀(l:List Ins) (j:Nat) (r:dA),kB N w k m l j=some (.ret r)->r.err≠0:=by
     intro l
     induction l with
     |nil=>intro j r h;rw[kB] at h;cases h
     |cons x l ih =>
      intro j r h;obtain⟨q,C⟩:=A9 N w k m x y A;rw[kB,C] at h;simp only[A0] at h;by_cases i:q=0
      ·simp only[i,Mv,M1,Ms] at h;exact ih _ _ h
      ·simp only[i,Mw,MJ,Mr] at h;cases h;exact i
    exact key _ _ _ v a
  ·simp only[s,Mw,MJ,Mr] at h;cases h;cases a
def d99 {N:Nat} {w:Wd} (e:1048578<=N) (l:w.a7.length<=1048576) (h:I5 N w) {k:Nat} {c:Cl} (g:w.a7[k]?=some c) {m:Me} (j:m∈c.aC):zV N w (k:Int) m:=by
 rcases(h.aq k c g).2.2.2 m j with⟨_,p,_,_,_,a,b,d⟩|⟨f,a,b⟩
 ·exact⟨d9,d9,by rw[d];simp,by rw[d];intro i hi;cases hi⟩
 ·exact JF N w k m f e l a b
structure Leafy (x:Me):Prop where
 args:0<=x.args/\x.args<=4
 a8:0<=x.a8/\x.a8<=6
 len:x.code.length<=60
 op:∀i∈x.code,1<=i.op/\i.op<=17
 jump:∀i∈x.code,(i.op=15\/i.op=16)->0<=i.a/\i.a<x.code.length
def put_eq (N:Nat) (w:Wd) (m:Me) (out:List Ins) (t:Int) (aJ fix:List Int) (op a b c:Int) (h:out.length<=1000000) :
  G8 N (⟨w,m,out,t,aJ,fix⟩:fa) op a b c=some ⟨w,m,out++[⟨op,a,b,c,BY⟩],t,aJ,fix⟩:=by
 unfold G8;rw[G5 M3];rfl
def Q9 (y:Me):Nat:=3+y.args.toNat+2*y.a8.toNat+y.code.length
def size_eq (N:Nat) (y:Me) (a:Leafy y):pA N y=some ((Q9 y:Nat):Int):=by
 unfold pA Q9;have e:=a.args;have f:=a.a8;have g:=a.len;have e1:wr (3+y.args)=3+y.args:=u7 ino;have b:wr (2*y.a8)=2*y.a8:=u7 ino;have c:wr (3+y.args+2*y.a8)=3+y.args+2*y.a8:=u7 ino;have d:wr (3+y.args+2*y.a8+(y.code.length:Int))=3+y.args+2*y.a8+y.code.length:=u7 ino;rw[e1,b,c,d];congr 1;omega
theorem AG (N:Nat) (w:Wd) (l:w.a7.length<=1048576):∀(n:Nat) (k:Nat) (c a:Int),k<=w.a7.length+1->w.a7.length+1-k<n ->
  oj N w n c a (k:Int)=some ((bj w (w.a7.length+1-k) c).foldl (fun n k=>match w.a7[k.toNat]? with|some x=>wr (n+x.aI)|none=>n) a)
 |0,k,c,a,_,h=>d9
 |n+1,k,c,a,p,q=>by
  rw[oj];by_cases b:0<=c
  ·by_cases f:c<w.a7.length
   ·obtain⟨x,i,g⟩:=de b f;by_cases o:k<=w.a7.length
    ·have d:(k:Int)<=(w.a7.length:Int):=d9;have e:w.a7.length+1-k=(w.a7.length-k)+1:=d9;have wk:wr ((k:Int)+1)=((k+1:Nat):Int):=by rw[u7 ino];omega
     simp only[b,f,d,Mv,Mr,A0,g,wk];rw[AG N w l n (k+1) _ _ d9 d9,e,bj,Mu b,i];simp only[List.foldl_cons,i];rw[show w.a7.length+1-(k+1)=w.a7.length-k by omega]
    ·have d:¬(k:Int)<=(w.a7.length:Int):=d9;have e:w.a7.length+1-k=0:=d9;simp only[b,f,d,Mv,Mw,Mr,Ms,A0,e];rfl
   ·have i:w.a7[c.toNat]?=none:=xw f;simp only[b,f,Mv,Mw,Mr,Ms,A0];cases j:w.a7.length+1-k with
    |zero=>rfl
    |succ m=>rw[bj,Mu b,i];rfl
  ·simp only[b,Mw,Ms,A0];cases j:w.a7.length+1-k with
   |zero=>rfl
   |succ m=>rw[bj,Mt b];rfl
def oh (N:Nat) (w:Wd) (c:Int) (b:1048578<=N) (a:w.a7.length<=1048576):iJ N w c=some (p8 w c):=by
 unfold iJ p8;have h:=AG N w a N 0 c 0 d9 d9;simp only[Nat.sub_zero,Int.ofNat_zero] at h;rw[h];rfl
theorem zc (N:Nat) (s:ByteArray):∀(n k:Nat),n+k=s.size->mo N s n k=some (if(s.data.toList.drop k).all er=true then .next () else .ret false)
 |0,k,h=>by
  rw[List.drop_eq_nil_of_le (by rw[show s.data.toList.length=s.size from rfl];omega)];rfl
 |n+1,k,h=>by
  have f:k<s.data.toList.length:=by rw[show s.data.toList.length=s.size from rfl];omega
  rw[mo,List.drop_eq_getElem_cons f,Di,IS f,zc N s n (k+1) d9];simp only[A0,List.all_cons];generalize s.data.toList[k]=u;generalize s.data.toList.drop (k+1)=b;by_cases d:(u.toNat:Int)<=32
  ·have a:(u.toNat:Int)<33:=d9;have e:er u=false:=by simp[er,a]
   simp only[d,e,Mv,Mr,A0,Bool.false_and];rfl
  ·have a:¬(u.toNat:Int)<33:=d9;by_cases c:126<(u.toNat:Int)
   ·have e:er u=false:=(by simp only[er,a,c,Mv,Mw,M1,Bool.and_false]);simp only[d,c,e,Mv,Mw,Mr,Ms,A0,Bool.false_and];rfl
   ·have e:er u=true:=(by simp only[er,a,c,Mw,MJ,Bool.and_true]);simp only[d,c,e,Mw,Ms,A0,Bool.true_and]
def r6 (N:Nat) (s:ByteArray):kJ N s=some (Y2 s):=by
 unfold kJ Y2;have e:((s.size:Int)-((0:Nat):Int)).toNat=s.size:=d9;rw[e,zc N s s.size 0 d9,List.drop_zero];by_cases c:(s.size:Int)<1
 ·have a:¬0<s.size:=d9;simp[c,a]
 ·have a:0<s.size:=d9;by_cases d:(12:Int)<(s.size:Int)
  ·have b:¬s.size<=12:=d9;simp[c,d,b]
  ·have b:s.size<=12:=d9;cases h:s.data.toList.all er<;>simp[c,d,a,b]
theorem uy {w:Wd} (c:∀x∈w.a7,0<=x.aI/\x.aI<=6):∀(l:List Int) (a:Int),0<=a->a+6*l.length<=100000000 ->
  0<=l.foldl (fun n k=>match w.a7[k.toNat]? with|some x=>wr (n+x.aI)|none=>n) a/\l.foldl (fun n k=>match w.a7[k.toNat]? with|some x=>wr (n+x.aI)|none=>n) a<=a+6*l.length
 |[],a,b,d=>⟨by simpa using b,l8⟩
 |k::l,a,b,d=>by
  simp only[List.foldl_cons,MB] at d⊢;cases e:w.a7[k.toNat]? with
  |none =>
   have:=uy c l a b d9;simp only;omega
  |some x =>
   have:=c x (MI e);simp only;rw[u7 ino];have:=uy c l (a+x.aI) d9 d9;omega
def kM {w:Wd} (a:∀x∈w.a7,0<=x.aI/\x.aI<=6) (b:w.a7.length<=1048576) (c:Int):0<=p8 w c/\p8 w c<=1000000000:=by
 have hl:=vJ w (w.a7.length+1) c;have:=uy a (bj w (w.a7.length+1) c) 0 d9 d9;unfold p8;exact⟨this.1,Int.le_trans this.2 d9⟩
def fi (w:Wd) (c:Int) (m:Me) (i:Ins):Option Bool :=
 if i.op=1\/i.op=6\/i.op=7\/i.op=8\/i.op=9\/i.op=10\/i.op=17 then some (decide (i.a=0))
 else if i.op=2 then some (decide (0<=i.a) && decide (i.a<m.args))
 else if i.op=3\/i.op=11 then some (decide (0<=i.a) && decide (i.a<m.a8))
 else if i.op=4\/i.op=12 then some (decide (0<=i.a) && decide (i.a<p8 w c))
 else if i.op=5 then some (decide (-1073741824<=i.a) && decide (i.a<=1073741824))
 else if i.op=13 then some (decide (i.a=0) || (decide (4<=i.a) && decide (i.a<w.a7.length)))
 else if i.op=14 then some (decide (0<=i.a) && decide (i.a<5))
 else if i.op=15\/i.op=16 then some (decide (0<=i.a) && decide (i.a<m.code.length))
 else none
def jo (i:Ins):Bool:=(decide (i.op=14) && !Y2 i.name) || (!decide (i.op=14) && !decide (i.name=(⟨#[]⟩:ByteArray))) || !decide (i.b=0) || !decide (i.c=0)
def br (w:Wd) (c:Int) (m:Me) (i:Ins):Int:=match fi w c m i with
 |none=>1
 |some ok=>if ok=true then(if jo i=true then 2 else 0) else 3
def Fv (N:Nat) (a b:Int):kF N a b=some (decide (0<=a) && decide (a<b)):=by
 unfold kF;by_cases h:0<=a<;>simp[h]
def FI (N:Nat) (w:Wd) (c:Int) (m:Me) (i:Ins) (L:1048578<=N) (O:w.a7.length<=1048576):rm N w c m i=some (br w c m i):=by
 unfold rm br fi jo;simp only[oh N w c L O,r6,Fv,A0];generalize decide (i.b=0)=B;generalize decide (i.c=0)=C;generalize decide (i.name=(⟨#[]⟩:ByteArray))=E;generalize decide (i.a=0)=d;generalize decide (0<=i.a)=e;generalize decide (i.a<m.args)=F;generalize decide (i.a<m.a8)=q;generalize decide (i.a<p8 w c)=r;generalize decide (-1073741824<=i.a)=G;generalize decide (i.a<=1073741824)=H;generalize decide (4<=i.a)=I;generalize decide (i.a<(w.a7.length:Int))=J;generalize decide (i.a<5)=K;generalize decide (i.a<(m.code.length:Int))=f;generalize Y2 i.name=M;by_cases s:i.op=1
 ·simp only[s];cases d<;>cases B<;>cases C<;>cases E<;>simp
 by_cases y:i.op=6
 ·simp only[y];cases d<;>cases B<;>cases C<;>cases E<;>simp
 by_cases z:i.op=7
 ·simp only[z];cases d<;>cases B<;>cases C<;>cases E<;>simp
 by_cases A:i.op=8
 ·simp only[A];cases d<;>cases B<;>cases C<;>cases E<;>simp
 by_cases D:i.op=9
 ·simp only[D];cases d<;>cases B<;>cases C<;>cases E<;>simp
 by_cases g:i.op=10
 ·simp only[g];cases d<;>cases B<;>cases C<;>cases E<;>simp
 by_cases p:i.op=17
 ·simp only[p];cases d<;>cases B<;>cases C<;>cases E<;>simp
 by_cases t:i.op=2
 ·simp only[t];cases e<;>cases F<;>cases B<;>cases C<;>cases E<;>simp
 by_cases u:i.op=3
 ·simp only[u];cases e<;>cases q<;>cases B<;>cases C<;>cases E<;>simp
 by_cases h:i.op=11
 ·simp only[h];cases e<;>cases q<;>cases B<;>cases C<;>cases E<;>simp
 by_cases v:i.op=4
 ·simp only[v];cases e<;>cases r<;>cases B<;>cases C<;>cases E<;>simp
 by_cases j:i.op=12
 ·simp only[j];cases e<;>cases r<;>cases B<;>cases C<;>cases E<;>simp
 by_cases x:i.op=5
 ·simp only[x];cases G<;>cases H<;>cases B<;>cases C<;>cases E<;>simp
 by_cases k:i.op=13
 ·simp only[k];cases d<;>cases I<;>cases J<;>cases B<;>cases C<;>cases E<;>simp
 by_cases l:i.op=14
 ·simp only[l];cases e<;>cases K<;>cases B<;>cases C<;>cases M<;>simp
 by_cases n:i.op=15
 ·simp only[n];cases e<;>cases f<;>cases B<;>cases C<;>cases E<;>simp
 by_cases o:i.op=16
 ·simp only[o];cases e<;>cases f<;>cases B<;>cases C<;>cases E<;>simp
 simp[s,y,z,A,D,g,p,t,u,h,v,j,x,k,l,n,o]
def AI (N:Nat) (w:Wd) (c:Int) (m:Me) (i:Ins) (I:1048578<=N) (J:w.a7.length<=1048576) (hl:1<=w.a7.length) (O:0<=m.args/\m.args<=1000) (Q:0<=m.a8/\m.a8<=1000)
  (K:0<=p8 w c/\p8 w c<=1000000000) (P:m.code.length<=1048576):M7 N w c m i=some (br w c m i):=by
 unfold M7 br fi jo;simp only[kz N w c I J,kE,A0,u7 (show I1 (m.args-1) by unfold I1;omega),u7 (show I1 (m.a8-1) by unfold I1;omega),u7 (show I1 (p8 w c-1) by unfold I1;omega),
  u7 (show I1 ((w.a7.length:Int)-1) by unfold I1;omega),u7 (show I1 ((m.code.length:Int)-1) by unfold I1;omega)]
 by_cases o:i.op=13
 ·have L:(!decide (i.op=14))=true:=by rw[o];rfl
  simp only[o];rcases(by omega:i.a<0\/i.a=0\/(0<i.a/\i.a<4)\/4<=i.a) with h|h|h|h
  ·simp[h,show¬i.a=0 by omega,show¬0<i.a by omega,show¬4<=i.a by omega]
  ·have G:¬((w.a7.length:Int)-1<0):=d9;have q:¬((w.a7.length:Int)<1):=d9;generalize decide (i.b=0)=B;generalize decide (i.c=0)=C;generalize decide (i.name=(⟨#[]⟩:ByteArray))=E;simp only[h];cases B<;>cases C<;>cases E<;>simp[G]
  ·simp[h.1,h.2,show¬i.a=0 by omega,show¬4<=i.a by omega]
  ·have G:¬i.a<4:=d9;have q:¬i.a<0:=d9;have r:¬i.a=0:=d9;have s:0<i.a:=d9;generalize decide (i.b=0)=B;generalize decide (i.c=0)=C;generalize decide (i.name=(⟨#[]⟩:ByteArray))=E;by_cases H:i.a<(w.a7.length:Int)
   ·have p:¬((w.a7.length:Int)-1<i.a):=d9;cases B<;>cases C<;>cases E<;>simp[G,q,r,s,h,H,p]
   ·have p:((w.a7.length:Int)-1<i.a):=d9;simp[G,q,r,s,h,H,p]
 generalize decide (i.b=0)=B;generalize decide (i.c=0)=C;generalize decide (i.name=(⟨#[]⟩:ByteArray))=E;generalize Y2 i.name=M;by_cases t:i.op=1
 ·rcases Int.lt_trichotomy i.a 0 with h|h|h
  ·simp[t,h,show¬i.a=0 by omega]
  ·cases B<;>cases C<;>cases E<;>simp[t,h]
  ·simp[t,h,show¬i.a<0 by omega,show¬i.a=0 by omega]
 by_cases z:i.op=6
 ·rcases Int.lt_trichotomy i.a 0 with h|h|h
  ·simp[z,h,show¬i.a=0 by omega]
  ·cases B<;>cases C<;>cases E<;>simp[z,h]
  ·simp[z,h,show¬i.a<0 by omega,show¬i.a=0 by omega]
 by_cases A:i.op=7
 ·rcases Int.lt_trichotomy i.a 0 with h|h|h
  ·simp[A,h,show¬i.a=0 by omega]
  ·cases B<;>cases C<;>cases E<;>simp[A,h]
  ·simp[A,h,show¬i.a<0 by omega,show¬i.a=0 by omega]
 by_cases D:i.op=8
 ·rcases Int.lt_trichotomy i.a 0 with h|h|h
  ·simp[D,h,show¬i.a=0 by omega]
  ·cases B<;>cases C<;>cases E<;>simp[D,h]
  ·simp[D,h,show¬i.a<0 by omega,show¬i.a=0 by omega]
 by_cases F:i.op=9
 ·rcases Int.lt_trichotomy i.a 0 with h|h|h
  ·simp[F,h,show¬i.a=0 by omega]
  ·cases B<;>cases C<;>cases E<;>simp[F,h]
  ·simp[F,h,show¬i.a<0 by omega,show¬i.a=0 by omega]
 by_cases e:i.op=10
 ·rcases Int.lt_trichotomy i.a 0 with h|h|h
  ·simp[e,h,show¬i.a=0 by omega]
  ·cases B<;>cases C<;>cases E<;>simp[e,h]
  ·simp[e,h,show¬i.a<0 by omega,show¬i.a=0 by omega]
 by_cases n:i.op=17
 ·rcases Int.lt_trichotomy i.a 0 with h|h|h
  ·simp[n,h,show¬i.a=0 by omega]
  ·cases B<;>cases C<;>cases E<;>simp[n,h]
  ·simp[n,h,show¬i.a<0 by omega,show¬i.a=0 by omega]
 by_cases u:i.op=2
 ·by_cases h:0<=i.a
  ·by_cases d:i.a<m.args
   ·cases B<;>cases C<;>cases E<;>simp[u,h,d,show¬i.a<0 by omega,show¬(m.args-1<i.a) by omega]
   ·simp[u,h,d,show¬i.a<0 by omega,show(m.args-1<i.a) by omega]
  ·simp[u,h,show i.a<0 by omega]
 by_cases v:i.op=3
 ·by_cases h:0<=i.a
  ·by_cases d:i.a<m.a8
   ·cases B<;>cases C<;>cases E<;>simp[v,h,d,show¬i.a<0 by omega,show¬(m.a8-1<i.a) by omega]
   ·simp[v,h,d,show¬i.a<0 by omega,show(m.a8-1<i.a) by omega]
  ·simp[v,h,show i.a<0 by omega]
 by_cases f:i.op=11
 ·by_cases h:0<=i.a
  ·by_cases d:i.a<m.a8
   ·cases B<;>cases C<;>cases E<;>simp[f,h,d,show¬i.a<0 by omega,show¬(m.a8-1<i.a) by omega]
   ·simp[f,h,d,show¬i.a<0 by omega,show(m.a8-1<i.a) by omega]
  ·simp[f,h,show i.a<0 by omega]
 by_cases x:i.op=4
 ·by_cases h:0<=i.a
  ·by_cases d:i.a<p8 w c
   ·cases B<;>cases C<;>cases E<;>simp[x,h,d,show¬i.a<0 by omega,show¬(p8 w c-1<i.a) by omega]
   ·simp[x,h,d,show¬i.a<0 by omega,show(p8 w c-1<i.a) by omega]
  ·simp[x,h,show i.a<0 by omega]
 by_cases g:i.op=12
 ·by_cases h:0<=i.a
  ·by_cases d:i.a<p8 w c
   ·cases B<;>cases C<;>cases E<;>simp[g,h,d,show¬i.a<0 by omega,show¬(p8 w c-1<i.a) by omega]
   ·simp[g,h,d,show¬i.a<0 by omega,show(p8 w c-1<i.a) by omega]
  ·simp[g,h,show i.a<0 by omega]
 by_cases y:i.op=5
 ·by_cases h:-1073741824<=i.a
  ·by_cases d:i.a<=1073741824
   ·cases B<;>cases C<;>cases E<;>simp[y,h,d,show¬i.a < -1073741824 by omega,show¬(1073741824<i.a) by omega]
   ·simp[y,h,d,show¬i.a < -1073741824 by omega,show(1073741824<i.a) by omega]
  ·simp[y,h,show i.a < -1073741824 by omega]
 by_cases j:i.op=14
 ·by_cases h:0<=i.a
  ·by_cases d:i.a<5
   ·cases B<;>cases C<;>cases M<;>simp[j,h,d,show¬i.a<0 by omega,show¬(4<i.a) by omega]
   ·simp[j,h,d,show¬i.a<0 by omega,show(4<i.a) by omega]
  ·simp[j,h,show i.a<0 by omega]
 by_cases k:i.op=15
 ·by_cases h:0<=i.a
  ·by_cases d:i.a<(m.code.length:Int)
   ·cases B<;>cases C<;>cases E<;>simp[k,h,d,show¬i.a<0 by omega,show¬((m.code.length:Int)-1<i.a) by omega]
   ·simp[k,h,d,show¬i.a<0 by omega,show((m.code.length:Int)-1<i.a) by omega]
  ·simp[k,h,show i.a<0 by omega]
 by_cases l:i.op=16
 ·by_cases h:0<=i.a
  ·by_cases d:i.a<(m.code.length:Int)
   ·cases B<;>cases C<;>cases E<;>simp[l,h,d,show¬i.a<0 by omega,show¬((m.code.length:Int)-1<i.a) by omega]
   ·simp[l,h,d,show¬i.a<0 by omega,show((m.code.length:Int)-1<i.a) by omega]
  ·simp[l,h,show i.a<0 by omega]
 simp[t,u,v,x,y,z,A,D,F,e,f,g,o,j,k,l,n]
def d91 (N:Nat) (i:Ins) (p:Int) (h:i.op=14->0<=i.a/\i.a<=4):∃g,sB N i=some ((U3 i p).1,g)/\wr (g-(U3 i p).1)=(U3 i p).2.1:=by
 unfold sB U3;by_cases l:i.op=9
 ·exact⟨0,by simp[l],by simp[l];rw[u7 ino]⟩
 by_cases d:i.op=11
 ·exact⟨0,by simp[d],by simp[d];rw[u7 ino]⟩
 by_cases e:i.op=12
 ·exact⟨0,by simp[e],by simp[e];rw[u7 ino]⟩
 by_cases j:i.op=16
 ·exact⟨0,by simp[j],by simp[j];rw[u7 ino]⟩
 by_cases k:i.op=17
 ·exact⟨0,by simp[k],by simp[k];rw[u7 ino]⟩
 by_cases c:i.op=10
 ·exact⟨2,by simp[c],by simp[c];rw[u7 ino]⟩
 by_cases b:i.op=14
 ·have:=h b;exact⟨1,by simp[b],by simp[b];rw[u7 (show I1 (i.a+1) by unfold I1;omega),u7 ino];omega⟩
 by_cases f:i.op=15
 ·exact⟨0,by simp[f],by simp[f];rw[u7 ino]⟩
 exact⟨1,by simp[l,c,d,e,b,f,j,k],by simp[l,c,d,e,b,f,j,k];rw[u7 ino]⟩
theorem AA (N:Nat):∀(n k:Nat) (v:List Int),n+k=v.length->kx N n k v=some (v.take k++MC n (-1))
 |0,k,v,h=>by rw[kx,List.take_of_length_le d9];simp
 |n+1,k,v,h=>by
  have a:k<v.length:=d9;rw[kx,D9,IS a];simp only[A0,MX];rw[AA N n (k+1) _ M3];congr 1;rw[List.take_add_one,List.take_set_of_le (It _),List.getElem?_set_self a,List.replicate_succ];simp
def ew (a:dw):Int×Int:=(a.f0,a.f1)
def gx (i:Ins) (p h:Int) (q:List dw):List dw :=
 let b:=if i.op=15\/i.op=17 then q else q++[⟨wr (p+1),h⟩]
 if i.op=15\/i.op=16 then b++[⟨i.a,h⟩] else b
def yG (i:Ins) (p h:Int) (q:List dw):(gx i p h q).map ew=q.map ew++(U3 i p).2.2.map fun x=>(x,h):=by
 unfold gx U3;by_cases e:i.op=15
 ·simp[e,ew]
 by_cases f:i.op=16
 ·simp[f,ew]
 by_cases g:i.op=17
 ·simp[g]
 by_cases j:i.op=9
 ·simp[j,ew]
 by_cases b:i.op=11
 ·simp[b,ew]
 by_cases c:i.op=12
 ·simp[c,ew]
 by_cases a:i.op=10
 ·simp[a,ew]
 by_cases d:i.op=14
 ·simp[d,ew]
 simp[e,f,g,j,b,c,a,d,ew]
theorem wR (N:Nat) (m:Me) (B:lY m) (I:m.code.length<=1048576):∀(n:Nat) (h:List Int) (q:List dw),q.length+2*kV h<=4194304->h.length=m.code.length ->
  ki (q.map ew)->ml N m n h q=cC m n h (q.map ew)
 |0,_,_,_,_,_=>rfl
 |n+1,h,[],_,_,_=>by
  rw[ml];simp[cC]
 |n+1,h,⟨p,x⟩::q,hb,hh,ho=>by
  rw[ml];have D:=ho (p,x) (by simp[ew]);have J:ki (q.map ew):=fun z c=>ho z (by rw[ML];exact Mi _ c);have l:(0:Int)<(((⟨p,x⟩:dw)::q).length:Int):=by simp only[MB];omega
  have L:(decide (0<=(1:Int)) && decide ((1:Int)<=(((⟨p,x⟩:dw)::q).length:Int)))=true:=by simp only[IT,Mz,MB];omega
  have C:j4 ((⟨p,x⟩:dw)::q) (0:Int)=some ⟨p,x⟩:=rfl;have hd:((⟨p,x⟩:dw)::q).drop (1:Int).toNat=q:=rfl;simp only[MB] at hb;rw[ML,show ew ⟨p,x⟩=(p,x) from rfl,cC];simp only[l,Mv,Mr,C,A0,L,hd];by_cases a:p<0
  ·simp only[a,Mv,Mr,A0,or_true,if_true]
  by_cases E:(m.code.length:Int)<=p
  ·simp only[E,a,Mv,Mw,Mr,Ms,A0,true_or,if_true]
  simp only[E,a,Mw,Ms,A0,or_self,if_false];have r:p.toNat<m.code.length:=d9;have o:0<=p:=d9;have e1:h[p.toNat]?=some (h[p.toNat]' d9):=IS d9;have u:m.code[p.toNat]?=some m.code[p.toNat]:=IS r;generalize h[p.toNat]' d9=y at e1;have hi:=B _ (List.getElem_mem r);generalize m.code[p.toNat]=i at u hi;have P:j4 h p=some y:=by rw[fE o,e1]
  have Q:j4 m.code p=some i:=by rw[fE o,u]
  obtain⟨g,v,w⟩:=d91 N i p hi;simp only[P,Q,e1,u,A0,v,w];by_cases F:0<=y
  ·simp only[F,Mv,Mr,if_true];by_cases b:y=x
   ·simp only[b,Mv,M1,Ms,A0,if_true];exact wR N m B I n h q d9 hh J
   ·simp only[b,Mw,MJ,Mr,A0,if_false]
  simp only[F,Mw,Ms,if_false];by_cases b:x<(U3 i p).1
  ·simp only[b,Mv,Mr,A0,true_or,if_true]
  by_cases s:i.op=17/\x≠1
  ·simp only[b,s.1,s.2,Mv,Mw,Mr,Ms,A0,MJ,or_true,if_true,ne_eq,not_false_eq_true,and_self]
  have O:((bif decide (i.op=(17:Int)) then some ((!decide (x=(1:Int)))) else some (false)):Option Bool)=some false:=by
   by_cases d:i.op=17
   ·by_cases G:x=1
    ·simp[G]
    ·exact absurd ⟨d,G⟩ s
   ·simp[d]
  simp only[b,s,O,Mw,Ms,A0,or_self,if_false];by_cases d:12<wr (x+(U3 i p).2.1)
  ·simp only[d,Mv,Mr,A0,if_true]
  simp only[d,Mw,Ms,if_false];have k:=uM D.1 D.2 b d hi;have R:=xN (y:=x) e1 d9 D.1;have M:=yN i p;have A:=congrArg List.length (yG i p (wr (x+(U3 i p).2.1)) q);simp only[MP,MD] at A;have go:=wR N m B I n (h.set p.toNat x) (gx i p (wr (x+(U3 i p).2.1)) q) d9 (by simpa using hh) (by
   rw[yG];intro z c;rcases MN.1 c with c|c
   ·exact J z c
   ·obtain⟨z,_,rfl⟩:=MM.1 c;exact⟨k.1,k.2.1⟩)
  rw[yG] at go;rw[<-go];generalize wr (x+(U3 i p).2.1)=H;have t:IN ((q.length+1)*16) 140737488355328=true:=G5 d9;have K:IN ((q.length+1+1)*16) 140737488355328=true:=G5 d9;unfold gx;by_cases e:i.op=15
  ·simp[e,t]
  by_cases f:i.op=16
  ·simp[f,t,K]
  by_cases j:i.op=17
  ·simp[j]
  simp[e,f,j,t]
def FH (N:Nat) (m:Me) (c:lY m) (b:m.code.length<=1048576):rq N m=(cC m N (MC m.code.length (-1)) [(0,0)]).map qU:=by
 unfold rq;have e0:(decide (0<=(m.code.length:Int)) && decide ((m.code.length:Int)<=140737488355328) && decide ((m.code.length:Int)*8<=140737488355328))=true:=by
  simp only[IT,Mz];omega
 have e1:(((MC (m.code.length:Int).toNat (0:Int)).length:Int)-((0:Nat):Int)).toNat=m.code.length:=l8;rw[e0,e1,AA N _ 0 _ l8];simp only[Mr,A0,List.take_zero,List.nil_append];have h:=wR N m c b N (MC m.code.length (-1)) [⟨0,0⟩] (by rw[uW];simp;omega) l8 (by
  intro q a;simp only[ML,List.map_nil,ew,Ly,List.not_mem_nil,or_false] at a;subst a;decide)
 rw[h];show _=(cC m N (MC m.code.length (-1)) [(0,0)]).map qU;rw[show([(⟨0,0⟩:dw)].map ew)=[((0:Int),(0:Int))] from rfl];cases cC m N (MC m.code.length (-1)) [(0,0)] with
 |none=>rfl
 |some o=>cases o<;>rfl
structure tP (m:Me) (h:List Int) (q:List (Int×Int)):Prop where
 len:h.length=m.code.length
 aJ:∀(k:Nat) (y:Int) (i:Ins),h[k]?=some y->0<=y->m.code[k]?=some i->(U3 i k).1<=y/\y<=12/\(i.op=17->y=1)/\0<=wr (y+(U3 i k).2.1) /\
  ∀to∈(U3 i k).2.2,(to,wr (y+(U3 i k).2.1))∈q\/(0<=to/\h[to.toNat]?=some (wr (y+(U3 i k).2.1)))
theorem wq (m:Me) (P:lY m):∀(n:Nat) (h:List Int) (q:List (Int×Int)) (l:List Int),cC m n h q=some (.next l)->tP m h q->ki q ->
  tP m l []/\(∀(k:Nat) y,h[k]?=some y->0<=y->l[k]?=some y)/\∀z∈q,0<=z.1/\l[z.1.toNat]?=some z.2
 |0,h,q,l,e,_,_=>by cases e
 |n+1,h,[],l,e,hi,_=>by
  rw[cC] at e;cases e;exact⟨hi,fun _ _ h _=>h,fun z a=>by cases a⟩
 |n+1,h,(p,x)::r,l,e,hi,ho=>by
  rw[cC] at e;have D:=ho (p,x) l8;have T:ki r:=fun z a=>ho z (by simp[a]);by_cases R:(m.code.length:Int)<=p\/p<0
  ·rw[Mu R] at e;cases e
  rw[Mt R] at e;have hl:=hi.len;have S:p.toNat<m.code.length:=d9;have B:0<=p:=d9;have e1:h[p.toNat]?=some (h[p.toNat]' d9):=IS d9;have L:m.code[p.toNat]?=some m.code[p.toNat]:=IS S;generalize h[p.toNat]' d9=y at e1;have v:=P _ (List.getElem_mem S);generalize m.code[p.toNat]=i at L v;rw[e1,L] at e;simp only at e;by_cases C:0<=y
  ·rw[Mu C] at e;by_cases o:y=x
   ·rw[Mu o] at e;subst o;obtain⟨E,s,F⟩:=wq m P n h r l e ⟨hl,fun k z j g a A=>by
     obtain⟨G,H,I,J,K⟩:=hi.aJ k z j g a A;refine⟨G,H,I,J,fun to f=>?_⟩;rcases K to f with c|c
     ·rcases Ly.1 c with c|c
      ·have t:=congrArg Prod.fst c;have u:=congrArg Prod.snd c;simp only at t u;exact .inr ⟨d9,by rw[t,u];exact e1⟩
      ·exact .inl c
     ·exact .inr c⟩ T
    exact⟨E,s,fun z a=>by
     rcases Ly.1 a with rfl|a
     ·exact⟨B,s _ _ e1 C⟩
     ·exact F z a⟩
   ·rw[Mt o] at e;cases e
  rw[Mt C] at e;by_cases o:x<(U3 i p).1\/(i.op=17/\x≠1)
  ·rw[Mu o] at e;cases e
  rw[Mt o] at e;by_cases N:12<wr (x+(U3 i p).2.1)
  ·rw[Mu N] at e;cases e
  rw[Mt N] at e;have O:=uM D.1 D.2 (fun h=>o (MA h)) N v;have Q:((p.toNat:Nat):Int)=p:=d9;have d:(h.set p.toNat x)[p.toNat]?=some x:=List.getElem?_set_self d9;obtain⟨E,s,F⟩:=wq m P n (h.set p.toNat x) _ l e ⟨by simpa using hl,fun k z j g a A=>by
   by_cases b:k=p.toNat
   ·subst b;rw[d] at g;cases g;rw[L] at A;cases A;rw[Q];refine⟨by have:¬x<(U3 i p).1:=fun h=>o (MA h);omega,D.2,fun M=>Decidable.byContradiction fun h=>o (Or.inr ⟨M,h⟩),O.1,fun to f=>.inl ?_⟩;exact List.mem_append_right _ (MM.2 ⟨to,f,rfl⟩)
   ·rw[List.getElem?_set_ne (fun h=>b h.symm)] at g;obtain⟨G,H,I,J,K⟩:=hi.aJ k z j g a A;refine⟨G,H,I,J,fun to f=>?_⟩;rcases K to f with c|c
    ·rcases Ly.1 c with c|c
     ·have t:=congrArg Prod.fst c;have u:=congrArg Prod.snd c;simp only at t u;exact .inr ⟨d9,by rw[t,u];exact d⟩
     ·exact .inl (List.mem_append_left _ c)
    ·refine .inr ⟨c.1,?_⟩;by_cases U:to.toNat=p.toNat
     ·rw[U,e1] at c;have:=Option.some.inj c.2;omega
     ·rw[List.getElem?_set_ne (fun h=>U h.symm)];exact c.2⟩ (fun z a=>by
   rcases MN.1 a with a|a
   ·exact T z a
   ·obtain⟨w,_,rfl⟩:=MM.1 a;exact⟨O.1,O.2.1⟩)
  refine⟨E,fun k z g a=>?_,fun z a=>?_⟩
  ·by_cases b:k=p.toNat
   ·subst b;rw[e1] at g;cases g;exact absurd a C
   ·exact s k z (by rw[List.getElem?_set_ne (fun h=>b h.symm)];exact g) a
  ·rcases Ly.1 a with rfl|a
   ·exact⟨B,s _ _ d D.1⟩
   ·exact F z (List.mem_append_left _ a)
theorem d16 (m:Me):∀(n:Nat) (h:List Int) (q:List (Int×Int)) (r:List Int×dA),cC m n h q=some (.ret r)->r.2.err≠0
 |0,h,q,r,e=>by cases e
 |n+1,h,[],r,e=>by rw[cC] at e;cases e
 |n+1,h,(p,x)::l,r,e=>by
  rw[cC] at e
  (repeat' split at e)<;>first|(cases e;done)|(cases e;simp;done)|exact d16 m n _ _ r e
def Jv (m:Me):tP m (MC m.code.length (-1)) [(0,0)] :=
 ⟨l8,fun k y i a b _=>by
  rw[List.getElem?_replicate] at a;split at a
  ·cases a;omega
  ·cases a⟩
def Bp : ki [(0,0)]:=by
 intro q a;simp only[Ly,List.not_mem_nil,or_false] at a;subst a;decide
def dQ (w:Wd) (c:Int) (m:Me):List Ins->Nat->H9 dA Unit
 |[],_=>.next ()
 |i::l,k=>if br w c m i=0 then dQ w c m l (k+1) else .ret ⟨br w c m i,k⟩
theorem pQ {w:Wd} {c:Int} {m:Me}:∀{l:List Ins} {k:Nat},dQ w c m l k=.next ()->∀i∈l,br w c m i=0
 |[],_,_,i,hi=>by cases hi
 |x::l,k,h,i,hi=>by
  rw[dQ] at h;split at h
  ·rename_i a;rcases Ly.1 hi with rfl|hi
   ·exact a
   ·exact pQ h i hi
  ·cases h
theorem DL {w:Wd} {c:Int} {m:Me}:∀{l:List Ins} {k:Nat} {r:dA},dQ w c m l k=.ret r->r.err≠0
 |[],_,_,h=>by cases h
 |x::l,k,r,h=>by
  rw[dQ] at h;split at h
  ·exact DL h
  ·rename_i a;cases h;exact a
def uU {w:Wd} {c:Int} {m:Me} {i:Ins} (h:br w c m i=0) (e:i.op=14):0<=i.a/\i.a<=4:=by
 unfold br fi at h;simp only[e] at h;by_cases b:0<=i.a
 ·by_cases d:i.a<5
  ·omega
  ·simp[b,d] at h
 ·simp[b] at h
def ao (N:Nat) (w:Wd) (c:Int) (m:Me):Option dA :=
 if c<0\/(w.a7.length:Int)<=c then some ⟨6,0⟩ else if Y2 m.name=false then some ⟨7,0⟩
 else if m.args<0\/4<m.args\/m.a8<0\/6<m.a8 then some ⟨3,0⟩ else if m.aX≠0 then some ⟨1,0⟩
 else if m.code.length<1\/60<m.code.length then some ⟨5,0⟩ else match dQ w c m m.code 0 with
  |.ret r=>some r
  |.next ()=>((cC m N (MC m.code.length (-1)) [(0,0)]).map qU).map (·.2)
theorem ze (N:Nat) (w:Wd) (c:Int) (m:Me) (a:1048578<=N) (b:w.a7.length<=1048576):∀(l:List Ins) (k:Nat),n5 N w c m l k=some (dQ w c m l k)
 |[],k=>rfl
 |x::l,k=>by
  rw[n5,dQ,FI N w c m x a b];simp only[A0];by_cases h:br w c m x=0
  ·simp only[h,Mv,M1,Ms,if_true];exact ze N w c m a b l (k+1)
  ·simp only[h,Mw,MJ,Mr,if_false]
def B3 (N:Nat) (w:Wd) (c:Int) (m:Me) (p:1048578<=N) (t:w.a7.length<=1048576):pN N w c m=ao N w c m:=by
 unfold pN ao;simp only[r6,A0,ze N w c m p t];by_cases a:c<0
 ·simp[a]
 by_cases d:(w.a7.length:Int)<=c
 ·simp[a,d]
 cases v:Y2 m.name with
 |false=>simp[a,d]
 |true =>
  by_cases f:m.args<0
  ·simp[a,d,f]
  by_cases g:4<m.args
  ·simp[a,d,f,g]
  by_cases h:m.a8<0
  ·simp[a,d,f,g,h]
  by_cases k:6<m.a8
  ·simp[a,d,f,g,h,k]
  by_cases l:m.aX=0
  ·by_cases n:m.code.length<1
   ·have e:(m.code.length:Int)<1:=d9;simp only[a,d,f,g,h,k,l,n,e,Mv,Mw,Mr,Ms,A0,or_self,if_false,M1,MJ,or_true,true_or,if_true,ne_eq,not_true,not_false_eq_true,Bool.true_eq_false]
   ·have e:¬(m.code.length:Int)<1:=d9;by_cases j:60<m.code.length
    ·have b:(60:Int)<(m.code.length:Int):=d9;simp only[a,d,f,g,h,k,l,n,e,j,b,Mv,Mw,Mr,Ms,A0,or_self,if_false,M1,MJ,or_true,true_or,if_true,ne_eq,not_true,not_false_eq_true,Bool.true_eq_false]
    ·have b:¬(60:Int)<(m.code.length:Int):=d9;simp only[a,d,f,g,h,k,l,n,e,j,b,Mv,Mw,Mr,Ms,A0,or_self,if_false,M1,MJ,ne_eq,not_true,not_false_eq_true,Bool.true_eq_false];cases q:dQ w c m m.code 0 with
     |ret r=>rfl
     |next u =>
      simp only[FH N m (fun i hi s=>uU (pQ q i hi) s) d9];generalize (cC m N (MC m.code.length (-1)) [(0,0)]).map qU=o;cases o<;>rfl
  ·simp[a,d,f,g,h,k,l]
structure yy (N:Nat) (w:Wd) (c:Int) (m:Me):Prop where
 cls:0<=c/\c<w.a7.length
 name:Y2 m.name=true
 args:0<=m.args/\m.args<=4
 a8:0<=m.a8/\m.a8<=6
 aX:m.aX=0
 len:1<=m.code.length/\m.code.length<=60
 num:∀i∈m.code,br w c m i=0
 neg:lY m
 cC:∃h,cC m N (MC m.code.length (-1)) [(0,0)]=some (.next h)
def C6 {N:Nat} {w:Wd} {c:Int} {m:Me} {f:dA} (h:ao N w c m=some f) (a:f.err=0):yy N w c m:=by
 unfold ao at h;by_cases g:c<0\/(w.a7.length:Int)<=c
 ·rw[Mu g] at h;cases h;cases a
 rw[Mt g] at h;by_cases j:Y2 m.name=false
 ·rw[Mu j] at h;cases h;cases a
 rw[Mt j] at h;by_cases k:m.args<0\/4<m.args\/m.a8<0\/6<m.a8
 ·rw[Mu k] at h;cases h;cases a
 rw[Mt k] at h;by_cases e:m.aX≠0
 ·rw[Mu e] at h;cases h;cases a
 rw[Mt e] at h;by_cases l:m.code.length<1\/60<m.code.length
 ·rw[Mu l] at h;cases h;cases a
 rw[Mt l] at h;cases b:dQ w c m m.code 0 with
 |ret r=>rw[b] at h;cases h;exact absurd a (DL b)
 |next u =>
  rw[b] at h;simp only at h;refine⟨d9,by cases p:Y2 m.name<;>simp_all,d9,d9,Decidable.byContradiction e,d9,fun i hi=>pQ b i hi,fun i hi d=>uU (pQ b i hi) d,?_⟩;cases d:Go.Proofs.YtibjcppjfkamhaaGreatDoor.cC m N (MC m.code.length (-1)) [(0,0)] with
  |none=>rw[d] at h;cases h
  |some o =>
   rw[d] at h;cases o with
   |ret r=>cases h;exact absurd a (d16 m _ _ _ _ d)
   |next n=>exact⟨n,rfl⟩
def x5 (N:Nat) (w:Wd) (c:Int) (m:Me) (e:4194304<=N):∃f,ao N w c m=some f:=by
 unfold ao
 (repeat' split)<;>first|exact⟨_,rfl⟩|skip
 rename_i d _ _ b;obtain⟨o,a⟩:=vP m (fun i hi a=>uU (pQ b i hi) a) N (MC m.code.length (-1)) [(0,0)] l8 Bp (by rw[uW];simp;omega);rw[a];exact⟨_,rfl⟩
theorem AD (N:Nat) (w:Wd) (c:Int) (m:Me) (a:∀i,M7 N w c m i=some (br w c m i)):∀(l:List Ins) (k:Nat),kB N w c m l k=some (dQ w c m l k)
 |[],k=>rfl
 |x::l,k=>by
  rw[kB,dQ,a x];simp only[A0];by_cases h:br w c m x=0
  ·simp only[h,Mv,M1,Ms,if_true];exact AD N w c m a l (k+1)
  ·simp only[h,Mw,MJ,Mr,if_false]
def og (N:Nat) (w:Wd) (c:Int) (m:Me) (q:1048578<=N) (x:w.a7.length<=1048576) (p:0<=p8 w c/\p8 w c<=1000000000):kG N w c m=ao N w c m:=by
 unfold kG ao;simp only[kE,A0];by_cases a:c<0
 ·simp[a]
 by_cases d:(w.a7.length:Int)<=c
 ·simp[a,d]
 cases y:Y2 m.name with
 |false=>simp[a,d]
 |true =>
  by_cases f:m.args<0
  ·simp[a,d,f]
  by_cases g:4<m.args
  ·simp[a,d,f,g]
  by_cases h:m.a8<0
  ·simp[a,d,f,g,h]
  by_cases k:6<m.a8
  ·simp[a,d,f,g,h,k]
  by_cases l:m.aX=0
  ·by_cases n:m.code.length<1
   ·have e:(m.code.length:Int)=0:=d9;simp only[a,d,f,g,h,k,l,n,e,Mv,Mw,Mr,Ms,A0,or_self,if_false,M1,MJ,or_true,true_or,if_true,ne_eq,not_true,not_false_eq_true,Bool.true_eq_false]
   ·have e:¬(m.code.length:Int)=0:=d9;by_cases j:60<m.code.length
    ·have b:(60:Int)<(m.code.length:Int):=d9;simp only[a,d,f,g,h,k,l,n,e,j,b,Mv,Mw,Mr,Ms,A0,or_self,if_false,M1,MJ,or_true,true_or,if_true,ne_eq,not_true,not_false_eq_true,Bool.true_eq_false]
    ·have b:¬(60:Int)<(m.code.length:Int):=d9;have t:∀i,M7 N w c m i=some (br w c m i):=fun i=>AI N w c m i q x d9 d9 d9 p d9;simp only[a,d,f,g,h,k,l,n,e,j,b,Mv,Mw,Ms,A0,or_self,if_false,M1,ne_eq,not_true,Bool.true_eq_false,AD N w c m t];cases s:dQ w c m m.code 0 with
     |ret r=>rfl
     |next u =>
      simp only[AH N m (fun i hi v=>uU (pQ s i hi) v) d9];generalize (cC m N (MC m.code.length (-1)) [(0,0)]).map qU=o;cases o<;>rfl
  ·simp[a,d,f,g,h,k,l]
def Fe (N:Nat) {l:List Ins} (h:l.length<=1048576):u5 N l=some l:=by
 unfold u5;rw[G5 d9];rfl
def uZ (N:Nat) (m:Me) (h:m.code.length<=1048576):lM N m=some m:=by
 unfold lM;rw[Fe N h];rfl
theorem zk (N:Nat):∀(l:List Me) (k:Nat) (a:List Me),(∀m∈l,m.code.length<=1048576)->a.length+l.length<=1048576->lP N l k a=some (a++l)
 |[],k,a,_,_=>by simp[lP]
 |x::l,k,a,h,hl=>by
  rw[lP,uZ N x (h x l8)];simp only[A0];rw[G5 (by simp at hl⊢;omega)];simp only[Mr];rw[zk N l (k+1) _ (fun o b=>h o (by simp[b])) (by simp at hl⊢;omega)];simp
theorem zg (N:Nat):∀(l:List Cl) (k:Nat) (a:List Cl),(∀x∈l,x.aC.length<=1048576/\∀m∈x.aC,m.code.length<=1048576)->a.length+l.length<=1048576->lK N l k a=some (a++l)
 |[],k,a,_,_=>by simp[lK]
 |x::l,k,a,h,hl=>by
  have b:=h x l8;rw[lK,zk N x.aC 0 [] b.2 (by simpa using b.1)];simp only[A0,List.nil_append];rw[G5 (by simp at hl⊢;omega)];simp only[Mr];rw[zg N l (k+1) _ (fun o c=>h o (by simp[c])) (by simp at hl⊢;omega)];simp
def ib (N:Nat) (w:Wd) (h:D6 w):gk N w=some w:=by
 unfold gk;rw[rh N h.2.2.2 h.2.1];simp only[A0];rw[zg N w.a7 0 [] h.2.2.1 (by simpa using h.1)];rfl
theorem AO (N:Nat):∀(l:List Me) (k:Nat) (a:List Me),(∀m∈l,m.code.length<=1048576)->a.length+l.length<=1048576->lB N l k a=some (a++l)
 |[],k,a,_,_=>by simp[lB]
 |x::l,k,a,h,hl=>by
  rw[lB,uZ N x (h x l8)];simp only[A0];rw[G5 (by simp at hl⊢;omega)];simp only[Mr];rw[AO N l (k+1) _ (fun o b=>h o (by simp[b])) (by simp at hl⊢;omega)];simp
theorem AL (N:Nat):∀(l:List Cl) (k:Nat) (a:List Cl),(∀x∈l,x.aC.length<=1048576/\∀m∈x.aC,m.code.length<=1048576)->a.length+l.length<=1048576->lA N l k a=some (a++l)
 |[],k,a,_,_=>by simp[lA]
 |x::l,k,a,h,hl=>by
  have b:=h x l8;rw[lA,AO N x.aC 0 [] b.2 (by simpa using b.1)];simp only[A0,List.nil_append];rw[G5 (by simp at hl⊢;omega)];simp only[Mr];rw[AL N l (k+1) _ (fun o c=>h o (by simp[c])) (by simp at hl⊢;omega)];simp
def GW (N:Nat) (w:Wd) (h:D6 w):sG N w=some w:=by
 unfold sG;rw[rh N h.2.2.2 h.2.1];simp only[A0];rw[AL N w.a7 0 [] h.2.2.1 (by simpa using h.1)];rfl
theorem AJ (N:Nat):∀(l:List Me) (k:Nat) (a:List Me),(∀m∈l,m.code.length<=1048576)->a.length+l.length<=1048576->lC N l k a=some (a++l)
 |[],k,a,_,_=>by simp[lC]
 |x::l,k,a,h,hl=>by
  rw[lC,uZ N x (h x l8)];simp only[A0];rw[G5 (by simp at hl⊢;omega)];simp only[Mr];rw[AJ N l (k+1) _ (fun o b=>h o (by simp[b])) (by simp at hl⊢;omega)];simp
theorem AM (N:Nat):∀(l:List Cl) (k:Nat) (a:List Cl),(∀x∈l,x.aC.length<=1048576/\∀m∈x.aC,m.code.length<=1048576)->a.length+l.length<=1048576->lD N l k a=some (a++l)
 |[],k,a,_,_=>by simp[lD]
 |x::l,k,a,h,hl=>by
  have b:=h x l8;rw[lD,AJ N x.aC 0 [] b.2 (by simpa using b.1)];simp only[A0,List.nil_append];rw[G5 (by simp at hl⊢;omega)];simp only[Mr];rw[AM N l (k+1) _ (fun o c=>h o (by simp[c])) (by simp at hl⊢;omega)];simp
def FT (N:Nat) (w:Wd) (h:D6 w):sC N w=some w:=by
 unfold sC;rw[rh N h.2.2.2 h.2.1];simp only[A0];rw[AM N w.a7 0 [] h.2.2.1 (by simpa using h.1)];rfl
structure Cf where
 heap:List Ob
 aH:Int
 aO:Int
 fs:List j3
 back:V
 err:Int
 ev:List (St×Int)
def cJ (f:j3) (v:V):j3:={ f with aA:=f.aA++[v] }
def cR (f:j3):Option (V×j3):=f.aA.getLast?.map fun v=>(v,{ f with aA:=f.aA.dropLast })
def V3 (c:Cf) (e:Int):Cf:={ c with err:=e }
def dL (c:Cf) (v:V):Cf:=match c.fs with
 |[]=>{ c with back:=v }
 |f::F=>{ c with fs:=cJ f v::F }
def fq (Q:Int->Int->Fs×Bool) (k j:Int) (m:Me) (self:V) (args:List V):j3 :=
 if(Q k j).2=true then⟨k,j,true,(Q k j).1.code,self,args,MC (Q k j).1.a8.toNat ⟨0,0⟩,[],0⟩
 else⟨k,j,false,m.code,self,args,MC m.a8.toNat ⟨0,0⟩,[],0⟩
def fj (w:Wd) (aE:Int) (Q:Int->Int->Fs×Bool) (c:Cf) (k j:Int) (self:V) (args:List V):Option Cf :=
 (j4 w.a7 k).bind fun x=>(j4 x.aC j).bind fun m =>
  if m.args≠args.length then some (V3 c 8)
  else if m.aX≠0 then
   if aE<=c.aH then some (V3 c 13) else(j4 args 0).bind fun a =>
    if(eh m.aX self a).2≠0 then some (V3 { c with aH:=c.aH+1 } (eh m.aX self a).2) else some (dL { c with aH:=c.aH+1 } (eh m.aX self a).1)
  else if aE<=c.aH then some (V3 c 13)
  else if 20<=c.fs.length then some (V3 c 14)
  else some { c with aH:=c.aH+1,fs:=fq Q k j m self args::c.fs }
def cW (c:Cf) (f:j3) (F:List j3) (to:Int):Cf :=
 if to<f.aJ then { c with aO:=c.aO+1,fs:={ f with aJ:=to }::F,err:=if 300<c.aO+1 then 16 else c.err } else { c with fs:={ f with aJ:=to }::F }
def R7 (f:j3) (m:Me) (i:Ins) (p:Int):St:=⟨f.aK,m.name,if f.aY=true then i.c else p⟩
def ka (w:Wd) (aE:Int) (L:St->Int->ByteArray->Int×Int) (Q:Int->Int->Fs×Bool) (c:Cf) (f:j3) (F:List j3) (i:Ins) (p:Int):Option Cf :=
 if 0<=i.a/\i.a<f.aA.length then
  (f.aA[f.aA.length-i.a.toNat-1]?).bind fun x=>(j4 w.a7 f.aK).bind fun cl=>(j4 cl.aC f.aN).bind fun m =>
   if(L (R7 f m i p) (G9 c.heap x) i.name).2<0 then
    some (V3 { c with fs:=f::F,ev:=c.ev++[((R7 f m i p),G9 c.heap x)] } 10)
   else fj w aE Q { c with fs:={ f with aA:=f.aA.take (f.aA.length-i.a.toNat-1) }::F,ev:=c.ev++[((R7 f m i p),G9 c.heap x)] }
    (L (R7 f m i p) (G9 c.heap x) i.name).1 (L (R7 f m i p) (G9 c.heap x) i.name).2 x (f.aA.drop (f.aA.length-i.a.toNat))
 else none
def lu (w:Wd) (c:Cf) (f:j3) (F:List j3) (i:Ins):Option Cf :=
 if 0<=i.b/\i.b<f.aA.length then
  (f.aA[f.aA.length-1-i.b.toNat]?).bind fun x=>if G9 c.heap x=i.a then some { c with fs:=f::F } else
   (j4 w.a7 f.aK).bind fun cl=>(j4 cl.aC f.aN).bind fun m =>
    if 0<=m.a8/\m.a8<=f.a8.length then some { c with fs:={ f with aY:=false,code:=m.code,a8:=f.a8.take m.a8.toNat,aJ:=i.c }::F } else none
 else none
def jq (h:List Ob) (o:V) (n:Int) (v:V):Option (List Ob) :=
 if o.k=4 then(if 0<=o.n then(match h[o.n.toNat]? with
  |none=>some h
  |some b=>if n<b.aI.length then(if 0<=n then some (h.set o.n.toNat ⟨b.cls,b.aI.set n.toNat v⟩) else none) else some h) else none) else some h
def kX (w:Wd) (c:Cf) (f:j3) (F:List j3) (i:Ins):Option Cf :=
 if i.op=1 then some { c with fs:=cJ f f.aU::F }
 else if i.op=2 then(j4 f.args i.a).map fun v=>{ c with fs:=cJ f v::F }
 else if i.op=3 then(j4 f.a8 i.a).map fun v=>{ c with fs:=cJ f v::F }
 else if i.op=4 then some { c with fs:=cJ f (lW c.heap f.aU i.a)::F }
 else if i.op=5 then some { c with fs:=cJ f ⟨3,i.a⟩::F }
 else if i.op=6 then some { c with fs:=cJ f ⟨0,0⟩::F }
 else if i.op=7 then some { c with fs:=cJ f ⟨1,0⟩::F }
 else if i.op=8 then some { c with fs:=cJ f ⟨2,0⟩::F }
 else if i.op=9 then(cR f).map fun p=>{ c with fs:=p.2::F }
 else if i.op=10 then f.aA.getLast?.map fun v=>{ c with fs:=cJ f v::F }
 else if i.op=11 then(cR f).bind fun p=>if 0<=i.a/\i.a<f.a8.length then some { c with fs:={ p.2 with a8:=f.a8.set i.a.toNat p.1 }::F } else none
 else if i.op=12 then(cR f).bind fun p=>(jq c.heap f.aU i.a p.1).map fun h=>{ c with heap:=h,fs:=p.2::F }
 else if i.op=19 then(j4 f.a8 i.a).map fun t=>{ c with fs:=cJ f (lW c.heap t i.b)::F }
 else if i.op=20 then(j4 f.a8 i.a).bind fun t=>(cR f).bind fun p=>(jq c.heap t i.b p.1).map fun h=>{ c with heap:=h,fs:=p.2::F }
 else if i.op=13 then(if 60<=c.heap.length then some (V3 { c with fs:=f::F } 15) else some { c with heap:=c.heap++[⟨i.a,MC (p8 w i.a).toNat ⟨0,0⟩⟩],fs:=cJ f ⟨4,(c.heap.length:Int)⟩::F })
 else some { c with fs:=f::F }
def iM (aE:Int) (c:Cf):Cf:=if aE<=c.aH then V3 c 13 else if 20<=c.fs.length then V3 c 14 else { c with aH:=c.aH+1 }
def kT (c:Cf) (F:List j3) (i:Ins) (p:V×j3):Cf :=
 if p.1.k=1 then cW c p.2 F i.a else if p.1.k=2 then { c with fs:=p.2::F } else V3 { c with fs:=p.2::F } 11
def P5 (w:Wd) (aE:Int) (L:St->Int->ByteArray->Int×Int) (Q:Int->Int->Fs×Bool) (c:Cf):Option Cf :=
 match c.fs with
 |[]=>none
 |f::F=>(j4 f.code f.aJ).bind fun i =>
  if i.op=14 then ka w aE L Q c { f with aJ:=f.aJ+1 } F i f.aJ
  else if i.op=15 then some (cW c { f with aJ:=f.aJ+1 } F i.a)
  else if i.op=16 then(cR { f with aJ:=f.aJ+1 }).map (kT c F i)
  else if i.op=17 then(cR { f with aJ:=f.aJ+1 }).map fun p=>dL { c with fs:=F } p.1
  else if i.op=18 then lu w c { f with aJ:=f.aJ+1 } F i
  else if i.op=21 then some (iM aE { c with fs:={ f with aJ:=f.aJ+1 }::F })
  else kX w c { f with aJ:=f.aJ+1 } F i
theorem CF (w:Wd) (H:List Ob) (e:Int):∀(n:Nat) (c:Int),bj ⟨w.a7,H,e⟩ n c=bj w n c
 |0,_=>rfl
 |n+1,c=>by
  unfold bj;simp only[CF w H e n]
def pD (w:Wd) (H:List Ob) (e:Int) (c:Int):p8 ⟨w.a7,H,e⟩ c=p8 w c:=by
 unfold p8;simp only[CF]
theorem AY (w:Wd) (H:List Ob) (e:Int) (s:ByteArray):∀(n:Nat) (c:Int),X5 ⟨w.a7,H,e⟩ s n c=X5 w s n c
 |0,_=>rfl
 |n+1,c=>by
  unfold X5;simp only[AY w H e s n]
def Ab (w:Wd) (H:List Ob) (e:Int) (s:ByteArray) (c:Int):l7 ⟨w.a7,H,e⟩ s c=l7 w s c:=by
 unfold l7;simp only[AY]
theorem iO (v:V):(⟨v.k,v.n⟩:V)=v:=rfl
def tI {f:j3} {F:List j3} (h:F.length<=1000):wr (((f::F).reverse.length:Int)-1)=(F.length:Int):=by
 rw[u7 (by unfold I1;simp;omega)];simp
def cz (f:j3) (F:List j3):(f::F).reverse[F.length]?=some f:=by
 rw[List.reverse_cons,MS l8];simp
def yL (f:j3) (F:List j3):j4 (f::F).reverse (F.length:Int)=some f:=by rw[D9,cz]
def eM (f g:j3) (F:List j3):(f::F).reverse.set F.length g=(g::F).reverse:=by
 rw[List.reverse_cons,List.set_append_right (h:=by simp)];simp
def CX (f:j3) (F:List j3):(f::F).reverse.take F.length=F.reverse:=by
 rw[List.reverse_cons,List.take_left' l8]
def Kv (f:j3) (F:List j3):¬(((f::F).reverse.length:Int)=0):=M3
section
variable {N:Nat} {cl:List Cl} {H:List Ob} {ep aE aH aO err:Int} {back:V}
def iq (fr:List j3) (e:Int):F5 N ⟨⟨cl,H,ep⟩,aE,aH,aO,fr,back,0⟩ e=some ⟨⟨cl,H,ep⟩,aE,aH,aO,fr,back,e⟩:=by
 simp[F5]
def xh (fr:List j3) (b:Bool) (f:-1000000<=aH/\aH<=1000000):N7 N ⟨⟨cl,H,ep⟩,aE,aH,aO,fr,back,0⟩ b =
  some (if aE<=aH then(false,⟨⟨cl,H,ep⟩,aE,aH,aO,fr,back,13⟩) else if b=true/\20<=fr.length then(false,⟨⟨cl,H,ep⟩,aE,aH,aO,fr,back,14⟩) else(true,⟨⟨cl,H,ep⟩,aE,aH+1,aO,fr,back,0⟩)):=by
 have e:wr (aH+1)=aH+1:=u7 ino;unfold N7;simp only[iq,e];by_cases c:aE<=aH
 ·simp only[c,Mv,Mr,if_true,A0]
 ·by_cases d:20<=fr.length
  ·have a:(20:Int)<=(fr.length:Int):=d9;cases b<;>simp[c,d,a]
  ·have a:¬(20:Int)<=(fr.length:Int):=d9;cases b<;>simp[c,d,a]
def Jz (F:List j3) (v:V) (a:F.length<=1000) (b:∀f∈F,f.aA.length<=1000):Q6 N ⟨⟨cl,H,ep⟩,aE,aH,aO,F.reverse,back,err⟩ v =
  some (match F with
   |[]=>⟨⟨cl,H,ep⟩,aE,aH,aO,[],v,err⟩
   |f::G=>⟨⟨cl,H,ep⟩,aE,aH,aO,(cJ f v::G).reverse,back,err⟩):=by
 unfold Q6;cases F with
 |nil=>simp
 |cons f G =>
  have hl:f.aA.length<=1000:=b f l8;simp only[tI (show G.length<=1000 by simp at a;omega),yL,MX,eM,A0];rw[G5 M3,Mx (Kv f G)];rfl
end
structure cE (f:j3):Prop where
 aA:f.aA.length<=1000
 code:f.code.length<=1000
 num:∀v∈f.aA,v.k=3->gM v.n
structure Wk (w:Wd) (Q:Int->Int->Fs×Bool) (c:Cf):Prop where
 cls:w.a7.length<=1048576
 aq:∀x∈w.a7,∀m∈x.aC,0<=m.a8/\m.a8<=1000
 aI:∀k,0<=p8 w k/\p8 w k<=1000
 quick:∀k j,(Q k j).2=true->0<=(Q k j).1.a8/\(Q k j).1.a8<=1000
 heap:c.heap.length<=1000/\∀o∈c.heap,o.aI.length<=1000
 fs:c.fs.length<=900
 fr:∀f∈c.fs,cE f
 aH:-1000000<=c.aH/\c.aH<=100000
 aO:-1000000<=c.aO/\c.aO<=100000
def Cf.toM (w:Wd) (aE:Int) (c:Cf):D7:=⟨⟨w.a7,c.heap,w.aB⟩,aE,c.aH,c.aO,c.fs.reverse,c.back,c.err⟩
def eJ {a:Type} {l:List a} {i:Int} {x:a} (h:j4 l i=some x):x∈l:=MI (l6 h).2
def yD {w:Wd} {aE:Int} {N:Nat} (c:Cf) (v:V) (a:c.fs.length<=1000) (d:∀f∈c.fs,f.aA.length<=1000) :
  Q6 N (c.toM w aE) v=some ((dL c v).toM w aE):=by
 obtain⟨h,s,t,fs,b,e,ev⟩:=c;unfold Cf.toM;rw[Jz fs v a d];cases fs<;>rfl
section
variable {w:Wd} {aE:Int} {N:Nat} {gl:St->Int->ByteArray->Option (Int×Int)} {gq:Int->Int->Option (Fs×Bool)} {L:St->Int->ByteArray->Int×Int} {Q:Int->Int->Fs×Bool}
def vK (r:∀k j x m,j4 w.a7 k=some x->j4 x.aC j=some m->gq k j=some (Q k j))
  (G:∀x∈w.a7,∀m∈x.aC,0<=m.a8/\m.a8<=1000) (B:∀k j,(Q k j).2=true->0<=(Q k j).1.a8/\(Q k j).1.a8<=1000)
  (c:Cf) (A:c.err=0) (C:-1000000<=c.aH/\c.aH<=1000000) (y:c.fs.length<=1000) (i:∀f∈c.fs,f.aA.length<=1000) (k j:Int) (self:V) (args:List V)
  (E:self.k=3->gM self.n) (F:∀v∈args,v.k=3->gM v.n) (K:args.length<=1000) (c':Cf) (h:fj w aE Q c k j self args=some c') :
  M9 N (c.toM w aE) gq k j self args=some (c'.toM w aE):=by
 obtain⟨J,s,t,fs,b,e,ev⟩:=c;simp only at A C y i;subst A;unfold fj at h;obtain⟨x,u,h⟩:=M6 h;obtain⟨m,g,h⟩:=M6 h;have I:=G x (eJ u) m (eJ g);unfold M9 Cf.toM;simp only[u,g,A0,iq,xh fs.reverse _ C];simp only at h;by_cases g1:m.args=args.length
 ·rw[Mt (by simpa using g1)] at h;rw[My g1];simp only[M1,Ms];by_cases l:m.aX=0
  ·rw[Mt (by simpa using l)] at h;rw[My l];simp only[M1,Ms];by_cases d:aE<=s
   ·rw[Mu d] at h;cases h;simp only[d,if_true,MJ,Mr];rfl
   ·rw[Mt d] at h;by_cases o:20<=fs.length
    ·rw[Mu o] at h;cases h;simp only[d,List.length_reverse,o,and_self,if_true,if_false,MJ,Mr];rfl
    ·rw[Mt o] at h;cases h;have e1:(decide (0<=m.a8) && decide (m.a8<=140737488355328) && decide (m.a8*16<=140737488355328))=true:=by
      simp only[IT,Mz];omega
     simp only[d,List.length_reverse,o,and_false,if_false,M1,Ms,uG N (show args.length<=1048576 by omega),A0,r k j x m u g,e1,Mr];cases q:(Q k j).2 with
     |true =>
      have B:=B k j q;have D:(decide (0<=(Q k j).1.a8) && decide ((Q k j).1.a8<=140737488355328) && decide ((Q k j).1.a8*16<=140737488355328))=true:=by
       simp only[IT,Mz];omega
      simp only[D,Mr,A0];rw[G5 M3];simp only[Mr,fq,q,if_true,List.reverse_cons]
     |false =>
      simp only[Ms,A0];rw[G5 M3];simp only[Mr,fq,q,Mc,if_false,List.reverse_cons]
  ·rw[Mu (by simpa using l)] at h;rw[Mx l];simp only[MJ,Mr];by_cases d:aE<=s
   ·rw[Mu d] at h;cases h;simp only[d,if_true,MJ,Mr];rfl
   ·rw[Mt d] at h;obtain⟨a,z,h⟩:=M6 h;simp only[d,Mc,false_and,if_false,M1,Ms,z,A0,Gy N m.aX self a E (F a (eJ z)),iq];by_cases p:(eh m.aX self a).2=0
    ·rw[Mt (by simpa using p)] at h;cases h;rw[My p];simp only[M1,Ms];have:=yD (w:=w) (aE:=aE) (N:=N) ⟨J,s+1,t,fs,b,0,ev⟩ (eh m.aX self a).1 y i;simp only[Cf.toM] at this;rw[this];cases fs<;>rfl
    ·rw[Mu (by simpa using p)] at h;cases h;rw[Mx p];rfl
 ·rw[Mu (by simpa using g1)] at h;cases h;rw[Mx g1];rfl
def xi {l:List V} {v:V} (h:l.getLast?=some v) (hl:l.length<=1000):j4 l (wr ((l.length:Int)-1))=some v/\wr ((l.length:Int)-1)=((l.length-1:Nat):Int)/\1<=l.length /\
  (decide (0<=wr ((l.length:Int)-1)) && decide (wr ((l.length:Int)-1)<=(l.length:Int)))=true:=by
 have b:1<=l.length:=by
  cases l with
  |nil=>cases h
  |cons a l=>simp
 have e:wr ((l.length:Int)-1)=((l.length-1:Nat):Int):=by rw[u7 ino];omega
 rw[e];refine⟨?_,rfl,b,by simp only[IT,Mz];omega⟩;rw[D9,<-h,List.getLast?_eq_getElem?]
def ig {f:j3} {p:V×j3} (h:cR f=some p):f.aA.getLast?=some p.1/\p.2={ f with aA:=f.aA.dropLast }:=by
 unfold cR at h;rw[ME] at h;obtain⟨v,a,rfl⟩:=h;exact⟨a,rfl⟩
def ji {f:j3} {F:List j3} {p:V×j3} (h:cR f=some p) (hl:f.aA.length<=1000):Y9 N (f::F).reverse F.length=some (p.1,(p.2::F).reverse):=by
 obtain⟨c,d⟩:=ig h;obtain⟨e1,a,e,b⟩:=xi c hl;unfold Y9;rw[cz];simp only[A0,e1,b,Mr,eM,d];rw[a,MX,List.dropLast_eq_take]
def d17 {f:j3} {F:List j3} {p:V×j3} (h:cR f=some p) (hl:f.aA.length<=1000):oe N (f::F).reverse F.length=some (p.1,(p.2::F).reverse):=by
 obtain⟨c,d⟩:=ig h;obtain⟨e1,a,e,b⟩:=xi c hl;unfold oe;rw[cz];simp only[A0,e1,b,Mr,eM,d];rw[a,MX,List.dropLast_eq_take]
def ll {f:j3} {F:List j3} (v:V) (hl:f.aA.length<=1000):O4 N v (f::F).reverse F.length=some (cJ f v::F).reverse:=by
 unfold O4;rw[cz];simp only[A0,eM];rw[G5 M3];rfl
def DC {f:j3} {F:List j3} (v:V) (hl:f.aA.length<=1000):oc N v (f::F).reverse F.length=some (cJ f v::F).reverse:=by
 unfold oc;rw[cz];simp only[A0,eM];rw[G5 M3];rfl
def Jh {f:j3} {F:List j3} (v:V) (s:List V) (hl:s.length<=1000):r7 N v s (f::F).reverse F.length=some (s++[v]):=by
 unfold r7;rw[cz];simp only[A0];rw[G5 M3];rfl
def Dy {cl:List Cl} {H j:List Ob} {ep s t e:Int} {fr:List j3} {b:V} {o:V} {n:Int} {v:V} (h:jq H o n v=some j) :
  jS N ⟨⟨cl,H,ep⟩,aE,s,t,fr,b,e⟩ o n v=some ⟨⟨cl,j,ep⟩,aE,s,t,fr,b,e⟩:=by
 unfold jq at h;unfold jS;by_cases d:o.k=4
 ·rw[Mu d] at h;by_cases g:0<=o.n
  ·rw[Mu g] at h;cases c:H[o.n.toNat]? with
   |none =>
    rw[c] at h;cases h;have a:¬o.n<(H.length:Int):=by have:=List.getElem?_eq_none_iff.1 c;omega
    simp only[d,a,Option.elim,Mv,Mw,Mr,Ms,A0]
   |some x =>
    rw[c] at h;have a:o.n<(H.length:Int):=by have:=(Lx.1 c).1;omega
    have l:j4 H o.n=some x:=(by rw[fE g,c]);simp only[l,d,a,Option.elim,Mv,Mr,A0];simp only at h;by_cases f:n<(x.aI.length:Int)
    ·rw[Mu f] at h;by_cases i:0<=n
     ·rw[Mu i] at h;cases h;obtain⟨y,_,m⟩:=de i f;simp only[f,m,Mv,Mr,A0]
     ·rw[Mt i] at h;cases h
    ·rw[Mt f] at h;cases h;simp only[f,Mw,Ms,A0]
  ·rw[Mt g] at h;cases h
 ·rw[Mt d] at h;cases h;cases c:H[o.n.toNat]?<;>simp only[d,Option.elim,Mw,Ms,A0]
def vd (c:Cf) (f:j3) (F:List j3) (to:Int) (d:c.err=0) (g:-1000000<=c.aO/\c.aO<=1000000) :
  P9 N ⟨⟨w.a7,c.heap,w.aB⟩,aE,c.aH,c.aO,(f::F).reverse,c.back,c.err⟩ F.length to=some ((cW c f F to).toM w aE):=by
 unfold P9 cW;have e:wr (c.aO+1)=c.aO+1:=u7 ino;simp only[cz,A0,e,d,iq];by_cases a:to<f.aJ
 ·by_cases b:300<c.aO+1
  ·simp only[a,b,Mv,Mr,A0,if_true,eM,Cf.toM]
  ·simp only[a,b,Mv,Mw,Mr,Ms,A0,if_true,if_false,eM,Cf.toM]
 ·simp only[a,Mw,Ms,A0,if_false,eM,Cf.toM]
def D3 (c:Cf) (f:j3) (F:List j3) (i:Ins) (hl:f.aA.length<=1000) {c':Cf} (h:lu w c f F i=some c') :
  V7 N ⟨⟨w.a7,c.heap,w.aB⟩,aE,c.aH,c.aO,(f::F).reverse,c.back,c.err⟩ F.length i=some (c'.toM w aE):=by
 unfold lu at h;by_cases j:0<=i.b/\i.b<f.aA.length
 ·rw[Mu j] at h;obtain⟨x,n,h⟩:=M6 h;have e1:wr ((f.aA.length:Int)-1)=(f.aA.length:Int)-1:=u7 ino;have k:wr ((f.aA.length:Int)-1-i.b)=((f.aA.length-1-i.b.toNat:Nat):Int):=by rw[u7 ino];omega
  unfold V7;simp only[cz,A0,e1,k,D9,n,rP];by_cases d:G9 c.heap x=i.a
  ·rw[Mu d] at h;cases h;simp only[d,Mv,Mr,Cf.toM]
  ·rw[Mt d] at h;obtain⟨cl,g,h⟩:=M6 h;obtain⟨m,l,h⟩:=M6 h;simp only[d,Mw,Ms,g,l,A0];by_cases e:0<=m.a8/\m.a8<=f.a8.length
   ·rw[Mu e] at h;cases h;simp only[e.1,e.2,Mv,Bool.and_self,Mr,eM,Cf.toM]
   ·rw[Mt e] at h;cases h
 ·rw[Mt j] at h;cases h
def sN (c:Cf) (v:V):(dL c v).heap=c.heap:=by
 unfold dL;split<;>rfl
def pH {c c':Cf} {k j:Int} {self:V} {args:List V} (h:fj w aE Q c k j self args=some c'):∃x m,j4 w.a7 k=some x/\j4 x.aC j=some m /\
  ((m.args≠args.length/\c'=V3 c 8)\/(m.args=args.length/\aE<=c.aH/\c'=V3 c 13) \/
   (m.args=args.length/\c.aH<aE/\m.aX≠0/\∃a,j4 args 0=some a/\(((eh m.aX self a).2≠0/\c'=V3 { c with aH:=c.aH+1 } (eh m.aX self a).2) \/
    ((eh m.aX self a).2=0/\c'=dL { c with aH:=c.aH+1 } (eh m.aX self a).1))) \/
   (m.args=args.length/\c.aH<aE/\m.aX=0/\20<=c.fs.length/\c'=V3 c 14) \/
   (m.args=args.length/\c.aH<aE/\m.aX=0/\c.fs.length<20/\c'={ c with aH:=c.aH+1,fs:=fq Q k j m self args::c.fs })):=by
 unfold fj at h;obtain⟨x,l,h⟩:=M6 h;obtain⟨m,i,h⟩:=M6 h;refine⟨x,m,l,i,?_⟩;by_cases d:m.args=args.length
 ·rw[Mt (by simpa using d)] at h;refine .inr ?_;by_cases f:aE<=c.aH
  ·refine .inl ⟨d,f,?_⟩;rw[Mu f,Mu f] at h;split at h<;>(cases h;rfl)
  refine .inr ?_;rw[Mt f,Mt f] at h;by_cases e:m.aX=0
  ·rw[Mt (by simpa using e)] at h;refine .inr ?_;by_cases b:20<=c.fs.length
   ·rw[Mu b] at h;cases h;exact .inl ⟨d,d9,e,b,rfl⟩
   ·rw[Mt b] at h;cases h;exact .inr ⟨d,d9,e,d9,rfl⟩
  ·rw[Mu (by simpa using e)] at h;obtain⟨a,g,h⟩:=M6 h;refine .inl ⟨d,d9,e,a,g,?_⟩;by_cases b:(eh m.aX self a).2=0
   ·rw[Mt (by simpa using b)] at h;cases h;exact .inr ⟨b,rfl⟩
   ·rw[Mu (by simpa using b)] at h;cases h;exact .inl ⟨b,rfl⟩
 ·rw[Mu (by simpa using d)] at h;cases h;exact .inl ⟨d,rfl⟩
def ru {c c':Cf} {k j:Int} {self:V} {args:List V} (h:fj w aE Q c k j self args=some c'):c'.heap=c.heap:=by
 obtain⟨x,m,_,_,h|h|⟨_,_,_,a,_,h|h⟩|h|h⟩:=pH h
 ·rw[h.2];rfl
 ·rw[h.2.2];rfl
 ·rw[h.2];rfl
 ·rw[h.2];exact sN _ _
 ·rw[h.2.2.2.2];rfl
 ·rw[h.2.2.2.2]
def pU {c c':Cf} {f:j3} {F:List j3} {i:Ins} {p:Int} (h:ka w aE L Q c f F i p=some c'):∃x cl m,0<=i.a/\i.a<f.aA.length/\f.aA[f.aA.length-i.a.toNat-1]?=some x /\
  j4 w.a7 f.aK=some cl/\j4 cl.aC f.aN=some m /\
  (((L (R7 f m i p) (G9 c.heap x) i.name).2<0/\c'=V3 { c with fs:=f::F,ev:=c.ev++[(R7 f m i p,G9 c.heap x)] } 10) \/
   (0<=(L (R7 f m i p) (G9 c.heap x) i.name).2/\fj w aE Q { c with fs:={ f with aA:=f.aA.take (f.aA.length-i.a.toNat-1) }::F,ev:=c.ev++[(R7 f m i p,G9 c.heap x)] }
    (L (R7 f m i p) (G9 c.heap x) i.name).1 (L (R7 f m i p) (G9 c.heap x) i.name).2 x (f.aA.drop (f.aA.length-i.a.toNat))=some c')):=by
 unfold ka at h;by_cases b:0<=i.a/\i.a<f.aA.length
 ·rw[Mu b] at h;obtain⟨x,j,h⟩:=M6 h;obtain⟨cl,e,h⟩:=M6 h;obtain⟨m,g,h⟩:=M6 h;refine⟨x,cl,m,b.1,b.2,j,e,g,?_⟩;by_cases d:(L (R7 f m i p) (G9 c.heap x) i.name).2<0
  ·rw[Mu d] at h;cases h;exact .inl ⟨d,rfl⟩
  ·rw[Mt d] at h;exact .inr ⟨d9,h⟩
 ·rw[Mt b] at h;cases h
def AW {c c':Cf} {f:j3} {F:List j3} {i:Ins} {p:Int} (h:ka w aE L Q c f F i p=some c'):c'.heap=c.heap:=by
 obtain⟨x,cl,m,_,_,_,_,_,h|h⟩:=pU h
 ·rw[h.2];rfl
 ·exact(ru h.2).trans rfl
def Ki (q:∀s k n,gl s k n=some (L s k n)) (r:∀k j x m,j4 w.a7 k=some x->j4 x.aC j=some m->gq k j=some (Q k j))
  (c:Cf) (W:Wk w Q c) (e:c.err=0) (f:j3) (F:List j3) (l:cE f) (B:∀f∈F,cE f) (C:F.length<=899) (i:Ins) (p:Int) {c':Cf} (h:ka w aE L Q c f F i p=some c') :
  mg N ⟨⟨w.a7,c.heap,w.aB⟩,aE,c.aH,c.aO,(f::F).reverse,c.back,c.err⟩ gl gq F.length i p=some (c'.toM w aE):=by
 obtain⟨x,cl,m,J,K,u,d,E,h⟩:=pU h;have hl:=l.aA;have e1:wr ((f.aA.length:Int)-i.a)=((f.aA.length-i.a.toNat:Nat):Int):=by rw[u7 ino];omega
 have A:wr (((f.aA.length-i.a.toNat:Nat):Int)-1)=((f.aA.length-i.a.toNat-1:Nat):Int):=by rw[u7 ino];omega
 have y:(decide ((0:Int)<=((f.aA.length-i.a.toNat:Nat):Int)) && decide (((f.aA.length-i.a.toNat:Nat):Int)<=(f.aA.length:Int)))=true:=by simp only[IT,Mz];omega
 have z:(decide ((0:Int)<=((f.aA.length-i.a.toNat-1:Nat):Int)) && decide (((f.aA.length-i.a.toNat-1:Nat):Int)<=(f.aA.length:Int)))=true:=by simp only[IT,Mz];omega
 have b:((bif f.aY then some i.c else some p):Option Int)=some (R7 f m i p).pos:=by unfold R7;cases f.aY<;>rfl
 have G:(⟨f.aK,m.name,(R7 f m i p).pos⟩:St)=R7 f m i p:=rfl;unfold mg;simp only[cz,A0,e1,A,y,z,Mr,MX,D9,u,d,E,rP,q,b,G,e,iq,eM,
  uG N (show(f.aA.drop (f.aA.length-i.a.toNat)).length<=1048576 by simp;omega)]
 rcases h with⟨t,rfl⟩|⟨t,h⟩
 ·simp only[t,Mv,Mr];rfl
 ·rw[Mx d9];simp only[Ms];have:=vK (N:=N) r W.aq W.quick _ (by exact e) (by have:=W.aH;exact⟨this.1,bN⟩) M3 (fun g o=>by
    rcases Ly.1 o with rfl|o
    ·simp;omega
    ·exact(B g o).aA) _ _ x _ (l.num x (MI u)) (fun v I=>l.num v (List.mem_of_mem_drop I)) M3 c' h
  simp only[Cf.toM,e] at this;rw[this];simp only[A0,Cf.toM];have D:c'.heap=c.heap:=(ru h).trans rfl;rw[D]
def d12 (c:Cf) (W:Wk w Q c) (O:1048578<=N) (P:c.err=0) (f:j3) (F:List j3) (R:cE f) (i:Ins) {c':Cf} (h:kX w c f F i=some c') :
  Y0 N ⟨⟨w.a7,c.heap,w.aB⟩,aE,c.aH,c.aO,(f::F).reverse,c.back,c.err⟩ F.length i=some (c'.toM w aE):=by
 have hl:=R.aA;unfold kX at h;unfold Y0;by_cases u:i.op=1
 ·rw[Mu u] at h;cases h;simp only[u,cz,ll _ hl,Mv,Mr,A0,iO];rfl
 rw[Mt u] at h;by_cases x:i.op=2
 ·rw[Mu x] at h;rw[ME] at h;obtain⟨v,r,rfl⟩:=h;simp only[x,r,cz,ll _ hl,Mv,Mr,A0];rfl
 rw[Mt x] at h;by_cases z:i.op=3
 ·rw[Mu z] at h;rw[ME] at h;obtain⟨v,r,rfl⟩:=h;simp only[z,r,cz,eM,DC _ hl,Mv,Mr,A0];rfl
 rw[Mt z] at h;by_cases A:i.op=4
 ·rw[Mu A] at h;cases h;simp only[A,cz,BE,ll _ hl,Mv,Mr,A0];rfl
 rw[Mt A] at h;by_cases B:i.op=5
 ·rw[Mu B] at h;cases h;simp only[B,cz,ll _ hl,Mv,Mr,A0];rfl
 rw[Mt B] at h;by_cases C:i.op=6
 ·rw[Mu C] at h;cases h;simp only[C,cz,ll _ hl,Mv,Mr,A0];rfl
 rw[Mt C] at h;by_cases D:i.op=7
 ·rw[Mu D] at h;cases h;simp only[D,cz,we,ll _ hl,Mv,Mr,A0];rfl
 rw[Mt D] at h;by_cases E:i.op=8
 ·rw[Mu E] at h;cases h;simp only[E,cz,we,ll _ hl,Mv,A0];rfl
 rw[Mt E] at h;by_cases G:i.op=9
 ·rw[Mu G] at h;rw[ME] at h;obtain⟨q,p,rfl⟩:=h;simp only[G,cz,ji p hl,Mv,Mr,A0];rfl
 rw[Mt G] at h;by_cases g:i.op=10
 ·rw[Mu g] at h;rw[ME] at h;obtain⟨v,r,rfl⟩:=h;obtain⟨e1,X,Y,Z⟩:=xi r hl;simp only[g,cz,eM,e1,Jh _ _ hl,Mv,Mr,A0];rfl
 rw[Mt g] at h;by_cases j:i.op=11
 ·rw[Mu j] at h;obtain⟨q,p,h⟩:=M6 h;by_cases I:0<=i.a/\i.a<f.a8.length
  ·rw[Mu I] at h;cases h;obtain⟨y,_,T⟩:=de I.1 I.2;simp only[j,T,cz,eM,d17 p hl,Mv,Mr,A0];rfl
  ·rw[Mt I] at h;cases h
 rw[Mt j] at h;by_cases k:i.op=12
 ·rw[Mu k] at h;obtain⟨q,p,h⟩:=M6 h;rw[ME] at h;obtain⟨M,J,rfl⟩:=h;have hs:q.2.aU=f.aU:=by rw[(ig p).2]
  simp only[k,cz,eM,ji p hl,Dy J,Mv,Mr,A0];rfl
 rw[Mt k] at h;by_cases m:i.op=19
 ·rw[Mu m] at h;rw[ME] at h;obtain⟨v,r,rfl⟩:=h;simp only[m,r,cz,eM,BE,DC _ hl,Mv,Mr,A0];rfl
 rw[Mt m] at h;by_cases n:i.op=20
 ·rw[Mu n] at h;obtain⟨tv,K,h⟩:=M6 h;obtain⟨q,p,h⟩:=M6 h;rw[ME] at h;obtain⟨M,J,rfl⟩:=h;obtain⟨qv,U⟩:=q;obtain rfl:U={ f with aA:=f.aA.dropLast }:=(ig p).2;simp only[n,K,cz,eM,d17 p hl,Dy J,Mv,Mr,A0];rfl
 rw[Mt n] at h;by_cases d:i.op=13
 ·rw[Mu d] at h;have t:=W.aI i.a;have b:=HD N (l:=c.heap) i.a (p8 w i.a) (fun o S=>by have:=W.heap.2 o S;omega) (by have:=W.heap.1;omega) t.1 t.2;have e:iJ N (⟨w.a7,c.heap,w.aB⟩:Wd) i.a=some (p8 w i.a):=(oh N ⟨w.a7,c.heap,w.aB⟩ i.a O W.cls).trans (by rw[pD w c.heap w.aB i.a]);by_cases s:60<=c.heap.length
  ·rw[Mu s] at h b;cases h;simp only[d,e,b,P,iq,show((15:Int)=0)=False by decide,MJ,Mv,Mw,Mr,A0];rfl
  ·rw[Mt s] at h b;cases h;simp only[d,e,b,ll _ hl,M1,Mv,Mr,Ms,A0];rfl
 rw[Mt d] at h;cases h;simp only[u,x,z,A,B,C,D,E,G,g,j,k,m,n,d,Mw,Ms,A0,iO];rfl
def Jw (R:1048578<=N) (G:∀s k n,gl s k n=some (L s k n)) (I:∀k j x m,j4 w.a7 k=some x->j4 x.aC j=some m->gq k j=some (Q k j))
  (c:Cf) (W:Wk w Q c) (v:c.err=0) {c':Cf} (h:P5 w aE L Q c=some c'):mi N (c.toM w aE) gl gq=some (c'.toM w aE):=by
 unfold P5 at h;cases o:c.fs with
 |nil=>rw[o] at h;cases h
 |cons f F =>
  rw[o] at h;obtain⟨i,hi,h⟩:=M6 h;have u:=W.fs;rw[o] at u;simp only[MB] at u;have z:cE f:=W.fr f (by rw[o];simp);have M:∀g∈F,cE g:=fun g A=>W.fr g (by rw[o];simp[A]);have U:=fZ hi;have bn:=z.code;have wp:wr (f.aJ+1)=f.aJ+1:=u7 ino;have T:=tI (f:=f) (F:=F) d9;generalize A:({ f with aJ:=f.aJ+1 }:j3)=g at h;have d:g.aA.length<=1000:=by rw[<-A];exact z.aA
  have C:cE g:=by rw[<-A];exact⟨z.aA,z.code,z.num⟩
  unfold mi Cf.toM;have P:∀(x:Cf),(⟨⟨w.a7,x.heap,w.aB⟩,aE,x.aH,x.aO,x.fs.reverse,⟨x.back.k,x.back.n⟩,x.err⟩:D7)=x.toM w aE:=fun x=>rfl;simp only[o,T,wp,yL,hi,A0,MX,eM,A];by_cases e:i.op=14
  ·rw[Mu e] at h;have:=Ki (gl:=gl) (N:=N) G I c W v g F C M d9 i f.aJ h;have J:=AW h;simp only[e,this,Mv,Mr,A0,Cf.toM,iO,J]
  rw[Mt e] at h;by_cases l:i.op=15
  ·rw[Mu l] at h;cases h;have:=vd (w:=w) (aE:=aE) (N:=N) c g F i.a v (by have:=W.aO;omega);simp only[l,this,Mv,Mr,A0,Cf.toM];unfold cW;split<;>rfl
  rw[Mt l] at h;by_cases b:i.op=16
  ·rw[Mu b] at h;rw[ME] at h;obtain⟨q,D,rfl⟩:=h;have:=vd (w:=w) (aE:=aE) (N:=N) c q.2 F i.a v (by have:=W.aO;omega);unfold kT;by_cases y:q.1.k=1
   ·simp only[b,ji D d,this,y,Mv,Mr,A0,Cf.toM,if_true];unfold cW;split<;>rfl
   ·by_cases E:q.1.k=2
    ·simp only[b,ji D d,E,Mv,Mr,A0,if_true];rfl
    ·simp only[b,ji D d,y,E,v,iq,Mv,Mw,Mr,Ms,A0,if_false];rfl
  rw[Mt b] at h;by_cases p:i.op=17
  ·rw[Mu p] at h;rw[ME] at h;obtain⟨q,D,rfl⟩:=h;have K:=tI (f:=q.2) (F:=F) d9;have B:=yD (w:=w) (aE:=aE) (N:=N) { c with fs:=F } q.1 bN (fun x S=>(M x S).aA);simp only[Cf.toM] at B;have O:(decide ((0:Int)<=(F.length:Int)) && decide ((F.length:Int)<=((q.2::F).reverse.length:Int)))=true:=M3;simp only[Mx e,Mx l,Mx b,My p,ji D d,K,O,MX,CX,B,Mr,Ms,A0,iO,sN]
  rw[Mt p] at h;by_cases r:i.op=18
  ·rw[Mu r] at h;have:=D3 (w:=w) (aE:=aE) (N:=N) c g F i d h;have J:c'.heap=c.heap:=by
    unfold lu at h;split at h
    ·obtain⟨x,_,h⟩:=M6 h;split at h
     ·cases h;rfl
     ·obtain⟨cl,_,h⟩:=M6 h;obtain⟨m,_,h⟩:=M6 h;split at h<;>cases h;rfl
    ·cases h
   simp only[Mx e,Mx l,Mx b,Mx p,My r,this,Mr,Ms,A0,Cf.toM,iO,J]
  rw[Mt r] at h;by_cases t:i.op=21
  ·rw[Mu t] at h;cases h;have:=xh (N:=N) (cl:=w.a7) (H:=c.heap) (ep:=w.aB) (aE:=aE) (aH:=c.aH) (aO:=c.aO) (back:=c.back) (g::F).reverse true (by have:=W.aH;omega);simp only[t,v,this,Mv,Mr,A0];unfold iM;by_cases y:aE<=c.aH
   ·simp only[y,if_true];rfl
   ·by_cases E:20<=(g::F).length
    ·simp only[y,E,List.length_reverse,if_true,if_false,and_self];rfl
    ·simp only[y,E,List.length_reverse,if_false,and_false];rfl
  rw[Mt t] at h;have:=d12 (w:=w) (aE:=aE) (N:=N) c W R v g F C i h;simp only[e,l,b,p,r,t,this,Mw,Ms,A0,Cf.toM,iO]
end
def pB {N:Nat} {w:Wd} (h:I5 N w):∀x∈w.a7,0<=x.aI/\x.aI<=6:=fun x b=>by
 obtain⟨j,a⟩:=Mn.1 b;have:=h.cls j x a;exact⟨this.2.2.2.2.1,this.2.2.2.2.2⟩
def xI {w:Wd} (a:∀x∈w.a7,0<=x.aI/\x.aI<=6) (b:w.a7.length<=12) (c:Int):0<=p8 w c/\p8 w c<=78:=by
 have hl:=vJ w (w.a7.length+1) c;have h:=uy a (bj w (w.a7.length+1) c) 0 d9 d9;exact⟨h.1,Int.le_trans h.2 d9⟩
def Bz {w:Wd} {k:Int} {m:Me} {i:Ins} (h:br w k m i=0):fi w k m i=some true/\jo i=false:=by
 unfold br at h;cases a:fi w k m i with
 |none=>rw[a] at h;cases h
 |some b =>
  rw[a] at h;cases b with
  |false=>simp at h
  |true =>
   cases d:jo i with
   |true=>simp[d] at h
   |false=>exact⟨rfl,rfl⟩
def yH {w:Wd} {k:Int} {m:Me} {i:Ins} (h:br w k m i=0) :
  ((i.op=1\/i.op=6\/i.op=7\/i.op=8\/i.op=9\/i.op=10\/i.op=17)/\i.a=0)\/(i.op=2/\0<=i.a/\i.a<m.args)\/((i.op=3\/i.op=11)/\0<=i.a/\i.a<m.a8) \/
  ((i.op=4\/i.op=12)/\0<=i.a/\i.a<p8 w k)\/(i.op=5/\-1073741824<=i.a/\i.a<=1073741824)\/(i.op=13/\(i.a=0\/(4<=i.a/\i.a<w.a7.length)))\/(i.op=14/\0<=i.a/\i.a<5) \/
  ((i.op=15\/i.op=16)/\0<=i.a/\i.a<m.code.length):=by
 have h:=(Bz h).1;unfold fi at h
 (repeat' split at h)<;>simp only[Option.some.injEq,IT,Bool.or_eq_true,Mz,reduceCtorEq] at h<;>simp_all
def R6 (n:Int) (v:V):Prop:=ch v n=0
theorem R6.mono {n a:Int} {v:V} (h:R6 n v) (b:n<=a):R6 a v:=by
 unfold R6 ch at *
 (repeat' split at h)<;>first|(simp at h)|skip
 all_goals (repeat' split)<;>first|rfl|omega
theorem R6.num {n:Int} {v:V} (h:R6 n v) (b:v.k=3):gM v.n:=by
 unfold R6 ch at h;simp only[b] at h;unfold gM;by_cases a:v.n < -1073741824\/1073741824<v.n
 ·simp[a] at h
 ·omega
theorem R6.ref {n:Int} {v:V} (h:R6 n v) (b:v.k=4):0<=v.n/\v.n<n:=by
 unfold R6 ch at h;simp only[b] at h;by_cases a:v.n<0\/n<=v.n
 ·simp[a] at h
 ·omega
theorem R6.nil (n:Int):R6 n ⟨0,0⟩:=rfl
theorem R6.zI (n:Int):R6 n ⟨1,0⟩:=rfl
theorem R6.zS (n:Int):R6 n ⟨2,0⟩:=rfl
theorem R6.int (n:Int) {x:Int} (h:-1073741824<=x/\x<=1073741824):R6 n ⟨3,x⟩:=by
 unfold R6 ch;have:¬(x < -1073741824\/1073741824<x):=d9;simp[this]
theorem R6.obj {n:Int} {x:Int} (h:0<=x/\x<n):R6 n ⟨4,x⟩:=by
 unfold R6 ch;have:¬(x<0\/n<=x):=d9;simp[this]
theorem R6.aX {n p:Int} {a b:V} (h:(eh p a b).2=0):R6 n (eh p a b).1:=by
 have g:∀x:Int,R6 n (qS x):=fun x=>by
  refine R6.int n ?_;have d:=Int.tmod_lt_of_pos x (show(0:Int)<1073741825 by omega);have e:-1073741825<x.tmod 1073741825:=by
   rcases Int.le_total 0 x with h|h
   ·have:=Int.tmod_nonneg (1073741825:Int) h;omega
   ·have:=Int.tmod_lt_of_pos (-x) (show(0:Int)<1073741825 by omega);rw[Int.neg_tmod] at this;omega
  omega
 unfold eh at *;by_cases i:a.k≠3\/b.k≠3
 ·rw[Mu i] at h;cases h
 rw[Mt i] at h⊢;by_cases d:p=1
 ·rw[Mu d];exact g _
 rw[Mt d] at h⊢;by_cases e:p=2
 ·rw[Mu e];exact g _
 rw[Mt e] at h⊢;by_cases j:p=3
 ·rw[Mu j];exact g _
 rw[Mt j] at h⊢;by_cases l:p=4
 ·rw[Mu l];simp only;split<;>first|exact R6.zS n|exact R6.zI n
 rw[Mt l] at h⊢;by_cases m:p=5
 ·rw[Mu m];simp only;split<;>first|exact R6.zS n|exact R6.zI n
 rw[Mt m] at h;cases h
structure tz (w:Wd) (k:Int) (m:Me):Prop where
 args:0<=m.args/\m.args<=4
 a8:0<=m.a8/\m.a8<=6
 len:m.code.length<=60
 aX:m.aX=0
 num:∀i∈m.code,br w k m i=0
 cC:∃h,tP m h []/\h[0]?=some 0
structure cf (w:Wd):Prop where
 cls:w.a7.length<=12
 aI:∀k,0<=p8 w k/\p8 w k<=78
 zQ:∀k:Int,0<=k->k<w.a7.length->p8 w k<=6
 ms:∀x∈w.a7,x.aC.length<=8
 code:∀x∈w.a7,∀m∈x.aC,m.code.length<=60
 aq:∀k x j m,j4 w.a7 k=some x->j4 x.aC j=some m->tz w k m\/(m.aX≠0/\m.args=1/\m.a8=0)
theorem cf.a8 {w:Wd} (W:cf w):∀x∈w.a7,∀m∈x.aC,0<=m.a8/\m.a8<=1000:=fun x e m d=>by
 obtain⟨k,b⟩:=Mn.1 e;obtain⟨j,a⟩:=Mn.1 d;rcases W.aq k x j m (by rw[D9,b]) (by rw[D9,a]) with h|⟨_,_,h⟩
 ·have:=h.a8;omega
 ·omega
theorem yy.Ls {N:Nat} {w:Wd} {k:Int} {m:Me} (h:yy N w k m):tz w k m:=by
 obtain⟨a,e⟩:=h.cC;obtain⟨b,_,d⟩:=wq m h.neg N _ _ a e (Jv m) Bp;exact⟨h.args,h.a8,h.len.2,h.aX,h.num,a,b,(d (0,0) l8).2⟩
def d40 : ∀p∈bx,p.aX≠0:=E5
theorem I5.oZ {N:Nat} {w:Wd} (r:4194304<=N) (n:D6 w) (h:I5 N w):cf w:=by
 have e:=pB h;refine⟨h.many.2.1,fun k=>xI e h.many.2.1 k,fun k g b=>?_,fun x a=>?_,fun x a m d=>?_,fun k x j m a d=>?_⟩
 ·obtain⟨x,a,_⟩:=de g b;have:=(h.aq k.toNat x a).1
  rwa [Int.toNat_of_nonneg g] at this
 ·obtain⟨k,l⟩:=Mn.1 a;exact(h.aq k x l).2.1
 ·obtain⟨k,l⟩:=Mn.1 a;exact(d99 d9 n.1 h l d).len
 ·obtain⟨g,a⟩:=l6 a;have d:=eJ d;rcases(h.aq k.toNat x a).2.2.2 m d with⟨_,p,q,_,b,i,o,_⟩|⟨f,b,i⟩
  ·exact .inr ⟨by rw[<-b];exact d40 p q,i,o⟩
  ·rw[Int.toNat_of_nonneg g,og N w k m d9 n.1 (kM e n.1 k)] at b;exact .inl (C6 b i).Ls
structure Fr (w:Wd) (n:Int) (m:Me) (h:List Int) (f:j3) (d:Nat):Prop where
 bp:f.aY=false
 aq:∃x,j4 w.a7 f.aK=some x/\j4 x.aC f.aN=some m
 code:f.code=m.code
 me:tz w f.aK m
 hi:tP m h []
 args:(f.args.length:Int)=m.args
 a8:(f.a8.length:Int)=m.a8
 pos:0<=f.aJ
 aJ:h[f.aJ.toNat]?=some ((f.aA.length+d:Nat):Int)
 self:R6 n f.aU
 fB:∀v∈f.args,R6 n v
 bC:∀v∈f.a8,R6 n v
 al:∀v∈f.aA,R6 n v
def dm (w:Wd) (n:Int) (d:Nat) (f:j3):Prop:=∃m h,Fr w n m h f d
theorem dm.mono {w:Wd} {n e:Int} {d:Nat} {f:j3} (h:dm w n d f) (b:n<=e):dm w e d f:=by
 obtain⟨m,g,F⟩:=h;exact⟨m,g,F.bp,F.aq,F.code,F.me,F.hi,F.args,F.a8,F.pos,F.aJ,F.self.mono b,fun v a=>(F.fB v a).mono b,fun v a=>(F.bC v a).mono b,fun v a=>(F.al v a).mono b⟩
theorem Fr.len {w:Wd} {n:Int} {m:Me} {h:List Int} {f:j3} {d:Nat} (F:Fr w n m h f d):∃i,f.code[f.aJ.toNat]?=some i/\j4 f.code f.aJ=some i/\i∈m.code/\f.aJ<f.code.length/\f.aA.length+d<=12 /\
  (U3 i f.aJ).1<=((f.aA.length+d:Nat):Int)/\(i.op=17->f.aA.length+d=1)/\0<=wr (((f.aA.length+d:Nat):Int)+(U3 i f.aJ).2.1) /\
  ∀to∈(U3 i f.aJ).2.2,0<=to/\h[to.toNat]?=some (wr (((f.aA.length+d:Nat):Int)+(U3 i f.aJ).2.1)):=by
 have a:f.aJ.toNat<m.code.length:=by
  have:=(Lx.1 F.aJ).1;rw[F.hi.len] at this;exact this
 have hi:m.code[f.aJ.toNat]?=some m.code[f.aJ.toNat]:=IS a;have:=F.hi.aJ f.aJ.toNat _ _ F.aJ d9 hi;rw[Int.toNat_of_nonneg F.pos] at this;obtain⟨g,o,j,k,l⟩:=this;refine⟨m.code[f.aJ.toNat],by rw[F.code,hi],by rw[F.code,fE F.pos,hi],List.getElem_mem a,by rw[F.code];have:=F.pos;omega,d9,g,fun e=>by have:=j e;omega,k,fun to b=>?_⟩;rcases l to b with h|h
 ·cases h
 ·exact h
theorem Fr.go {w:Wd} {n:Int} {m:Me} {h:List Int} {f:j3} {d:Nat} (F:Fr w n m h f d) (to:Int) (T S:List V) (b:Nat) (e:0<=to) (a:h[to.toNat]?=some ((S.length+b:Nat):Int)) (g:T.length=f.a8.length)
  (vT:∀v∈T,R6 n v) (i:∀v∈S,R6 n v):Fr w n m h { f with aJ:=to,a8:=T,aA:=S } b :=
 ⟨F.bp,F.aq,F.code,F.me,F.hi,F.args,by rw[show({ f with aJ:=to,a8:=T,aA:=S }:j3).a8=T from rfl,g];exact F.a8,e,a,F.self,F.fB,vT,i⟩
def vx (w:Wd) (n:Int) (o:Ob):Prop:=0<=o.cls/\(0<o.cls->4<=o.cls)/\o.cls<w.a7.length/\(o.aI.length:Int)=p8 w o.cls/\∀v∈o.aI,R6 n v
theorem vx.mono {w:Wd} {n a:Int} {o:Ob} (h:vx w n o) (b:n<=a):vx w a o:=⟨h.1,h.2.1,h.2.2.1,h.2.2.2.1,fun v d=>(h.2.2.2.2 v d).mono b⟩
structure gu (w:Wd) (h:List Ob):Prop where
 len:h.length<=60
 ob:∀o∈h,vx w (h.length:Int) o
def zA (w:Wd) (n:Int):List j3->Prop
 |[]=>True
 |f::F=>dm w n 0 f/\∀g∈F,dm w n 1 g
structure dF (w:Wd) (aE:Int) (c:Cf):Prop where
 heap:gu w c.heap
 fl:c.fs.length<=20
 fs:zA w (c.heap.length:Int) c.fs
 aH:0<=c.aH/\c.aH<=aE/\aE<=400
 aO:0<=c.aO/\c.aO<=300
 back:R6 (c.heap.length:Int) c.back
theorem dF.Ll {w:Wd} {aE:Int} {c:Cf} (I:dF w aE c):∀f∈c.fs,∃d,dm w (c.heap.length:Int) d f:=fun f a=>by
 have h:=I.fs;cases b:c.fs with
 |nil=>rw[b] at a;cases a
 |cons g G =>
  rw[b] at h a;rcases Ly.1 a with rfl|a
  ·exact⟨0,h.1⟩
  ·exact⟨1,h.2 f a⟩
theorem dF.wk {w:Wd} {aE:Int} {c:Cf} (W:cf w) (I:dF w aE c) {Q:Int->Int->Fs×Bool} (a:∀k j,(Q k j).2=true->0<=(Q k j).1.a8/\(Q k j).1.a8<=1000):Wk w Q c:=by
 refine⟨by have:=W.cls;omega,W.a8,fun k=>by have:=W.aI k;omega,a,⟨by have:=I.heap.len;omega,fun o g=>?_⟩,by have:=I.fl;omega,fun f b=>?_,by have:=I.aH;omega,by have:=I.aO;omega⟩
 ·have h:=(I.heap.ob o g).2.2.2.1;have:=W.aI o.cls;omega
 ·obtain⟨d,m,h,F⟩:=I.Ll f b;obtain⟨i,_,_,_,_,n,_⟩:=F.len;exact⟨d9,by rw[F.code];have:=F.me.len;omega,fun v l e=>(F.al v l).num e⟩
def Z6 (f:j3):Nat:=(f.code.length-f.aJ).toNat+(if f.aY=true then 70 else 0)
def mu (aE:Int) (c:Cf):Nat:=(c.fs.map Z6).sum+1000*(aE-c.aH).toNat+1000*(301-c.aO).toNat
structure gH (w:Wd) (aE:Int) (c c':Cf):Prop where
 mu:mu aE c'<mu aE c
 aH:c.aH<=c'.aH/\c'.aH<=aE
 heap:c.heap.length<=c'.heap.length
 inv:c'.err=0->dF w aE c'
theorem zA.tail {w:Wd} {n:Int} {f:j3} {F:List j3} (h:zA w n (f::F)):∀g∈F,dm w n 1 g:=h.2
def rT {f:j3} (h:f.aJ<f.code.length):Z6 { f with aJ:=f.aJ+1 }+1=Z6 f:=by
 unfold Z6;simp only;omega
def CV {w:Wd} {aE:Int} {c:Cf} {v:V} (d:gu w c.heap) (hl:c.fs.length<=20) (b:∀g∈c.fs,dm w (c.heap.length:Int) 1 g) (e:0<=c.aH/\c.aH<=aE/\aE<=400) (i:0<=c.aO/\c.aO<=300)
  (k:R6 (c.heap.length:Int) c.back) (j:R6 (c.heap.length:Int) v):dF w aE (dL c v):=by
 unfold dL;cases l:c.fs with
 |nil=>exact⟨d,l8,by simp only;trivial,e,i,j⟩
 |cons f F =>
  rw[l] at hl b;refine⟨d,by simpa using hl,⟨?_,fun g n=>b g (by simp[n])⟩,e,i,k⟩;obtain⟨m,h,R⟩:=b f l8;refine⟨m,h,R.bp,R.aq,R.code,R.me,R.hi,R.args,R.a8,R.pos,?_,R.self,R.fB,R.bC,fun u a=>?_⟩
  ·rw[show(cJ f v).aJ=f.aJ from rfl,R.aJ];simp[cJ]
  ·simp only[cJ,MN,MY] at a;rcases a with a|rfl
   ·exact R.al u a
   ·exact j
def su {aE:Int} {c:Cf} {v:V}:mu aE (dL c v)=mu aE c:=by
 unfold dL;cases a:c.fs with
 |nil=>simp[mu,a]
 |cons f F=>simp[mu,a,Z6,cJ]
def rr (c:Cf) (v:V):(dL c v).aH=c.aH/\(dL c v).aO=c.aO/\(dL c v).err=c.err/\(dL c v).ev=c.ev:=by
 unfold dL;split<;>exact⟨rfl,rfl,rfl,rfl⟩
def pW {Q:Int->Int->Fs×Bool} (a:∀k j,(Q k j).2=false) (k j:Int) (m:Me) (self:V) (args:List V):fq Q k j m self args=⟨k,j,false,m.code,self,args,MC m.a8.toNat ⟨0,0⟩,[],0⟩:=by
 unfold fq;rw[a];rfl
def DD {w:Wd} {aE:Int} {Q:Int->Int->Fs×Bool} (W:cf w) (y:∀k j,(Q k j).2=false) (c:Cf) (H:c.err=0) (C:gu w c.heap) (hl:c.fs.length<=20) (B:∀g∈c.fs,dm w (c.heap.length:Int) 1 g)
  (p:0<=c.aH/\c.aH<=aE/\aE<=400) (D:0<=c.aO/\c.aO<=300) (A:R6 (c.heap.length:Int) c.back) (k j:Int) (self:V) (args:List V) (e:R6 (c.heap.length:Int) self) (d:∀v∈args,R6 (c.heap.length:Int) v)
  (n:∃x m,j4 w.a7 k=some x/\j4 x.aC j=some m):∃c',fj w aE Q c k j self args=some c'/\c.aH<=c'.aH/\c'.aH<=aE/\c'.heap=c.heap/\mu aE c'<=mu aE c/\(c'.err=0->dF w aE c'):=by
 obtain⟨x,m,n,s⟩:=n;unfold fj;rw[n];simp only[A0];rw[s];simp only[A0];by_cases t:m.args=args.length
 ·rw[Mt (by simpa using t)];by_cases q:m.aX=0
  ·rw[Mt (by simpa using q)];by_cases o:aE<=c.aH
   ·rw[Mu o];exact⟨_,rfl,MH _,p.2.1,rfl,It _,fun h=>by cases h⟩
   rw[Mt o];by_cases b:20<=c.fs.length
   ·rw[Mu b];exact⟨_,rfl,MH _,p.2.1,rfl,It _,fun h=>by cases h⟩
   rw[Mt b];have r:tz w k m:=by
    rcases W.aq k x j m n s with h|h
    ·exact h
    ·exact absurd q h.1
   refine⟨_,rfl,bN,bN,rfl,?_,fun _=>⟨C,by simp only[MB];omega,⟨?_,B⟩,bN,D,A⟩⟩
   ·have G:=r.len;simp only[mu,ML,MT,pW y,Z6];simp only[Mc,if_false];omega
   ·obtain⟨h,hi,E⟩:=r.cC;rw[pW y];refine⟨m,h,rfl,⟨x,n,s⟩,rfl,r,hi,by rw[t],?_,MH _,by simpa using E,e,d,fun v u=>?_,fun v u=>by cases u⟩
    ·have:=r.a8;simp only[List.length_replicate];omega
    ·rw[(List.mem_replicate.1 u).2];exact R6.nil _
  ·rw[Mu (by simpa using q)];by_cases o:aE<=c.aH
   ·rw[Mu o];exact⟨_,rfl,MH _,p.2.1,rfl,It _,fun h=>by cases h⟩
   rw[Mt o];have z:m.args=1:=by
    rcases W.aq k x j m n s with h|h
    ·exact absurd h.aX q
    ·exact h.2.1
   obtain⟨a,_,z⟩:=de (l:=args) (i:=0) (MH _) d9;rw[z];simp only[A0];by_cases b:(eh m.aX self a).2=0
   ·rw[Mt (by simpa using b)];refine⟨_,rfl,by rw[(rr _ _).1];simp only;omega,by rw[(rr _ _).1];simp only;omega,sN _ _,?_,fun _=>?_⟩
    ·rw[su];simp only[mu];omega
    ·exact CV C hl B ⟨bN,bN,p.2.2⟩ D A (R6.aX b)
   ·rw[Mu (by simpa using b)];exact⟨_,rfl,by simp only[V3];omega,by simp only[V3];omega,rfl,by simp only[mu,V3];omega,fun h=>absurd h b⟩
 ·rw[Mu (by simpa using t)];exact⟨_,rfl,MH _,p.2.1,rfl,It _,fun h=>by cases h⟩
def kQ {i:Ins} {p:Int} (h:i.op=1\/i.op=2\/i.op=3\/i.op=4\/i.op=5\/i.op=6\/i.op=7\/i.op=8\/i.op=13):U3 i p=(0,1,[wr (p+1)]):=by
 unfold U3;rcases h with h|h|h|h|h|h|h|h|h<;>simp[h]
def vC {i:Ins} {p:Int} (h:i.op=9\/i.op=11\/i.op=12):U3 i p=(1,-1,[wr (p+1)]):=by
 unfold U3;simp[h]
def d85 {i:Ins} {p:Int} (h:i.op=10):U3 i p=(1,1,[wr (p+1)]):=by
 unfold U3;simp[h]
def KO {i:Ins} {p:Int} (h:i.op=14):U3 i p=(wr (i.a+1),-i.a,[wr (p+1)]):=by
 unfold U3;simp[h]
def KV {i:Ins} {p:Int} (h:i.op=15):U3 i p=(0,0,[i.a]):=by
 unfold U3;simp[h]
def DS {i:Ins} {p:Int} (h:i.op=16):U3 i p=(1,-1,[wr (p+1),i.a]):=by
 unfold U3;simp[h]
section
variable {w:Wd} {aE:Int} {c:Cf} {f:j3} {F:List j3}
def jd (I:dF w aE c) (d:c.fs=f::F) {c':Cf} {g:j3} (e1:c'.fs=g::F) (e:c'.aH=c.aH) (i:c'.aO=c.aO) (j:c'.back=c.back) (k:gu w c'.heap) (h:c.heap.length<=c'.heap.length)
  (o:Z6 g+1=Z6 f) (m:c'.err=0->dm w (c'.heap.length:Int) 0 g):gH w aE c c':=by
 have a:=I.fs;have b:=I.fl;rw[d] at a b;refine⟨?_,by rw[e];exact⟨MH _,I.aH.2.1⟩,h,fun l=>⟨k,by rw[e1];simpa using b,?_,by rw[e];exact I.aH,by rw[i];exact I.aO,by rw[j];exact I.back.mono d9⟩⟩
 ·simp only[mu,e1,e,i,d,ML,MT];omega
 ·rw[e1];exact⟨m l,fun x n=>(a.2 x n).mono d9⟩
def d18 (I:dF w aE c) (e:c.fs=f::F) (g:j3) (ah:g.aJ=f.aJ+1) (k:g.code=f.code) (l:g.aY=f.aY) (o:f.code.length<=1000) (i:f.aY=false) (q:0<=f.aJ/\f.aJ<f.code.length) (to:Int) (p:0<=to) (r:c.err=0)
  (m:dm w (c.heap.length:Int) 0 { g with aJ:=to }) (j:f.code.length<=60):gH w aE c (cW c g F to):=by
 have a:=I.fs;have d:=I.fl;have s:=I.aO;rw[e] at a d;unfold cW;by_cases h:to<g.aJ
 ·rw[Mu h];refine⟨?_,⟨MH _,I.aH.2.1⟩,It _,fun b=>⟨I.heap,by simpa using d,⟨m,a.2⟩,I.aH,?_,I.back⟩⟩
  ·simp only[mu,e,ML,MT,Z6,k,l,i];simp only[Mc,if_false];omega
  ·simp only at b⊢;by_cases n:300<c.aO+1
   ·rw[Mu n] at b;cases b
   ·omega
 ·rw[Mt h];refine⟨?_,⟨MH _,I.aH.2.1⟩,It _,fun b=>⟨I.heap,by simpa using d,⟨m,a.2⟩,I.aH,I.aO,I.back⟩⟩;simp only[mu,e,ML,MT,Z6,k,l,i];simp only[Mc,if_false];omega
def KZ {n:Int} {h:List Ob} (a:gu w h) (b:n=h.length) (v:V) (k:Int):R6 n (lW h v k):=by
 unfold lW;split
 ·split
  ·rename_i o d;rw[List.getD_eq_getElem?_getD];cases e:o.aI[k.toNat]? with
   |none=>exact R6.nil n
   |some x =>
    have:=(a.ob o (MI d)).2.2.2.2 x (MI e);rw[b];exact this
  ·exact R6.nil n
 ·exact R6.nil n
def Kn {h:List Ob} (d:gu w h) {o v:V} {k:Int} (q:R6 (h.length:Int) o) (r:R6 (h.length:Int) v) (p:0<=k):∃e,jq h o k v=some e/\gu w e/\e.length=h.length:=by
 unfold jq;by_cases g:o.k=4
 ·rw[Mu g];have i:=q.ref g;rw[Mu i.1];obtain⟨b,m,_⟩:=de i.1 i.2;rw[m];simp only;by_cases n:k<(b.aI.length:Int)
  ·rw[Mu n,Mu p];refine⟨_,rfl,⟨by rw[MU];exact d.len,fun x l=>?_⟩,MU⟩;rw[MU];rcases List.mem_or_eq_of_mem_set l with l|rfl
   ·exact d.ob x l
   ·have a:=d.ob b (MI m);refine⟨a.1,a.2.1,a.2.2.1,by simp only[MU];exact a.2.2.2.1,fun u j=>?_⟩;rcases List.mem_or_eq_of_mem_set j with j|rfl
    ·exact a.2.2.2.2 u j
    ·exact r
  ·rw[Mt n];exact⟨_,rfl,d,rfl⟩
 ·rw[Mt g];exact⟨_,rfl,d,rfl⟩
def d86 (W:cf w) {h:List Ob} (d:gu w h) (hl:h.length<60) {a:Int} (i:a=0\/(4<=a/\a<w.a7.length)) (g:0<w.a7.length):gu w (h++[⟨a,MC (p8 w a).toNat ⟨0,0⟩⟩]):=by
 refine⟨M3,fun o b=>?_⟩;rcases MN.1 b with b|b
 ·exact(d.ob o b).mono M3
 ·simp only[MY] at b;subst b;have:=W.aI a;exact⟨bN,bN,bN,by simp only[List.length_replicate];omega,fun v e=>by rw[(List.mem_replicate.1 e).2];exact R6.nil _⟩
def BI {l:List V} (h:1<=l.length):∃v,l.getLast?=some v/\v∈l:=by
 cases hl:l.getLast? with
 |none=>rw[List.getLast?_eq_none_iff] at hl;subst hl;simp at h
 |some v=>exact⟨v,rfl,List.mem_of_getLast? hl⟩
def tE {f:j3} (h:1<=f.aA.length):∃v,cR f=some (v,{ f with aA:=f.aA.dropLast })/\v∈f.aA:=by
 obtain⟨v,a,b⟩:=BI h;exact⟨v,by unfold cR;rw[a];rfl,b⟩
def re {Q:Int->Int->Fs×Bool} (W:cf w) (M:0<w.a7.length) (hQ:∀k j,(Q k j).2=false) (I:dF w aE c) (he:c.err=0) (r:c.fs=f::F):∃c',P5 w aE (fun _ k s=>l7 w s k) Q c=some c'/\gH w aE c c':=by
 have Z:=I.fs;have hfl:=I.fl;rw[r] at Z hfl;simp only[MB] at hfl;obtain⟨⟨m,h,R⟩,Z⟩:=Z;obtain⟨i,hi1,hi2,him,O,h12,d,E,hpos,b⟩:=R.len;simp only[Nat.add_zero] at h12 d E hpos b;have ah:=R.pos;have hme:=R.me;have hcl:f.code.length<=60:=by rw[R.code];exact hme.len
 have D:wr (f.aJ+1)=f.aJ+1:=u7 ino;have q:=yH (hme.num i him);have z:=rT O;unfold P5;rw[r];simp only[hi2,A0];have push:∀v:V,R6 (c.heap.length:Int) v->U3 i f.aJ=(0,1,[wr (f.aJ+1)])->∀n:Int,(c.heap.length:Int)<=n->dm w n 0 (cJ { f with aJ:=f.aJ+1 } v):=by
  intro v x y n hn;rw[y] at b;have:=b (wr (f.aJ+1)) l8;rw[D] at this;simp only at this;rw[u7 ino] at this;refine dm.mono ⟨m,h,R.go (f.aJ+1) f.a8 (f.aA++[v]) 0 d9 (by rw[this.2];simp) rfl R.bC (fun u t=>?_)⟩ hn;rcases MN.1 t with t|t
  ·exact R.al u t
  ·rw[MY.1 t];exact x
 have gx:∀v:V,R6 (c.heap.length:Int) v->U3 i f.aJ=(0,1,[wr (f.aJ+1)])->gH w aE c { c with fs:=cJ { f with aJ:=f.aJ+1 } v::F }:=fun v x y =>
  jd I r rfl rfl rfl rfl I.heap (It _) z fun _=>push v x y _ (MH _)
 have drop:∀v:V,cR f=some (v,{ f with aA:=f.aA.dropLast })->U3 i f.aJ=(1,-1,[wr (f.aJ+1)])->∀T:List V,T.length=f.a8.length->(∀u∈T,R6 (c.heap.length:Int) u) ->
   dm w (c.heap.length:Int) 0 { f with aJ:=f.aJ+1,a8:=T,aA:=f.aA.dropLast }:=by
  intro v x y T hT hT2;rw[y] at b d;have:=b (wr (f.aJ+1)) l8;rw[D] at this;simp only at this d;rw[u7 ino] at this;exact⟨m,h,R.go (f.aJ+1) T f.aA.dropLast 0 d9 (by rw[this.2,List.length_dropLast];congr 1;omega) hT hT2 fun u t=>R.al u ((List.dropLast_sublist _).subset t)⟩
 by_cases S:i.op=14
 ·rw[Mu S];rw[KO S] at d b;have B:0<=i.a/\i.a<5:=by
   rcases q with⟨h,_⟩|⟨h,_⟩|⟨h,_⟩|⟨h,_⟩|⟨h,_⟩|⟨h,_⟩|⟨_,h⟩|⟨h,_⟩<;>omega
  rw[u7 ino] at d;simp only at d;obtain⟨cl,hcl2,hm⟩:=R.aq;have y:=b (wr (f.aJ+1)) l8;rw[D] at y;simp only at y;rw[u7 ino] at y;unfold ka;rw[Mu bN];have L:f.aA.length-i.a.toNat-1<f.aA.length:=d9;simp only[IS L,hcl2,hm,A0];have P:R6 (c.heap.length:Int) f.aA[f.aA.length-i.a.toNat-1]:=R.al _ (List.getElem_mem L);by_cases hj:(l7 w i.name (G9 c.heap f.aA[f.aA.length-i.a.toNat-1])).2<0
  ·rw[Mu hj];exact⟨_,rfl,jd I r rfl rfl rfl rfl I.heap (It _) z fun e=>by cases e⟩
  ·rw[Mt hj];obtain⟨x',m',hx',hm',_⟩:=rb (w:=w) (s:=i.name) (c:=G9 c.heap f.aA[f.aA.length-i.a.toNat-1]) d9;have hg:dm w (c.heap.length:Int) 1 { f with aJ:=f.aJ+1,aA:=f.aA.take (f.aA.length-i.a.toNat-1) } :=
    ⟨m,h,R.go (f.aJ+1) f.a8 (f.aA.take (f.aA.length-i.a.toNat-1)) 1 d9 (by rw[y.2];congr 1;simp;omega) rfl R.bC fun u t=>R.al u (List.mem_of_mem_take t)⟩
   obtain⟨c',h1',h2',h3',h4',h5',h6'⟩:=DD (Q:=Q) (aE:=aE) W hQ { c with fs:={ f with aJ:=f.aJ+1,aA:=f.aA.take (f.aA.length-i.a.toNat-1) }::F,ev:=c.ev++[(R7 { f with aJ:=f.aJ+1 } m i f.aJ,G9 c.heap f.aA[f.aA.length-i.a.toNat-1])] }
    he I.heap M3 (fun g N=>by
     rcases Ly.1 N with rfl|N
     ·exact hg
     ·exact Z g N) I.aH I.aO I.back _ _ _ (f.aA.drop (f.aA.length-i.a.toNat)) P (fun v x=>R.al v (List.mem_of_mem_drop x)) ⟨x',m',hx',hm'⟩
   refine⟨c',h1',?_,⟨h2',h3'⟩,by rw[h4'];exact It _,h6'⟩;refine Nat.lt_of_le_of_lt h5' ?_;simp only[mu,r,ML,MT];have:Z6 { f with aJ:=f.aJ+1,aA:=f.aA.take (f.aA.length-i.a.toNat-1) }=Z6 { f with aJ:=f.aJ+1 }:=rfl;rw[this];omega
 rw[Mt S];by_cases U:i.op=15
 ·rw[Mu U];rw[KV U] at b;have y:=b i.a l8;simp only[Int.add_zero] at y;rw[u7 ino] at y;refine⟨_,rfl,d18 I r { f with aJ:=f.aJ+1 } rfl rfl rfl d9 R.bp ⟨ah,O⟩ i.a y.1 he ?_ hcl⟩;exact⟨m,h,R.go i.a f.a8 f.aA 0 y.1 (by rw[y.2];rfl) rfl R.bC R.al⟩
 rw[Mt U];by_cases K:i.op=16
 ·rw[Mu K];have G:1<=f.aA.length:=by rw[DS K] at d;simp only at d;omega
  obtain⟨v,x,A⟩:=tE (f:={ f with aJ:=f.aJ+1 }) G;rw[x];rw[DS K] at b;have y:=b i.a l8;have hy:=b (wr (f.aJ+1)) l8;rw[D] at hy;simp only at y hy;rw[u7 ino] at y hy;have hd:(f.aA.length:Int)+-1=((f.aA.dropLast.length:Nat):Int):=by rw[List.length_dropLast];omega
  have hy':dm w (c.heap.length:Int) 0 { f with aJ:=f.aJ+1,aA:=f.aA.dropLast }:=⟨m,h,R.go (f.aJ+1) f.a8 f.aA.dropLast 0 d9 (by rw[hy.2,hd];rfl) rfl R.bC fun u t=>R.al u ((List.dropLast_sublist _).subset t)⟩;refine⟨_,rfl,?_⟩;unfold kT;by_cases k1:v.k=1
  ·rw[Mu k1];refine d18 I r { f with aJ:=f.aJ+1,aA:=f.aA.dropLast } rfl rfl rfl d9 R.bp ⟨ah,O⟩ i.a y.1 he ?_ hcl;exact⟨m,h,R.go i.a f.a8 f.aA.dropLast 0 y.1 (by rw[y.2,hd];rfl) rfl R.bC fun u t=>R.al u ((List.dropLast_sublist _).subset t)⟩
  ·rw[Mt k1];by_cases k2:v.k=2
   ·rw[Mu k2];exact jd I r rfl rfl rfl rfl I.heap (It _) z fun _=>hy'
   ·rw[Mt k2];exact jd I r rfl rfl rfl rfl I.heap (It _) z fun e=>by cases e
 rw[Mt K];by_cases X:i.op=17
 ·rw[Mu X];have G:1<=f.aA.length:=by have:=E X;omega
  obtain⟨v,x,A⟩:=tE (f:={ f with aJ:=f.aJ+1 }) G;rw[x];refine⟨_,rfl,?_,?_,?_,fun e=>?_⟩
  ·rw[su];simp only[mu,r,ML,MT];omega
  ·rw[(rr _ _).1];exact⟨MH _,I.aH.2.1⟩
  ·rw[sN];exact It _
  ·exact CV I.heap bN Z I.aH I.aO I.back (R.al v A)
 rw[Mt X];have o18:¬i.op=18:=by
  rcases q with⟨h,_⟩|⟨h,_⟩|⟨h,_⟩|⟨h,_⟩|⟨h,_⟩|⟨h,_⟩|⟨h,_⟩|⟨h,_⟩<;>omega
 have o21:¬i.op=21:=by
  rcases q with⟨h,_⟩|⟨h,_⟩|⟨h,_⟩|⟨h,_⟩|⟨h,_⟩|⟨h,_⟩|⟨h,_⟩|⟨h,_⟩<;>omega
 rw[Mt o18,Mt o21];have o19:¬i.op=19:=by
  rcases q with⟨h,_⟩|⟨h,_⟩|⟨h,_⟩|⟨h,_⟩|⟨h,_⟩|⟨h,_⟩|⟨h,_⟩|⟨h,_⟩<;>omega
 have o20:¬i.op=20:=by
  rcases q with⟨h,_⟩|⟨h,_⟩|⟨h,_⟩|⟨h,_⟩|⟨h,_⟩|⟨h,_⟩|⟨h,_⟩|⟨h,_⟩<;>omega
 unfold kX;by_cases o1:i.op=1
 ·rw[Mu o1];exact⟨_,rfl,gx _ R.self (kQ d9)⟩
 rw[Mt o1];by_cases o2:i.op=2
 ·rw[Mu o2];have B:0<=i.a/\i.a<m.args:=by
   rcases q with⟨h,_⟩|⟨h,_⟩|⟨h,_⟩|⟨h,_⟩|⟨h,_⟩|⟨h,_⟩|⟨h,_⟩|⟨h,_⟩<;>omega
  obtain⟨v,hv1,x⟩:=de (l:=f.args) B.1 (by rw[R.args];exact B.2);simp only[x,MW];exact⟨_,rfl,gx v (R.fB v (eJ x)) (kQ d9)⟩
 rw[Mt o2];by_cases o3:i.op=3
 ·rw[Mu o3];have B:0<=i.a/\i.a<m.a8:=by
   rcases q with⟨h,_⟩|⟨h,_⟩|⟨h,_⟩|⟨h,_⟩|⟨h,_⟩|⟨h,_⟩|⟨h,_⟩|⟨h,_⟩<;>omega
  obtain⟨v,hv1,x⟩:=de (l:=f.a8) B.1 (by rw[R.a8];exact B.2);simp only[x,MW];exact⟨_,rfl,gx v (R.bC v (eJ x)) (kQ d9)⟩
 rw[Mt o3];by_cases o4:i.op=4
 ·rw[Mu o4];exact⟨_,rfl,gx _ (KZ I.heap rfl _ _) (kQ d9)⟩
 rw[Mt o4];by_cases o5:i.op=5
 ·rw[Mu o5];have B:-1073741824<=i.a/\i.a<=1073741824:=by
   rcases q with⟨h,_⟩|⟨h,_⟩|⟨h,_⟩|⟨h,_⟩|⟨_,h⟩|⟨h,_⟩|⟨h,_⟩|⟨h,_⟩<;>omega
  exact⟨_,rfl,gx _ (R6.int _ B) (kQ d9)⟩
 rw[Mt o5];by_cases o6:i.op=6
 ·rw[Mu o6];exact⟨_,rfl,gx _ (R6.nil _) (kQ d9)⟩
 rw[Mt o6];by_cases o7:i.op=7
 ·rw[Mu o7];exact⟨_,rfl,gx _ (R6.zI _) (kQ d9)⟩
 rw[Mt o7];by_cases o8:i.op=8
 ·rw[Mu o8];exact⟨_,rfl,gx _ (R6.zS _) (kQ d9)⟩
 rw[Mt o8];have C:i.op=9\/i.op=11\/i.op=12->1<=f.aA.length:=fun hh=>by rw[vC hh] at d;simp only at d;omega
 by_cases o9:i.op=9
 ·rw[Mu o9];obtain⟨v,x,A⟩:=tE (f:=f) (C d9);have H:cR { f with aJ:=f.aJ+1 }=some (v,{ f with aJ:=f.aJ+1,aA:=f.aA.dropLast }):=by
   obtain⟨M,_⟩:=ig x;unfold cR;rw[show({ f with aJ:=f.aJ+1 }:j3).aA=f.aA from rfl,M];rfl
  rw[H];exact⟨_,rfl,jd I r rfl rfl rfl rfl I.heap (It _) z fun _=>drop v x (vC d9) f.a8 rfl R.bC⟩
 rw[Mt o9];by_cases J:i.op=10
 ·rw[Mu J];have G:1<=f.aA.length:=by rw[d85 J] at d;simp only at d;omega
  obtain⟨v,x,A⟩:=BI (l:=f.aA) G;simp only[x,MW];refine⟨_,rfl,jd I r rfl rfl rfl rfl I.heap (It _) z fun _=>?_⟩;rw[d85 J] at b;have:=b (wr (f.aJ+1)) l8;rw[D] at this;simp only at this;rw[u7 ino] at this;refine⟨m,h,R.go (f.aJ+1) f.a8 (f.aA++[v]) 0 d9 (by rw[this.2];simp) rfl R.bC (fun u t=>?_)⟩;rcases MN.1 t with t|t
  ·exact R.al u t
  ·rw[MY.1 t];exact R.al v A
 rw[Mt J];by_cases o11:i.op=11
 ·rw[Mu o11];obtain⟨v,x,A⟩:=tE (f:=f) (C d9);have H:cR { f with aJ:=f.aJ+1 }=some (v,{ f with aJ:=f.aJ+1,aA:=f.aA.dropLast }):=by
   obtain⟨M,_⟩:=ig x;unfold cR;rw[show({ f with aJ:=f.aJ+1 }:j3).aA=f.aA from rfl,M];rfl
  have B:0<=i.a/\i.a<m.a8:=by
   rcases q with⟨h,_⟩|⟨h,_⟩|⟨h,_⟩|⟨h,_⟩|⟨h,_⟩|⟨h,_⟩|⟨h,_⟩|⟨h,_⟩<;>omega
  simp only[H,A0];rw[Mu ⟨B.1,by rw[R.a8];exact B.2⟩];refine⟨_,rfl,jd I r rfl rfl rfl rfl I.heap (It _) z fun _=>drop v x (vC d9) (f.a8.set i.a.toNat v) MU fun u t=>?_⟩;rcases List.mem_or_eq_of_mem_set t with t|rfl
  ·exact R.bC u t
  ·exact R.al _ A
 rw[Mt o11];by_cases o12:i.op=12
 ·rw[Mu o12];obtain⟨v,x,A⟩:=tE (f:=f) (C d9);have H:cR { f with aJ:=f.aJ+1 }=some (v,{ f with aJ:=f.aJ+1,aA:=f.aA.dropLast }):=by
   obtain⟨M,_⟩:=ig x;unfold cR;rw[show({ f with aJ:=f.aJ+1 }:j3).aA=f.aA from rfl,M];rfl
  have B:0<=i.a:=by
   rcases q with⟨h,_⟩|⟨h,_⟩|⟨h,_⟩|⟨h,_⟩|⟨h,_⟩|⟨h,_⟩|⟨h,_⟩|⟨h,_⟩<;>omega
  obtain⟨H',e1,e2,e3⟩:=Kn I.heap (o:=f.aU) (v:=v) (k:=i.a) R.self (R.al v A) B;simp only[H,A0,e1,MW];refine⟨_,rfl,jd I r rfl rfl rfl rfl e2 (by simp only[e3];exact It _) z fun _=>?_⟩;simp only[e3];exact drop v x (vC d9) f.a8 rfl R.bC
 rw[Mt o12,Mt o19,Mt o20];by_cases o13:i.op=13
 ·rw[Mu o13];have B:i.a=0\/(4<=i.a/\i.a<w.a7.length):=by
   rcases q with⟨h,_⟩|⟨h,_⟩|⟨h,_⟩|⟨h,_⟩|⟨h,_⟩|⟨_,h⟩|⟨h,_⟩|⟨h,_⟩<;>omega
  by_cases Y:60<=c.heap.length
  ·rw[Mu Y];exact⟨_,rfl,jd I r rfl rfl rfl rfl I.heap (It _) z fun e=>by cases e⟩
  ·rw[Mt Y];have hnew:=d86 W I.heap d9 B M;refine⟨_,rfl,jd I r rfl rfl rfl rfl hnew l8 z fun _=>?_⟩;have y:=kQ (i:=i) (p:=f.aJ) d9;rw[y] at b;have:=b (wr (f.aJ+1)) l8;rw[D] at this;simp only at this;rw[u7 ino] at this;obtain⟨m2,h2,R2⟩:dm w ((c.heap++[(⟨i.a,MC (p8 w i.a).toNat ⟨0,0⟩⟩:Ob)]).length:Int) 0 f:=dm.mono ⟨m,h,R⟩ (by simp only[MD,Mp];omega);have R3:Fr w ((c.heap++[(⟨i.a,MC (p8 w i.a).toNat ⟨0,0⟩⟩:Ob)]).length:Int) m h f 0 :=
    ⟨R.bp,R.aq,R.code,R.me,R.hi,R.args,R.a8,R.pos,R.aJ,R2.self,R2.fB,R2.bC,R2.al⟩
   show dm w _ 0 { f with aJ:=f.aJ+1,a8:=f.a8,aA:=f.aA++[⟨4,(c.heap.length:Int)⟩] };refine⟨m,h,R3.go (f.aJ+1) f.a8 (f.aA++[⟨4,(c.heap.length:Int)⟩]) 0 d9 (by rw[this.2];simp) rfl R3.bC (fun u t=>?_)⟩;rcases MN.1 t with t|t
   ·exact R3.al u t
   ·rw[MY.1 t];exact R6.obj M3
 ·exfalso;rcases q with⟨h,_⟩|⟨h,_⟩|⟨h,_⟩|⟨h,_⟩|⟨h,_⟩|⟨h,_⟩|⟨h,_⟩|⟨h,_⟩<;>omega
end
def px (n:Int):List V->Int
 |[]=>0
 |v::l=>if ch v n=0 then px n l else ch v n
def tK (n:Int):List V->H9 Int Unit
 |[]=>.next ()
 |v::l=>if ch v n=0 then tK n l else .ret (ch v n)
theorem Ck (n:Int):∀l:List V,(match tK n l with|.ret r=>some r|.next ()=>some (0:Int))=some (px n l)
 |[]=>rfl
 |x::l=>by
  rw[tK,px];by_cases a:ch x n=0
  ·rw[Mu a,Mu a];exact Ck n l
  ·rw[Mt a,Mt a]
def M4 (w:Wd) (c:O8) (aE:Int):Int:=if Y2 c.name=false then 7 else if 4<c.args.length then 5 else if aE<0\/400<aE then 3 else px (w.heap.length:Int) (c.aU::c.args)
theorem C1 {n:Int}:∀{l:List V},px n l=0->∀v∈l,R6 n v
 |[],_,v,a=>by cases a
 |x::l,h,v,a=>by
  unfold px at h;by_cases b:ch x n=0
  ·rw[Mu b] at h;rcases Ly.1 a with rfl|a
   ·exact b
   ·exact C1 h v a
  ·rw[Mt b] at h;exact absurd h b
def qz {w:Wd} {c:O8} {aE:Int} (h:M4 w c aE=0):Y2 c.name=true/\c.args.length<=4/\0<=aE/\aE<=400/\R6 (w.heap.length:Int) c.aU/\∀v∈c.args,R6 (w.heap.length:Int) v:=by
 unfold M4 at h;by_cases a:Y2 c.name=false
 ·rw[Mu a] at h;cases h
 rw[Mt a] at h;by_cases b:4<c.args.length
 ·rw[Mu b] at h;cases h
 rw[Mt b] at h;by_cases d:aE<0\/400<aE
 ·rw[Mu d] at h;cases h
 rw[Mt d] at h;have:=C1 h;exact⟨by simpa using a,d9,d9,d9,this _ l8,fun v e=>this v (by simp[e])⟩
theorem zn (N:Nat) (w:Wd) (c:O8):∀(l:List V) (k:Nat),l=([c.aU]++c.args).drop k->nJ N w c l k=some (tK (w.heap.length:Int) l)
 |[],k,_=>rfl
 |x::l,k,h=>by
  obtain⟨b,d,_⟩:=eK h;rw[nJ,D9,b];simp only[A0,Ao];rw[tK];by_cases a:ch x (w.heap.length:Int)=0
  ·rw[My a,Mu a];simp only[M1,Ms];exact zn N w c l (k+1) d
  ·rw[Mx a,Mt a];rfl
def uf (N:Nat) (w:Wd) (c:O8) (aE:Int):pP N w c aE=some (M4 w c aE):=by
 unfold pP M4;rw[r6];simp only[A0];cases f:Y2 c.name with
 |false=>rfl
 |true =>
  simp only[M1,Ms,Bool.true_eq_false,if_false];by_cases b:4<c.args.length
  ·have a:(4:Int)<(c.args.length:Int):=d9;rw[My a,Mu b];rfl
  ·have a:¬(4:Int)<(c.args.length:Int):=d9;rw[Mx a,Mt b];simp only[Ms];by_cases d:aE<0\/400<aE
   ·rw[Mu d];by_cases e:aE<0
    ·rw[My e];rfl
    ·rw[Mx e,My (show 400<aE by omega)];rfl
   ·rw[Mt d,Mx (show¬aE<0 by omega),Mx (show¬400<aE by omega)];simp only[Ms,A0];rw[G5 M3,zn N w c ([c.aU]++c.args) 0 rfl];simp only[Mr,A0];exact Ck _ _
def cM : Int->Int->Fs×Bool:=fun _ _=>(⟨0,BY,0,0,[]⟩,false)
inductive Path (w:Wd) (aE:Int) (L:St->Int->ByteArray->Int×Int) (Q:Int->Int->Fs×Bool):Cf->Cf->Prop
 |refl (c:Cf):Path w aE L Q c c
 |step {c c1 c2:Cf}:c.err=0->c.fs≠[]->P5 w aE L Q c=some c1->Path w aE L Q c1 c2->Path w aE L Q c c2
def Cf.done (c:Cf):Prop:=c.err≠0\/c.fs=[]
theorem Path.trans {w:Wd} {aE:Int} {L:St->Int->ByteArray->Int×Int} {Q:Int->Int->Fs×Bool} {a b c:Cf} (h:Path w aE L Q a b) (d:Path w aE L Q b c):Path w aE L Q a c:=by
 induction h with
 |refl=>exact d
 |step e f g _ ih=>exact .step e f g (ih d)
theorem Path.oD {w:Wd} {aE:Int} {L:St->Int->ByteArray->Int×Int} {Q:Int->Int->Fs×Bool} {a b c:Cf} (h:Path w aE L Q a b) (d:b.done) (i:Path w aE L Q a c) (e:c.done):b=c:=by
 induction h with
 |refl =>
  cases i with
  |refl=>rfl
  |step f g=>rcases d with d|d;exact absurd f d;exact absurd d g
 |step f g k _ ih =>
  cases i with
  |refl=>rcases e with e|e;exact absurd f e;exact absurd e g
  |step m n j l =>
   rw[k] at j;cases j;exact ih d l
theorem Dg {w:Wd} {aE:Int} {N:Nat} {gl:St->Int->ByteArray->Option (Int×Int)} {gq:Int->Int->Option (Fs×Bool)} {L:St->Int->ByteArray->Int×Int} {Q:Int->Int->Fs×Bool} (p:1048578<=N)
  (e:∀s k n,gl s k n=some (L s k n)) (g:∀k j x m,j4 w.a7 k=some x->j4 x.aC j=some m->gq k j=some (Q k j)) (P:Cf->Prop)
  (q:∀c,P c->c.err=0->c.fs≠[]->Wk w Q c/\∃d,P5 w aE L Q c=some d/\mu aE d<mu aE c/\(d.err=0->P d)):∀(n:Nat) (c:Cf),(c.err=0->P c)->mu aE c<n ->
  ∃c',Path w aE L Q c c'/\c'.done/\(c'.err=0->P c')/\kI N gl gq n w.a7 c.heap w.aB aE c.aH c.aO c.fs.reverse c.back.k c.back.n c.err =
   some (w.a7,c'.heap,w.aB,aE,c'.aH,c'.aO,c'.fs.reverse,c'.back.k,c'.back.n,c'.err)
 |0,c,_,h=>d9
 |n+1,c,l,h=>by
  rw[kI];by_cases b:c.err=0
  ·cases a:c.fs with
   |nil =>
    refine⟨c,.refl c,.inr a,l,?_⟩;simp[b,a]
   |cons f F =>
    obtain⟨W,d,o,z,r⟩:=q c (l b) b (by rw[a];simp);obtain⟨c',t,u,v,y⟩:=Dg p e g P q n d r d9;refine⟨c',.step b (by rw[a];simp) o t,u,v,?_⟩;have i:=Jw p e g c W b o;have hl:(0:Int)<((f::F).reverse.length:Int):=l8;unfold Cf.toM at i;rw[a] at i;simp only[b,Mv,Mr,hl,A0,iO];rw[b] at i;rw[i];simp only[A0];exact y
  ·refine⟨c,.refl c,.inl b,l,?_⟩;simp[b]
def hF (w:Wd) (c:Cf):Wd×e8:=if c.err=0 then(⟨w.a7,c.heap,w.aB⟩,⟨c.back,0,c.aH⟩) else(w,⟨⟨0,0⟩,c.err,c.aH⟩)
def cg (w:Wd):Cf:=⟨w.heap,0,0,[],⟨0,0⟩,0,[]⟩
def gL (w:Wd) (aE:Int) (Q:Int->Int->Fs×Bool) (c:O8):Option Cf :=
 if(l7 w c.name (G9 w.heap c.aU)).2<0 then some (V3 (cg w) 10) else fj w aE Q (cg w) (l7 w c.name (G9 w.heap c.aU)).1 (l7 w c.name (G9 w.heap c.aU)).2 c.aU c.args
def ld {aE:Int} {c:Cf} (a:aE<=400) (d:0<=c.aH) (e:0<=c.aO) (b:(c.fs.map Z6).sum<=100000):mu aE c<1048576:=by
 unfold mu;omega
def d30 {w:Wd} {aE:Int} {Q:Int->Int->Fs×Bool} (W:cf w) (r:0<w.a7.length) (t:∀k j,(Q k j).2=false) {c c':Cf} (p:Path w aE (fun _ k s=>l7 w s k) Q c c') (u:c.aH<=aE) (g:c.err=0->dF w aE c) :
  c.aH<=c'.aH/\c'.aH<=aE/\c.heap.length<=c'.heap.length/\(c'.err=0->dF w aE c'):=by
 induction p with
 |refl=>exact⟨MH _,u,It _,g⟩
 |@step c v x h d e _ ih =>
  cases a:c.fs with
  |nil=>exact absurd a d
  |cons f F =>
   obtain⟨q,i,b⟩:=re (Q:=Q) W r t (g h) h a;rw[e] at i;cases i;obtain⟨l,m,n,o⟩:=ih b.aH.2 b.inv;exact⟨Int.le_trans b.aH.1 l,m,Nat.le_trans b.heap n,o⟩
def xK {w:Wd} {N:Nat} (h:I5 N w):gu w w.heap:=⟨h.many.2.2,fun o a=>by
 have:=h.obj o a;exact⟨this.1,this.2.1,this.2.2.1,this.2.2.2.1,this.2.2.2.2⟩⟩
def vN {w:Wd} {N:Nat} {aE:Int} {Q:Int->Int->Fs×Bool} (v:4194304<=N) (B:D6 w) (i:I5 N w) (y:∀k j,(Q k j).2=false) (c:O8) (C:M4 w c aE=0) :
  ∃a,gL w aE Q c=some a/\0<=a.aH/\a.aH<=aE/\a.heap=w.heap/\mu aE a<1048576/\(a.err=0->dF w aE a):=by
 have W:=i.oZ v B;obtain⟨E,F,d,f,t,u⟩:=qz C;have b:mu aE (cg w)<1048576:=ld f (MH _) (MH _) (by simp[cg]);unfold gL;by_cases h:(l7 w c.name (G9 w.heap c.aU)).2<0
 ·rw[Mu h];exact⟨_,rfl,MH _,d,rfl,b,fun e=>by cases e⟩
 ·rw[Mt h];obtain⟨x,m,D,A,_⟩:=rb (w:=w) (s:=c.name) (c:=G9 w.heap c.aU) d9;obtain⟨a,l,n,o,p,q,r⟩:=DD (Q:=Q) (aE:=aE) W y (cg w) rfl (xK i) (by simp[cg]) (fun g z=>by cases z) ⟨MH _,d,f⟩ ⟨MH _,by simp[cg]⟩ (R6.nil _) _ _ c.aU c.args t u ⟨x,m,D,A⟩;exact⟨a,l,n,o,p,Nat.lt_of_le_of_lt q b,r⟩
def AX {w:Wd} {N:Nat} {aE:Int} {gl:St->Int->ByteArray->Option (Int×Int)} {gq:Int->Int->Option (Fs×Bool)} (a:D6 w) (c:O8) (b:M4 w c aE≠0) :
  iL N w c aE gl gq=some (w,⟨⟨0,0⟩,M4 w c aE,0⟩):=by
 unfold iL;rw[uf];simp only[A0];rw[Mx b,ib N w a];rfl
def DZ {w:Wd} {N:Nat} {aE:Int} {gl:St->Int->ByteArray->Option (Int×Int)} {gq:Int->Int->Option (Fs×Bool)} {L:St->Int->ByteArray->Int×Int} {Q:Int->Int->Fs×Bool} (hN:4194304<=N) (i:D6 w) (R:dX w)
  (u:∀s k n,gl s k n=some (L s k n)) (h:∀k j x m,j4 w.a7 k=some x->j4 x.aC j=some m->gq k j=some (Q k j)) (P:Cf->Prop)
  (H:∀c,P c->c.err=0->c.fs≠[]->Wk w Q c/\∃a,P5 w aE L Q c=some a/\mu aE a<mu aE c/\(a.err=0->P a))
  (K:∀x∈w.a7,∀m∈x.aC,0<=m.a8/\m.a8<=1000) (O:∀k j,(Q k j).2=true->0<=(Q k j).1.a8/\(Q k j).1.a8<=1000)
  (c:O8) (E:M4 w c aE=0) (a:Cf) (g:gL w aE Q c=some a) (r:a.err=0->P a) (M:mu aE a<1048576) :
  ∃c',Path w aE L Q a c'/\c'.done/\(c'.err=0->P c')/\iL N w c aE gl gq=some (hF w c'):=by
 obtain⟨h1,h2,h3,h4,F,G⟩:=qz E;obtain⟨c',T,U,W,X⟩:=Dg (N:=N) (gl:=gl) (gq:=gq) d9 u h P H N a r d9;refine⟨c',T,U,W,?_⟩;unfold iL;rw[uf];simp only[A0,E,Mv,M1,Ms,ib N w i,rP];have t:fW N (⟨w.a7,w.heap,w.aB⟩:Wd) (G9 w.heap c.aU) c.name=some (l7 w c.name (G9 w.heap c.aU)):=lI N w _ _ d9 R i;rw[t];simp only[A0];have b:(kI N gl gq N w.a7 a.heap w.aB aE a.aH a.aO a.fs.reverse a.back.k a.back.n a.err).bind (fun(z,A,B,Y,l,Z,v53,C,D,o) =>
   (bif (!decide (o=(0:Int))) then((gk N w).bind fun y=>some (y,(⟨(⟨(0:Int),(0:Int)⟩:V),o,l⟩:e8))) else some ((⟨z,A,B⟩:Wd),(⟨(⟨C,D⟩:V),(0:Int),l⟩:e8))))=some (hF w c'):=by
  rw[X];simp only[A0,ib N w i,hF];by_cases p:c'.err=0
  ·rw[My p,Mu p];rfl
  ·rw[Mx p,Mt p];rfl
 unfold gL at g;by_cases q:(l7 w c.name (G9 w.heap c.aU)).2<0
 ·rw[Mu q] at g;cases g;rw[My q];simp only[Mr,iq,A0];simp only[ib N w i] at b;exact b
 ·rw[Mt q] at g;rw[Mx q];have d:c.aU.k=3->gM c.aU.n:=F.num;have I:=ru g;have:=vK (N:=N) h K O (cg w) rfl (by simp[cg]) (by simp[cg]) (fun f t=>by cases t) _ _ c.aU c.args d (fun v S J=>(G v S).num J) d9 a g;have e:(cg w).toM w aE=(⟨(⟨w.a7,w.heap,w.aB⟩:Wd),aE,0,0,[],⟨0,0⟩,0⟩:D7):=rfl;rw[e] at this;simp only[Ms,this,A0];simp only[ib N w i] at b;rw[I] at b;exact b
def iS (w:Wd) (c:O8) (aE:Int) (Q:Int->Int->Fs×Bool) (r:Wd×e8):Prop :=
 (M4 w c aE≠0/\r=(w,⟨⟨0,0⟩,M4 w c aE,0⟩)) \/
 (M4 w c aE=0/\∃a c',gL w aE Q c=some a/\Path w aE (fun _ k s=>l7 w s k) Q a c'/\c'.done/\r=hF w c')
theorem iS.oD {w:Wd} {c:O8} {aE:Int} {Q:Int->Int->Fs×Bool} {r s:Wd×e8} (h:iS w c aE Q r) (f:iS w c aE Q s):r=s:=by
 rcases h with⟨b,d⟩|⟨b,n,c',d,g,i,j⟩<;>rcases f with⟨e,a⟩|⟨e,p,o,a,k,l,m⟩
 ·rw[d,a]
 ·exact absurd e b
 ·exact absurd b e
 ·rw[d] at a;cases a;rw[j,m,Path.oD g i k l]
def qR (w:Wd) (c:O8) (aE:Int) (r:Wd×e8) (ev:List (St×Int)):Prop :=
 (M4 w c aE≠0/\r=(w,⟨⟨0,0⟩,M4 w c aE,0⟩)/\ev=[]) \/
 (M4 w c aE=0/\∃a c',gL w aE cM c=some a/\Path w aE (fun _ k s=>l7 w s k) cM a c'/\c'.done/\r=hF w c'/\ev=c'.ev)
theorem qR.ez {w:Wd} {c:O8} {aE:Int} {r:Wd×e8} {ev:List (St×Int)} (h:qR w c aE r ev):iS w c aE cM r:=by
 rcases h with⟨a,b,_⟩|⟨a,d,c',b,e,f,g,_⟩
 ·exact .inl ⟨a,b⟩
 ·exact .inr ⟨a,d,c',b,e,f,g⟩
theorem qR.oD {w:Wd} {c:O8} {aE:Int} {r s:Wd×e8} {ev a:List (St×Int)} (h:qR w c aE r ev) (j:qR w c aE s a):r=s/\ev=a:=by
 rcases h with⟨d,e,f⟩|⟨d,q,c',e,f,k,l,m⟩<;>rcases j with⟨g,b,i⟩|⟨g,u,t,b,i,n,o,p⟩
 ·rw[e,b,f,i];exact⟨rfl,rfl⟩
 ·exact absurd g d
 ·exact absurd d g
 ·rw[e] at b;cases b;have:=Path.oD f k i n;subst this;rw[l,o,m,p];exact⟨rfl,rfl⟩
def Bn {w:Wd} {N:Nat} {aE:Int} {gl:St->Int->ByteArray->Option (Int×Int)} {gq:Int->Int->Option (Fs×Bool)} {Q:Int->Int->Fs×Bool} (i:4194304<=N) (g:D6 w) (e:I5 N w) (l:∀k j,(Q k j).2=false)
  (p:∀s k n,gl s k n=some (l7 w n k)) (q:∀k j x m,j4 w.a7 k=some x->j4 x.aC j=some m->gq k j=some (Q k j)) (c:O8):∃r,iL N w c aE gl gq=some r/\iS w c aE Q r:=by
 by_cases b:M4 w c aE=0
 ·have W:=e.oZ i g;have o:0<w.a7.length:=by have:=e.many.1;omega
  have v:∀k j,(Q k j).2=true->0<=(Q k j).1.a8/\(Q k j).1.a8<=1000:=fun k j h=>by rw[l] at h;cases h
  obtain⟨d,u,H,J,K,z,A⟩:=vN (Q:=Q) i g e l c b;obtain⟨c',D,E,M,G⟩:=DZ (L:=fun _ k s=>l7 w s k) i g e.cy p q (dF w aE) (fun c I B t=>by
   refine⟨I.wk W v,?_⟩;cases a:c.fs with
   |nil=>exact absurd a t
   |cons f F =>
    obtain⟨d,C,y⟩:=re (Q:=Q) W o l I B a;exact⟨d,C,y.mu,y.inv⟩) W.a8 v c b d u A z
  exact⟨_,G,.inr ⟨b,d,c',u,D,E,rfl⟩⟩
 ·exact⟨_,AX g c b,.inl ⟨b,rfl⟩⟩
def H2 {w:Wd} {N:Nat} (i:4194304<=N) (f:D6 w) (e:I5 N w) (c:O8) (aE:Int):∃r,sS N w c aE=some r/\iS w c aE cM r:=by
 obtain⟨r,g,h⟩:=Bn (aE:=aE) (gl:=fun a b d=>p7 N a b d w) (gq:=fun a b=>pY N a b) (Q:=cM) i f e (fun _ _=>rfl) (fun s k n=>by
  show p7 N s k n w=_;unfold p7;rw[lI N w k n d9 e.cy f];rfl) (fun k j x m _ _=>rfl) c
 refine⟨r,?_,h⟩;unfold sS;rw[g];rfl
def yo (w:Wd) (gl:St->Int->ByteArray->D5->Option (Int×Int×D5)) (L:St->Int->ByteArray->Int×Int) (T:D5->St×Int->D5) (sb:D5) (c:Cf):Prop :=
 ∀f F i x m k,c.fs=f::F->j4 f.code f.aJ=some i->i.op=14->j4 w.a7 f.aK=some x->j4 x.aC f.aN=some m ->
  gl (R7 f m i f.aJ) k i.name (c.ev.foldl T sb)=some ((L (R7 f m i f.aJ) k i.name).1,(L (R7 f m i f.aJ) k i.name).2,T (c.ev.foldl T sb) (R7 f m i f.aJ,k))
section
variable {w:Wd} {aE:Int} {N:Nat} {gl:St->Int->ByteArray->D5->Option (Int×Int×D5)} {gq:Int->Int->Option (Fs×Bool)} {L:St->Int->ByteArray->Int×Int} {Q:Int->Int->Fs×Bool}
def sK {c c':Cf} {k j:Int} {self:V} {args:List V} (h:fj w aE Q c k j self args=some c'):c'.ev=c.ev/\(c'.err≠0\/c'.aH=c.aH+1):=by
 obtain⟨x,m,_,_,h|h|⟨_,_,_,a,_,h|h⟩|h|h⟩:=pH h
 ·rw[h.2];exact⟨rfl,.inl (by simp[V3])⟩
 ·rw[h.2.2];exact⟨rfl,.inl (by simp[V3])⟩
 ·rw[h.2];exact⟨rfl,.inl h.1⟩
 ·rw[h.2];exact⟨(rr _ _).2.2.2,.inr (rr _ _).1⟩
 ·rw[h.2.2.2.2];exact⟨rfl,.inl (by simp[V3])⟩
 ·rw[h.2.2.2.2];exact⟨rfl,.inr rfl⟩
def JN {c c':Cf} {f:j3} {F:List j3} {i:Ins} (h:kX w c f F i=some c'):c'.ev=c.ev:=by
 unfold kX at h;by_cases k:i.op=1
 ·rw[Mu k] at h;cases h;rfl
 rw[Mt k] at h;by_cases l:i.op=2
 ·rw[Mu l] at h;rw[ME] at h;obtain⟨_,_,rfl⟩:=h;rfl
 rw[Mt l] at h;by_cases m:i.op=3
 ·rw[Mu m] at h;rw[ME] at h;obtain⟨_,_,rfl⟩:=h;rfl
 rw[Mt m] at h;by_cases n:i.op=4
 ·rw[Mu n] at h;cases h;rfl
 rw[Mt n] at h;by_cases o:i.op=5
 ·rw[Mu o] at h;cases h;rfl
 rw[Mt o] at h;by_cases p:i.op=6
 ·rw[Mu p] at h;cases h;rfl
 rw[Mt p] at h;by_cases q:i.op=7
 ·rw[Mu q] at h;cases h;rfl
 rw[Mt q] at h;by_cases r:i.op=8
 ·rw[Mu r] at h;cases h;rfl
 rw[Mt r] at h;by_cases s:i.op=9
 ·rw[Mu s] at h;rw[ME] at h;obtain⟨_,_,rfl⟩:=h;rfl
 rw[Mt s] at h;by_cases a:i.op=10
 ·rw[Mu a] at h;rw[ME] at h;obtain⟨_,_,rfl⟩:=h;rfl
 rw[Mt a] at h;by_cases b:i.op=11
 ·rw[Mu b] at h;obtain⟨_,_,h⟩:=M6 h;split at h<;>cases h;rfl
 rw[Mt b] at h;by_cases d:i.op=12
 ·rw[Mu d] at h;obtain⟨_,_,h⟩:=M6 h;rw[ME] at h;obtain⟨_,_,rfl⟩:=h;rfl
 rw[Mt d] at h;by_cases g:i.op=19
 ·rw[Mu g] at h;rw[ME] at h;obtain⟨_,_,rfl⟩:=h;rfl
 rw[Mt g] at h;by_cases j:i.op=20
 ·rw[Mu j] at h;obtain⟨_,_,h⟩:=M6 h;obtain⟨_,_,h⟩:=M6 h;rw[ME] at h;obtain⟨_,_,rfl⟩:=h;rfl
 rw[Mt j] at h;by_cases e:i.op=13
 ·rw[Mu e] at h;split at h<;>cases h<;>rfl
 rw[Mt e] at h;cases h;rfl
def Cm {c c':Cf} (h:P5 w aE L Q c=some c'):c'.ev=c.ev\/∃f F i x m k,c.fs=f::F/\j4 f.code f.aJ=some i/\i.op=14/\j4 w.a7 f.aK=some x/\j4 x.aC f.aN=some m /\
  c'.ev=c.ev++[(R7 f m i f.aJ,k)]/\(((L (R7 f m i f.aJ) k i.name).2<0/\c'.err=10)\/(0<=(L (R7 f m i f.aJ) k i.name).2/\(c'.err≠0\/c'.aH=c.aH+1))):=by
 unfold P5 at h;cases e:c.fs with
 |nil=>rw[e] at h;cases h
 |cons f F =>
  rw[e] at h;obtain⟨i,hi,h⟩:=M6 h;by_cases b:i.op=14
  ·rw[Mu b] at h;obtain⟨x,cl,m,_,_,_,d,g,h⟩:=pU h;right;rcases h with⟨a,h⟩|⟨a,h⟩
   ·exact⟨f,F,i,cl,m,_,rfl,hi,b,d,g,by rw[h];rfl,.inl ⟨a,by rw[h];rfl⟩⟩
   ·exact⟨f,F,i,cl,m,_,rfl,hi,b,d,g,(sK h).1,.inr ⟨a,(sK h).2⟩⟩
  left;rw[Mt b] at h;split at h
  ·cases h;unfold cW;split<;>rfl
  split at h
  ·rw[ME] at h;obtain⟨q,_,rfl⟩:=h;unfold kT;split
   ·unfold cW;split<;>rfl
   ·split<;>rfl
  split at h
  ·rw[ME] at h;obtain⟨q,_,rfl⟩:=h;unfold dL;split<;>rfl
  split at h
  ·unfold lu at h;split at h
   ·obtain⟨x,_,h⟩:=M6 h;split at h
    ·cases h;rfl
    ·obtain⟨cl,_,h⟩:=M6 h;obtain⟨m,_,h⟩:=M6 h;split at h<;>cases h;rfl
   ·cases h
  split at h
  ·cases h;unfold iM;split
   ·rfl
   ·split<;>rfl
  exact JN h
def Ig {sb:D5} {T:D5->St×Int->D5} (s:∀k j x m,j4 w.a7 k=some x->j4 x.aC j=some m->gq k j=some (Q k j))
  (c:Cf) (W:Wk w Q c) (n:c.err=0) (f:j3) (F:List j3) (o:cE f) (B:∀f∈F,cE f) (C:F.length<=899) (i:Ins) (p:Int) (r:∀x m k,j4 w.a7 f.aK=some x->j4 x.aC f.aN=some m->gl (R7 f m i p) k i.name sb=some ((L (R7 f m i p) k i.name).1,(L (R7 f m i p) k i.name).2,T sb (R7 f m i p,k))) {c':Cf} (h:ka w aE L Q c f F i p=some c') :
  ∃e,c'.ev=c.ev++[e]/\rD N ⟨⟨w.a7,c.heap,w.aB⟩,aE,c.aH,c.aO,(f::F).reverse,c.back,c.err⟩ gl gq sb F.length i p=some (T sb e,c'.toM w aE):=by
 obtain⟨x,cl,m,H,I,u,d,t,h⟩:=pU h;have hl:=o.aA;have e1:wr ((f.aA.length:Int)-i.a)=((f.aA.length-i.a.toNat:Nat):Int):=by rw[u7 ino];omega
 have A:wr (((f.aA.length-i.a.toNat:Nat):Int)-1)=((f.aA.length-i.a.toNat-1:Nat):Int):=by rw[u7 ino];omega
 have y:(decide ((0:Int)<=((f.aA.length-i.a.toNat:Nat):Int)) && decide (((f.aA.length-i.a.toNat:Nat):Int)<=(f.aA.length:Int)))=true:=by simp only[IT,Mz];omega
 have z:(decide ((0:Int)<=((f.aA.length-i.a.toNat-1:Nat):Int)) && decide (((f.aA.length-i.a.toNat-1:Nat):Int)<=(f.aA.length:Int)))=true:=by simp only[IT,Mz];omega
 have b:((bif f.aY then some i.c else some p):Option Int)=some (R7 f m i p).pos:=by unfold R7;cases f.aY<;>rfl
 have E:(⟨f.aK,m.name,(R7 f m i p).pos⟩:St)=R7 f m i p:=rfl;refine⟨(R7 f m i p,G9 c.heap x),?_,?_⟩
 ·rcases h with⟨l,rfl⟩|⟨l,h⟩
  ·rfl
  ·rw[(sK h).1]
 unfold rD;simp only[cz,A0,e1,A,y,z,Mr,MX,D9,u,d,t,rP,r cl m (G9 c.heap x) d t,b,E,n,iq,eM,
  uG N (show(f.aA.drop (f.aA.length-i.a.toNat)).length<=1048576 by simp;omega)]
 rcases h with⟨l,rfl⟩|⟨l,h⟩
 ·simp only[l,Mv,Mr];rfl
 ·rw[Mx d9];simp only[Ms];have:=vK (N:=N) s W.aq W.quick _ (by exact n) (by have:=W.aH;exact⟨this.1,bN⟩) M3 (fun g q=>by
    rcases Ly.1 q with rfl|q
    ·simp;omega
    ·exact(B g q).aA) _ _ x _ (o.num x (MI u)) (fun v G=>o.num v (List.mem_of_mem_drop G)) M3 c' h
  simp only[Cf.toM,n] at this;rw[this];simp only[A0,Cf.toM];have D:c'.heap=c.heap:=(ru h).trans rfl;rw[D]
def d83 {T:D5->St×Int->D5} {sb:D5} (hN:1048578<=N) (K:∀k j x m,j4 w.a7 k=some x->j4 x.aC j=some m->gq k j=some (Q k j))
  (c:Cf) (W:Wk w Q c) (y:c.err=0) (E:yo w gl L T sb c) {c':Cf} (h:P5 w aE L Q c=some c'):rA N (c.toM w aE) gl gq (c.ev.foldl T sb)=some (c'.ev.foldl T sb,c'.toM w aE):=by
 have v:=h;unfold P5 at h;cases l:c.fs with
 |nil=>rw[l] at h;cases h
 |cons f F =>
  rw[l] at h;obtain⟨i,hi,h⟩:=M6 h;have u:=W.fs;rw[l] at u;simp only[MB] at u;have C:cE f:=W.fr f (by rw[l];simp);have U:∀g∈F,cE g:=fun g z=>W.fr g (by rw[l];simp[z]);have hp:=fZ hi;have bn:=C.code;have wp:wr (f.aJ+1)=f.aJ+1:=u7 ino;have wt:=tI (f:=f) (F:=F) d9;generalize z:({ f with aJ:=f.aJ+1 }:j3)=g at h;have o:g.aA.length<=1000:=by rw[<-z];exact C.aA
  have G:cE g:=by rw[<-z];exact⟨C.aA,C.code,C.num⟩
  unfold rA Cf.toM;have Y:∀(x:Cf),(⟨⟨w.a7,x.heap,w.aB⟩,aE,x.aH,x.aO,x.fs.reverse,⟨x.back.k,x.back.n⟩,x.err⟩:D7)=x.toM w aE:=fun x=>rfl;simp only[l,wt,wp,yL,hi,A0,MX,eM,z];by_cases b:i.op=14
  ·rw[Mu b] at h;obtain⟨e,e1,this⟩:=Ig (gl:=gl) (N:=N) (sb:=c.ev.foldl T sb) (T:=T) K c W y g F G U d9 i f.aJ (by subst z;intro x m k O hm;exact E f F i x m k l hi b O hm) h;have M:=AW h;rw[e1,List.foldl_append];simp only[b,this,Mv,Mr,A0,Cf.toM,iO,M,List.foldl_cons,List.foldl_nil]
  have B:c'.ev=c.ev:=by
   rcases Cm v with Z|⟨f',F',i',_,_,_,R,S,V,_⟩
   ·exact Z
   ·rw[l] at R;cases R;rw[hi] at S;cases S;exact absurd V b
  rw[B];clear B v E;generalize c.ev.foldl T sb=s0;rw[Mt b] at h;by_cases p:i.op=15
  ·rw[Mu p] at h;cases h;have:=vd (w:=w) (aE:=aE) (N:=N) c g F i.a y (by have:=W.aO;omega);simp only[p,this,Mv,Mr,A0,Cf.toM];unfold cW;split<;>rfl
  rw[Mt p] at h;by_cases d:i.op=16
  ·rw[Mu d] at h;rw[ME] at h;obtain⟨q,I,rfl⟩:=h;have:=vd (w:=w) (aE:=aE) (N:=N) c q.2 F i.a y (by have:=W.aO;omega);unfold kT;by_cases A:q.1.k=1
   ·simp only[d,ji I o,this,A,Mv,Mr,A0,Cf.toM,if_true];unfold cW;split<;>rfl
   ·by_cases J:q.1.k=2
    ·simp only[d,ji I o,J,Mv,Mr,A0,if_true];rfl
    ·simp only[d,ji I o,A,J,y,iq,Mv,Mw,Mr,Ms,A0,if_false];rfl
  rw[Mt d] at h;by_cases r:i.op=17
  ·rw[Mu r] at h;rw[ME] at h;obtain⟨q,I,rfl⟩:=h;have P:=tI (f:=q.2) (F:=F) d9;have D:=yD (w:=w) (aE:=aE) (N:=N) { c with fs:=F } q.1 bN (fun x O=>(U x O).aA);simp only[Cf.toM] at D;have X:(decide ((0:Int)<=(F.length:Int)) && decide ((F.length:Int)<=((q.2::F).reverse.length:Int)))=true:=M3;simp only[Mx b,Mx p,Mx d,My r,ji I o,P,X,MX,CX,D,Mr,Ms,A0,iO,sN]
  rw[Mt r] at h;by_cases s:i.op=18
  ·rw[Mu s] at h;have:=D3 (w:=w) (aE:=aE) (N:=N) c g F i o h;have M:c'.heap=c.heap:=by
    unfold lu at h;split at h
    ·obtain⟨x,_,h⟩:=M6 h;split at h
     ·cases h;rfl
     ·obtain⟨cl,_,h⟩:=M6 h;obtain⟨m,_,h⟩:=M6 h;split at h<;>cases h;rfl
    ·cases h
   simp only[Mx b,Mx p,Mx d,Mx r,My s,this,Mr,Ms,A0,Cf.toM,iO,M]
  rw[Mt s] at h;by_cases t:i.op=21
  ·rw[Mu t] at h;cases h;have:=xh (N:=N) (cl:=w.a7) (H:=c.heap) (ep:=w.aB) (aE:=aE) (aH:=c.aH) (aO:=c.aO) (back:=c.back) (g::F).reverse true (by have:=W.aH;omega);simp only[t,y,this,Mv,Mr,A0];unfold iM;by_cases A:aE<=c.aH
   ·simp only[A,if_true];rfl
   ·by_cases J:20<=(g::F).length
    ·simp only[A,J,List.length_reverse,if_true,if_false,and_self];rfl
    ·simp only[A,J,List.length_reverse,if_false,and_false];rfl
  rw[Mt t] at h;have:=d12 (w:=w) (aE:=aE) (N:=N) c W hN y g F G i h;simp only[b,p,d,r,s,t,this,Mw,Ms,A0,Cf.toM,iO]
end
theorem Bu {w:Wd} {aE:Int} {N:Nat} {gl:St->Int->ByteArray->D5->Option (Int×Int×D5)} {T:D5->St×Int->D5} {sb:D5} {gq:Int->Int->Option (Fs×Bool)} {L:St->Int->ByteArray->Int×Int} {Q:Int->Int->Fs×Bool} (p:1048578<=N)
  (e:∀k j x m,j4 w.a7 k=some x->j4 x.aC j=some m->gq k j=some (Q k j)) (P:Cf->Prop)
  (q:∀c,P c->c.err=0->c.fs≠[]->Wk w Q c/\yo w gl L T sb c/\∃d,P5 w aE L Q c=some d/\mu aE d<mu aE c/\(d.err=0->P d)):∀(n:Nat) (c:Cf),(c.err=0->P c)->mu aE c<n ->
  ∃c',Path w aE L Q c c'/\c'.done/\(c'.err=0->P c')/\n9 N gl gq n (c.ev.foldl T sb) w.a7 c.heap w.aB aE c.aH c.aO c.fs.reverse c.back.k c.back.n c.err =
   some (c'.ev.foldl T sb,w.a7,c'.heap,w.aB,aE,c'.aH,c'.aO,c'.fs.reverse,c'.back.k,c'.back.n,c'.err)
 |0,c,_,h=>d9
 |n+1,c,i,h=>by
  rw[n9];by_cases b:c.err=0
  ·cases a:c.fs with
   |nil =>
    refine⟨c,.refl c,.inr a,i,?_⟩;simp[b,a]
   |cons f F =>
    obtain⟨W,l,d,o,y,r⟩:=q c (i b) b (by rw[a];simp);obtain⟨c',s,t,u,v⟩:=Bu p e P q n d r d9;refine⟨c',.step b (by rw[a];simp) o s,t,u,?_⟩;have g:=d83 p e c W b l o;have hl:(0:Int)<((f::F).reverse.length:Int):=l8;unfold Cf.toM at g;rw[a] at g;simp only[b,Mv,Mr,hl,A0,iO];rw[b] at g;rw[g];simp only[A0];exact v
  ·refine⟨c,.refl c,.inl b,i,?_⟩;simp[b]
def HQ {w:Wd} {N:Nat} {aE:Int} {gl:St->Int->ByteArray->D5->Option (Int×Int×D5)} {sb:D5} {gq:Int->Int->Option (Fs×Bool)} (a:D6 w) (c:O8) (b:M4 w c aE≠0) :
  mV N w c aE gl sb gq=some (w,⟨⟨0,0⟩,M4 w c aE,0⟩,sb):=by
 unfold mV;rw[uf];simp only[A0];rw[Mx b,ib N w a];rfl
def IJ {w:Wd} {N:Nat} {aE:Int} {gl:St->Int->ByteArray->D5->Option (Int×Int×D5)} {T:D5->St×Int->D5} {sb:D5} {gq:Int->Int->Option (Fs×Bool)} {L:St->Int->ByteArray->Int×Int} {Q:Int->Int->Fs×Bool} (hN:4194304<=N) (i:D6 w) (S:dX w)
  (h:∀k j x m,j4 w.a7 k=some x->j4 x.aC j=some m->gq k j=some (Q k j)) (P:Cf->Prop)
  (I:∀c,P c->c.err=0->c.fs≠[]->Wk w Q c/\yo w gl L T sb c/\∃a,P5 w aE L Q c=some a/\mu aE a<mu aE c/\(a.err=0->P a))
  (M:∀x∈w.a7,∀m∈x.aC,0<=m.a8/\m.a8<=1000) (R:∀k j,(Q k j).2=true->0<=(Q k j).1.a8/\(Q k j).1.a8<=1000)
  (c:O8) (E:M4 w c aE=0) (a:Cf) (d:gL w aE Q c=some a) (s:a.err=0->P a) (O:mu aE a<1048576) :
  ∃c',Path w aE L Q a c'/\c'.done/\(c'.err=0->P c')/\mV N w c aE gl sb gq=some ((hF w c').1,(hF w c').2,c'.ev.foldl T sb):=by
 obtain⟨h1,h2,h3,h4,G,H⟩:=qz E;obtain⟨c',W,X,Y,F⟩:=Bu (N:=N) (gl:=gl) (gq:=gq) d9 h P I N a s d9;have t:a.ev=[]:=by
  unfold gL at d;split at d
  ·cases d;rfl
  ·exact(sK d).1
 rw[t] at F;refine⟨c',W,X,Y,?_⟩;unfold mV;rw[uf];simp only[A0,E,Mv,M1,Ms,ib N w i,rP];have u:fW N (⟨w.a7,w.heap,w.aB⟩:Wd) (G9 w.heap c.aU) c.name=some (l7 w c.name (G9 w.heap c.aU)):=lI N w _ _ d9 S i;rw[u];simp only[A0];have b:(n9 N gl gq N sb w.a7 a.heap w.aB aE a.aH a.aO a.fs.reverse a.back.k a.back.n a.err).bind (fun(l,z,A,B,Z,o,v52,v53,C,D,p) =>
   (bif (!decide (p=(0:Int))) then((gk N w).bind fun y=>some (y,(⟨(⟨(0:Int),(0:Int)⟩:V),p,o⟩:e8),l)) else some ((⟨z,A,B⟩:Wd),(⟨(⟨C,D⟩:V),(0:Int),o⟩:e8),l)))=some ((hF w c').1,(hF w c').2,c'.ev.foldl T sb):=by
  rw[show sb=([]:List (St×Int)).foldl T sb from rfl,F];simp only[A0,ib N w i,hF];by_cases q:c'.err=0
  ·rw[My q,Mu q];rfl
  ·rw[Mx q,Mt q];rfl
 unfold gL at d;by_cases r:(l7 w c.name (G9 w.heap c.aU)).2<0
 ·rw[Mu r] at d;cases d;rw[My r];simp only[Mr,iq,A0];simp only[ib N w i] at b;exact b
 ·rw[Mt r] at d;rw[Mx r];have g:c.aU.k=3->gM c.aU.n:=G.num;have J:=ru d;have:=vK (N:=N) h M R (cg w) rfl (by simp[cg]) (by simp[cg]) (fun f u=>by cases u) _ _ c.aU c.args g (fun v U K=>(H v U).num K) d9 a d;have e:(cg w).toM w aE=(⟨(⟨w.a7,w.heap,w.aB⟩:Wd),aE,0,0,[],⟨0,0⟩,0⟩:D7):=rfl;rw[e] at this;simp only[Ms,this,A0];simp only[ib N w i] at b;rw[J] at b;exact b
theorem B0 (N:Nat) (x:Cl):∀(l:List Cl) (k:Nat),(∀d∈l,d.name≠x.name)->k8 N x l k=some (.next ())
 |[],k,_=>rfl
 |d::l,k,h=>by
  rw[k8,Mx (h d l8)];exact B0 N x l (k+1) fun e a=>h e (by simp[a])
theorem BF (N:Nat) (w:Wd) (H:∀j c,w.a7[j]?=some c->lf w j c):∀(l:List Cl) (k:Nat),l=w.a7.drop k->Z5 N w N8 l k=some (.next ())
 |[],k,h=>rfl
 |c::l,k,h=>by
  obtain⟨o,hl,a⟩:=eK h;have a:=of_decide_eq_true a;obtain⟨s,hd,n,d,t,u⟩:=H k c o;have ih:=BF N w H l (k+1) hl;rw[Z5,kE,s];have q:(decide (0<=(k:Int)) && decide ((k:Int)<=(w.a7.length:Int)))=true:=by simp only[IT,Mz];omega
  have m:=B0 N c (w.a7.take (k:Int).toNat) 0 (by simpa using hd);simp only[A0,M1,Ms,q,Mr,m];by_cases r:k<4
  ·obtain⟨f,p,e1,g,b⟩:=n r;rw[My (show(k:Int)<4 by omega)];simp only[Mr,D9,p,A0,e1,g,b,Mv,M1,Ms];exact ih
  ·obtain⟨e1,g,b⟩:=d d9;rw[Mx (show¬(k:Int)<4 by omega)];simp only[Ms,A0];rw[Mx (show¬c.aV<0 by omega),Mx (show¬(k:Int)<=c.aV by omega)];have i:((bif decide ((0:Int)<c.aV) then some (decide (c.aV<(4:Int))) else some (false)):Option Bool)=some false:=by
    by_cases e:0<c.aV
    ·rw[My e,Mx (show¬c.aV<4 by have:=b e;omega)];rfl
    ·rw[Mx e];rfl
   simp only[Ms,i,A0];rw[Mx (show¬c.aI<0 by omega),Mx (show¬6<c.aI by omega)];exact ih
theorem B2 (N:Nat) (k:Nat) (m:Me):∀(l:List Me) (j:Nat),O6 N k m l j true=some true
 |[],j=>rfl
 |p::l,j=>by
  rw[O6];exact B2 N k m l (j+1)
theorem wc (N:Nat) (m:Me) (d:m.args=1) (f:m.a8=0) (g:m.code=[]):∀(l:List Me) (j:Nat),(∃p∈l,p.name=m.name/\p.aX=m.aX)->O6 N 3 m l j false=some true
 |[],j,h=>by obtain⟨p,c,_⟩:=h;cases c
 |q::l,j,h=>by
  rw[O6];by_cases a:q.name=m.name
  ·by_cases b:q.aX=m.aX
   ·simp only[a,b,d,f,g,Ms,Mv,Mr];exact B2 N 3 m l (j+1)
   ·have:∃p∈l,p.name=m.name/\p.aX=m.aX:=by
     obtain⟨p,c,e⟩:=h;rcases Ly.1 c with rfl|c
     ·exact absurd e.2 b
     ·exact⟨p,c,e⟩
    simp only[a,b,Ms,Mv,Mw,Mr];exact wc N m d f g l (j+1) this
  ·have:∃p∈l,p.name=m.name/\p.aX=m.aX:=by
    obtain⟨p,c,e⟩:=h;rcases Ly.1 c with rfl|c
    ·exact absurd e.1 a
    ·exact⟨p,c,e⟩
   simp only[a,Ms,Mw];exact wc N m d f g l (j+1) this
theorem BG (N:Nat) (w:Wd) (k:Nat) (c:Cl) (s:4194304<=N) (n:D6 w) (o:c∈w.a7) (v:dP c.aC) (u:∀m∈c.aC,lz N w k m):∀(l:List Me) (j:Nat),l=c.aC.drop j->Z7 N w N8 k c l j=some (.next ())
 |[],j,h=>rfl
 |m::l,j,h=>by
  obtain⟨d,hl,a⟩:=eK h;have a:=of_decide_eq_true a;have F:=(n.2.2.1 c o).1;have ih:=BG N w k c s n o v u l (j+1) hl;have C:j4 N8.a7 3=some ⟨⟨#[73,110,116]⟩,0,0,bx⟩:=rfl;have q:=(n.2.2.1 c o).2 m (MI d);obtain⟨b,g,E⟩:=wb N k m bx 0 false (fun p e=>e) (fun h=>by cases h);obtain⟨f,t⟩:=AK N w (k:Int) m s n.1 q;rw[Z7];have e0:((bif decide ((0:Int)<(j:Int)) then((j4 c.aC (wr ((j:Int)-(1:Int)))).bind fun r=>some ((!Y6 r.name m.name))) else some (false)):Option Bool)=some false:=by
   by_cases H:0<j
   ·have wk:wr ((j:Int)-1)=((j-1:Nat):Int):=by rw[u7 ino];omega
    obtain⟨p,e⟩:∃p,c.aC[j-1]?=some p:=⟨_,IS d9⟩;have a:=lj v e d d9;rw[My (show(0:Int)<(j:Int) by omega)];simp only[Mr,wk,D9,e,A0,a,M1]
   ·rw[Mx (show¬(0:Int)<(j:Int) by omega)];rfl
  simp only[e0,C,g,t,A0,Ms];rcases u m (MI d) with⟨i,p,e,x,y,z,A,B⟩|⟨G,i,D⟩
  ·subst i;have:=wc N m z A B bx 0 ⟨p,e,x,y⟩;rw[g] at this;cases this;simp only[M1,Ms,A0];exact ih
  ·rw[t] at i;cases i;cases b with
   |true=>simp only[M1,Ms,A0];exact ih
   |false=>simp only[MJ,Mr,A0,D,Mv,M1,Ms];exact ih
theorem B7 (N:Nat) (w:Wd) (b:4194304<=N) (a:D6 w) (H:∀(j:Nat) c,w.a7[j]?=some c->p8 w (j:Int)<=6/\c.aC.length<=8/\dP c.aC/\∀m∈c.aC,lz N w j m):∀(l:List Cl) (k:Nat),l=w.a7.drop k->ky N w N8 l k=some (.next ())
 |[],k,h=>rfl
 |c::l,k,h=>by
  obtain⟨d,hl,g⟩:=eK h;have ih:=B7 N w b a H l (k+1) hl;obtain⟨i,n,e,f⟩:=H k c d;rw[ky,kz N w (k:Int) d9 a.1];simp only[A0];rw[Mx (show¬6<p8 w (k:Int) by omega),Mx (show¬(8:Int)<(c.aC.length:Int) by omega)];simp only[Ms,BG N w k c b a (MI d) e f c.aC 0 rfl,A0];exact ih
theorem B8 (N:Nat) (w:Wd):∀(l:List V) (k:Nat),(∀v∈l,ch v (w.heap.length:Int)=0)->k9 N w l k=some (.next ())
 |[],k,_=>rfl
 |v::l,k,h=>by
  rw[k9,wW];simp only[A0,h v l8,Mv,M1,Ms];exact B8 N w l (k+1) fun u a=>h u (by simp[a])
theorem B4 (N:Nat) (w:Wd) (g:4194304<=N) (d:D6 w):∀(l:List Ob) (k:Nat),(∀o∈l,tV w o)->kA N w l k=some (.next ())
 |[],k,_=>rfl
 |o::l,k,h=>by
  obtain⟨j,e,m,c,f⟩:=h o l8;have ih:=B4 N w g d l (k+1) fun x i=>h x (by simp[i]);have b:=kz N w o.cls d9 d.1;rw[kA];simp only[b,B8 N w o.aI 0 f,A0];rw[Mx (show¬o.cls<0 by omega),Mx (show¬(w.a7.length:Int)<=o.cls by omega)];by_cases a:0<o.cls
  ·rw[My a,Mx (show¬o.cls<4 by have:=e a;omega)];simp only[c,Mv,M1,Mr,Ms,A0];exact ih
  ·rw[Mx a];simp only[c,Mv,M1,Ms,A0];exact ih
def Jg (N:Nat) (w:Wd) (a:4194304<=N) (b:D6 w) (h:I5 N w):nA N w=some 0:=by
 obtain⟨⟨g,i,j⟩,⟨e1,f⟩,c,d,e⟩:=h;unfold nA uw;simp only[A0];rw[Mx (show¬(w.a7.length:Int)<4 by omega),Mx (show¬(12:Int)<(w.a7.length:Int) by omega),Mx (show¬(60:Int)<(w.heap.length:Int) by omega),
  Mx (show¬w.aB<0 by omega),Mx (show¬1073741824<w.aB by omega)]
 simp only[Ms,A0,BF N w c w.a7 0 rfl,B7 N w a b d w.a7 0 rfl,B4 N w a b w.heap 0 e]
section
variable {w:Wd} {aE:Int} {N:Nat}
end
section
variable {w:Wd} {aE:Int} {N:Nat}
end
def Ia {w:Wd} {N:Nat} (i:4194304<=N) (j:D6 w) (f:I5 N w) {c:O8} {aE:Int} {r:Wd×e8} (h:iS w c aE cM r) :
  (r.2.err=0->M4 w c aE=0/\0<=r.2.aH/\r.2.aH<=aE/\aE<=400/\gu w r.1.heap/\r.1=⟨w.a7,r.1.heap,w.aB⟩/\w.heap.length<=r.1.heap.length/\R6 (r.1.heap.length:Int) r.2.value) /\
  (r.2.err≠0->r.1=w/\r.2.value=⟨0,0⟩/\0<=r.2.aH/\r.2.aH<=400):=by
 rcases h with⟨a,rfl⟩|⟨a,x,c',q,s,y,rfl⟩
 ·exact⟨fun e=>absurd e a,fun _=>⟨rfl,rfl,MH _,bN⟩⟩
 ·have W:=f.oZ i j;have d:0<w.a7.length:=by have:=f.many.1;omega
  obtain⟨_,_,f1,p,_⟩:=qz a;obtain⟨o,g,u,l,m,v,n⟩:=vN (Q:=cM) i j f (fun _ _=>rfl) c a;rw[q] at g;cases g;obtain⟨z,A,k,t⟩:=d30 W d (fun _ _=>rfl) s l n;rw[m] at k;unfold hF;by_cases b:c'.err=0
  ·rw[Mu b];have I:=t b;exact⟨fun _=>⟨a,bN,bN,p,I.heap,rfl,k,I.back⟩,fun h=>absurd rfl h⟩
  ·rw[Mt b];exact⟨fun h=>absurd h b,fun _=>⟨rfl,rfl,bN,bN⟩⟩
theorem I5.heap {w:Wd} {N:Nat} (z:4194304<=N) (b:D6 w) (a:I5 N w) {H:List Ob} (q:gu w H):I5 N ⟨w.a7,H,w.aB⟩/\D6 ⟨w.a7,H,w.aB⟩:=by
 have g:=pB a;have W:=a.oZ z b;have x:D6 ⟨w.a7,H,w.aB⟩:=⟨b.1,by have:=q.len;simp only;omega,b.2.2.1,fun o v=>by
  have n:=(q.ob o v).2.2.2.1;have:=W.aI o.cls;omega⟩
 have d:∀(k:Int) (m:Me),ao N ⟨w.a7,H,w.aB⟩ k m=ao N w k m:=by
  intro k m;have e:∀i,br ⟨w.a7,H,w.aB⟩ k m i=br w k m i:=fun i=>by
   unfold br fi;simp only[pD]
  have u:∀(l:List Ins) (j:Nat),dQ ⟨w.a7,H,w.aB⟩ k m l j=dQ w k m l j:=by
   intro l
   induction l with
   |nil=>intro j;rfl
   |cons i l ih=>intro j;rw[dQ,dQ,e,ih]
  unfold ao;rw[u]
 refine⟨⟨⟨a.many.1,a.many.2.1,q.len⟩,a.aB,a.cls,fun j c u=>?_,fun o v=>?_⟩,x⟩
 ·obtain⟨n,r,s,t⟩:=a.aq j c u;refine⟨by rw[pD];exact n,r,s,fun m A=>?_⟩;rcases t m A with h|⟨f,p,y⟩
  ·exact .inl h
  ·refine .inr ⟨f,?_,y⟩;rw[og N w _ m d9 b.1 (kM g b.1 _)] at p;rw[og N ⟨w.a7,H,w.aB⟩ _ m d9 b.1 (by rw[pD];exact kM g b.1 _),d];exact p
 ·obtain⟨n,r,s,t,p⟩:=q.ob o v;exact⟨n,r,s,by rw[pD];exact t,p⟩
def kU (w:Wd) (s:St) (n:ByteArray):Prop:=∃x m i,∃j:Nat,j4 w.a7 s.cls=some x/\x.aC[j]?=some m/\m.name=s.name/\j4 m.code s.pos=some i/\i.name=n
def nameAt (w:Wd) (s:St):ByteArray:=match j4 w.a7 s.cls with
 |none=>BY
 |some x=>match bM s.name x.aC with
  |none=>BY
  |some j=>match x.aC[j]? with
   |none=>BY
   |some m=>match j4 m.code s.pos with
    |none=>BY
    |some i=>i.name
def uI {w:Wd} (d:dX w) {s:St} {n:ByteArray} (h:kU w s n):nameAt w s=n:=by
 obtain⟨x,m,i,j,b,a,c,hi,rfl⟩:=h;have:=Bk (d x (eJ b)) a;rw[c] at this;unfold nameAt;simp only[b,this,a,hi]
def iP (w:Wd) (sb:D5) (e:St×Int):D5 :=
 ⟨sb.world,sb.ez,(iH w e.1 e.2 (nameAt w e.1) sb.cells).1,nk e.1 e.2 sb.aa,
  if(iH w e.1 e.2 (nameAt w e.1) sb.cells).2.2.2=true then wr (sb.hY+1) else sb.hY,if(iH w e.1 e.2 (nameAt w e.1) sb.cells).2.2.2=true then sb.not else wr (sb.not+1)⟩
def cj (w:Wd) (l:List Ce):Prop:=∀c∈l,c.aB=w.aB->∀y∈c.lines,∃n,kU w c.site n/\0<=(l7 w n y.cls).2/\(l7 w n y.cls).1=y.found
def jy (n:Nat) (sb:D5):Prop:=sb.cells.length<=n/\(∀x∈sb.cells,x.lines.length<=n)/\sb.aa.length<=n/\∀t∈sb.aa,t.a7.length<=n
def mC (w:Wd) (ev:List (St×Int)):Prop:=∀e∈ev,∃n,kU w e.1 n
def CA (e c f:Int) (x:Ce):(iV e c f x).site=x.site/\(iV e c f x).aB=e:=by
 unfold iV Y3 fg;by_cases a:x.aB=e
 ·rw[Mu a];split
  ·exact⟨rfl,a⟩
  ·split<;>exact⟨rfl,a⟩
 ·rw[Mt a];split
  ·exact⟨rfl,rfl⟩
  ·split<;>exact⟨rfl,rfl⟩
def Ak (e c f:Int) (x:Ce):(∀y∈(iV e c f x).lines,(x.aB=e/\y∈x.lines)\/y=⟨c,f⟩)/\(iV e c f x).lines.length<=x.lines.length+1:=by
 unfold iV Y3 fg;by_cases b:x.aB=e
 ·rw[Mu b];split
  ·exact⟨fun y a=>.inl ⟨b,a⟩,d9⟩
  ·split
   ·exact⟨fun y a=>by simp at a,l8⟩
   ·refine⟨fun y a=>?_,l8⟩;simp only[MN,MY] at a;rcases a with a|a
    ·exact .inl ⟨b,a⟩
    ·exact .inr a
 ·rw[Mt b];split
  ·exact⟨fun y a=>by simp at a,l8⟩
  ·split
   ·exact⟨fun y a=>by simp at a,l8⟩
   ·refine⟨fun y a=>?_,l8⟩;simp only[List.nil_append,MY] at a;exact .inr a
theorem vL {s:St} {e c f:Int}:∀{l:List Ce} {x:Ce},x∈iQ s e c f l->x∈l\/∃y,(y∈l\/y=⟨s,e,false,[]⟩)/\y.site=s/\x=iV e c f y
 |[],x,h=>by
  rw[iQ,MY] at h;exact .inr ⟨_,.inr rfl,rfl,h⟩
 |y::l,x,h=>by
  rw[iQ] at h;split at h
  ·rename_i d;rcases Ly.1 h with h|h
   ·exact .inr ⟨y,.inl l8,d,h⟩
   ·exact .inl (by simp[h])
  ·rcases Ly.1 h with h|h
   ·exact .inl (by simp[h])
   ·rcases vL h with h|⟨z,a,b⟩
    ·exact .inl (by simp[h])
    ·exact .inr ⟨z,a.imp (fun h=>by simp[h]) id,b⟩
theorem D1 {s:St} {e c f:Int}:∀l:List Ce,(iQ s e c f l).length<=l.length+1
 |[]=>by simp[iQ]
 |x::l=>by
  rw[iQ];split
  ·simp
  ·have:=D1 (s:=s) (e:=e) (c:=c) (f:=f) l;simp only[MB];omega
def d50 {w:Wd} {s:St} {n:ByteArray} {c:Int} {l:List Ce} (h:cj w l) (k:kU w s n) (j:0<=(l7 w n c).2):cj w (iQ s w.aB c (l7 w n c).1 l):=by
 intro x b i y f;rcases vL b with b|⟨z,d,a,rfl⟩
 ·exact h x b i y f
 ·rw[(CA _ _ _ _).1,a];rcases(Ak _ _ _ _).1 y f with⟨g,e⟩|rfl
  ·rcases d with d|rfl
   ·have:=h z d g y e
    rwa [a] at this
   ·simp at e
  ·exact⟨n,k,j,rfl⟩
theorem Bx {c:Int}:∀{l:List Ln},0<=kb c l->∃y∈l,y.cls=c/\y.found=kb c l
 |[],h=>by simp[kb] at h
 |y::l,h=>by
  rw[kb] at h⊢;split
  ·rename_i e;exact⟨y,l8,e,rfl⟩
  ·rename_i e;rw[Mt e] at h;obtain⟨z,a,b⟩:=Bx h;exact⟨z,by simp[a],b⟩
theorem D2 {s:St} {e c:Int}:∀{l:List Ce},0<=dx s e c l->∃x∈l,x.site=s/\x.aB=e/\∃y∈x.lines,y.cls=c/\y.found=dx s e c l
 |[],h=>by simp[dx] at h
 |x::l,h=>by
  rw[dx] at h⊢;by_cases b:x.site=s
  ·rw[Mu b] at h⊢;by_cases a:x.aB=e
   ·rw[Mu a] at h⊢;exact⟨x,l8,b,a,Bx h⟩
   ·rw[Mt a] at h;exact absurd h E5
  ·rw[Mt b] at h⊢;obtain⟨z,d,f⟩:=D2 h;exact⟨z,by simp[d],f⟩
def d66 {w:Wd} (b:dX w) {s:St} {n:ByteArray} {c:Int} {l:List Ce} (h:cj w l) (m:kU w s n) (k:0<=dx s w.aB c l):dx s w.aB c l=(l7 w n c).1/\0<=(l7 w n c).2/\dx s w.aB c l<w.a7.length:=by
 obtain⟨x,o,f,g,y,p,i,j⟩:=D2 k;obtain⟨r,d,a,e⟩:=h x o g y p;rw[f] at d;obtain rfl:r=n:=(uI b d).symm.trans (uI b m);rw[i] at a e;obtain⟨z,_,q,_⟩:=rb a;have:=(fZ q).2;rw[<-j,<-e];exact⟨rfl,a,this⟩
def Ct {w:Wd} (g:dX w) {s:St} {n:ByteArray} {c:Int} {l:List Ce} (h:cj w l) (f:kU w s n):(iH w s c n l).2.1=(l7 w n c).1/\(iH w s c n l).2.2.1=(l7 w n c).2 /\
  (iH w s c n l).2.2.2=decide (0<=dx s w.aB c l)/\(iH w s c n l).1=(if 0<=dx s w.aB c l then l else if(l7 w n c).2<0 then l else iQ s w.aB c (l7 w n c).1 l):=by
 unfold iH;by_cases a:0<=dx s w.aB c l
 ·obtain⟨g1,b,d⟩:=d66 g h f a;rw[Mu ⟨a,d⟩,Mu a,My a,g1,HZ b];exact⟨rfl,rfl,rfl,rfl⟩
 ·rw[Mt (fun e=>a e.1),Mt a,Mx a];split<;>exact⟨rfl,rfl,rfl,rfl⟩
def JX {s:St} {c:Int} {n:Nat} {l:List Tl} (h:l.length<=n) (b:∀t∈l,t.a7.length<=n):(nk s c l).length<=n+1/\∀t∈nk s c l,t.a7.length<=n+1:=by
 have d:∀l:List Tl,(∀t∈l,t.a7.length<=n)->∀t∈(fT s c l).1,t.a7.length<=n+1:=by
  intro l
  induction l with
  |nil=>intro _ t a;cases a
  |cons x l ih =>
   intro h t a;unfold fT at a;split at a
   ·rcases Ly.1 a with rfl|a
    ·have:=IP c x.a7;have:=h x l8;show(qO c x.a7).length<=n+1;omega
    ·have:=h t (by simp[a]);omega
   ·rcases Ly.1 a with rfl|a
    ·have:=h t l8;omega
    ·exact ih (fun t a=>h t (by simp[a])) t a
 have hl:=Bs s c l;unfold nk;split
 ·exact⟨d9,d l b⟩
 ·refine⟨M3,fun t a=>?_⟩;rcases MN.1 a with a|a
  ·exact d l b t a
  ·rw[MY] at a;subst a;simp
def Kb {w:Wd} (j:dX w) {sb:D5} {e:St×Int} {n:Nat} (o:∃m,kU w e.1 m) (d:jy n sb) (g:cj w sb.cells):jy (n+1) (iP w sb e)/\cj w (iP w sb e).cells:=by
 obtain⟨m,i⟩:=o;obtain⟨z1,z2,z3,z4⟩:=d;have l:=uI j i;obtain⟨_,_,_,k⟩:=Ct (c:=e.2) j g i;have h:=JX (s:=e.1) (c:=e.2) z3 z4;unfold jy iP;simp only[l,k];have a:sb.cells.length<=n+1/\∀x∈sb.cells,x.lines.length<=n+1:=⟨d9,fun x b=>by have:=z2 x b;omega⟩;split
 ·exact⟨⟨a.1,a.2,h⟩,g⟩
 ·split
  ·exact⟨⟨a.1,a.2,h⟩,g⟩
  ·rename_i p;refine⟨⟨?_,fun x b=>?_,h⟩,d50 g i d9⟩
   ·have:=D1 (s:=e.1) (e:=w.aB) (c:=e.2) (f:=(l7 w m e.2).1) sb.cells;omega
   ·rcases vL b with b|⟨z,d,_,rfl⟩
    ·exact a.2 x b
    ·have:=(Ak w.aB e.2 (l7 w m e.2).1 z).2;rcases d with d|rfl
     ·have:=z2 z d;omega
     ·simp only[Mj] at this;omega
theorem xn {w:Wd} (c:dX w):∀{ev:List (St×Int)} {sb:D5} {n:Nat},mC w ev->jy n sb->cj w sb.cells->jy (n+ev.length) (ev.foldl (iP w) sb)/\cj w (ev.foldl (iP w) sb).cells
 |[],sb,n,_,b,a=>⟨b,a⟩
 |e::ev,sb,n,he,b,a=>by
  obtain⟨d,f⟩:=Kb c (he e l8) b a;have:=xn c (show mC w ev from fun x g=>he x (Mi _ g)) d f;rw[List.foldl_cons,MB,show n+(ev.length+1)=n+1+ev.length by omega];exact this
def Kg {w:Wd} (N:Nat) (f:1048578<=N) (a:dX w) (h:D6 w) {sb:D5} {s:St} {k:Int} {n:ByteArray} {z:Nat} (l:jy z sb) (m:z<=1099511627770) (g:cj w sb.cells) (b:kU w s n) :
  ox N s k n sb w=some ((l7 w n k).1,(l7 w n k).2,iP w sb (s,k)):=by
 obtain⟨z1,z2,z3,z4⟩:=l;obtain⟨d,e,o,p⟩:=Ct (c:=k) a g b;unfold ox iP;rw[Gg N sb.cells w s k n f a h ⟨d9,fun x j=>by have:=z2 x j;omega⟩,HN N sb.aa s k (fun t i=>by have:=z4 t i;omega) d9];simp only[A0,uI a b,d,e];cases (iH w s k n sb.cells).2.2.2<;>rfl
section
variable {w:Wd} {aE:Int} {N:Nat}
structure sn (w:Wd) (aE:Int) (c:Cf):Prop where
 inv:dF w aE c
 len:(c.ev.length:Int)<=c.aH
 ok:mC w c.ev
def An {c:Cf} (I:dF w aE c) {f:j3} {F:List j3} (d:c.fs=f::F) {i:Ins} {x:Cl} {m:Me} (hi:j4 f.code f.aJ=some i) (h:j4 w.a7 f.aK=some x) (g:j4 x.aC f.aN=some m):kU w (R7 f m i f.aJ) i.name:=by
 have e:=I.fs;rw[d] at e;obtain⟨⟨l,k,R⟩,_⟩:=e;obtain⟨n,b,a⟩:=R.aq;rw[h] at b;cases b;rw[g] at a;cases a;rw[R.code] at hi;have j:R7 f m i f.aJ=⟨f.aK,m.name,f.aJ⟩:=by unfold R7;rw[R.bp];rfl
 rw[j];exact⟨x,m,i,f.aN.toNat,h,(l6 g).2,rfl,hi,rfl⟩
def d10 {Q:Int->Int->Fs×Bool} (W:cf w) (z:0<w.a7.length) (A:∀k j,(Q k j).2=false) {c g:Cf} (I:sn w aE c) (b:c.err=0) (o:c.fs≠[]) (l:P5 w aE (fun _ k s=>l7 w s k) Q c=some g) :
  (g.err=0->sn w aE g)/\mC w g.ev/\g.ev.length<=c.ev.length+1:=by
 cases a:c.fs with
 |nil=>exact absurd a o
 |cons f F =>
  obtain⟨y,r,p⟩:=re (Q:=Q) W z A I.inv b a;rw[l] at r;cases r;rcases Cm l with h|⟨E,C,i,x,m,k,q,t,D,u,v,n,d⟩
  ·rw[h];refine⟨fun e=>⟨p.inv e,?_,by rw[h];exact I.ok⟩,I.ok,d9⟩;rw[h];exact Int.le_trans I.len p.aH.1
  ·rw[a] at q;cases q;have B:=An I.inv a t u v;have aS:mC w g.ev:=by
    rw[n];intro e b;rcases MN.1 b with b|b
    ·exact I.ok e b
    ·rw[MY] at b;subst b;exact⟨_,B⟩
   refine⟨fun e=>⟨p.inv e,?_,aS⟩,aS,by rw[n];simp⟩;rcases d with⟨_,d⟩|⟨_,d|d⟩
   ·rw[d] at e;cases e
   ·exact absurd e d
   ·rw[d,n];have:=I.len;simp;omega
def Jt {Q:Int->Int->Fs×Bool} (W:cf w) (h:0<w.a7.length) (i:∀k j,(Q k j).2=false) {c c':Cf} (p:Path w aE (fun _ k s=>l7 w s k) Q c c') (b:c.err=0->sn w aE c) (aS:mC w c.ev) (hl:c.ev.length<=401) :
  mC w c'.ev/\c'.ev.length<=401:=by
 induction p with
 |refl=>exact⟨aS,hl⟩
 |@step c n o a d e _ ih =>
  obtain⟨f,g,m⟩:=d10 W h i (b a) a d e;have q:=(b a).inv.aH;have l:=(b a).len;exact ih f g d9
def JP {Q:Int->Int->Fs×Bool} {c:O8} {b:Cf} (a:gL w aE Q c=some b):b.ev=[]:=by
 unfold gL at a;split at a
 ·cases a;rfl
 ·exact(sK a).1
end
def IE {w:Wd} {N:Nat} {aE:Int} (G:4194304<=N) (B:D6 w) (u:I5 N w) (c:O8) (l:List Ce) (t:List Tl) (z:Nat) (v:jy z ⟨⟨[],[],0⟩,⟨⟨0,0⟩,0,0⟩,l,t,0,0⟩) (hz2:z<=1099511627000) (Y:cj w l) :
  ∃r ev sb,sP N w c aE l t=some ⟨r.1,r.2,sb.cells,sb.aa,sb.hY,sb.not⟩/\qR w c aE r ev/\sb=ev.foldl (iP w) ⟨⟨[],[],0⟩,⟨⟨0,0⟩,0,0⟩,l,t,0,0⟩/\mC w ev/\ev.length<=401:=by
 have W:=u.oZ G B;have g:0<w.a7.length:=by have:=u.many.1;omega
 unfold sP;rw[wg N ⟨by have:=v.1;simp only at this;omega,fun x D=>by have:=v.2.1 x D;omega⟩,BO N (fun x D=>by have:=v.2.2.2 x D;omega) (by have:=v.2.2.1;simp only at this;omega)];simp only[A0];generalize J:(⟨⟨[],[],0⟩,⟨⟨0,0⟩,0,0⟩,l,t,0,0⟩:D5)=sb at v⊢;have H:cj w sb.cells:=by rw[<-J];exact Y
 by_cases C:M4 w c aE=0
 ·obtain⟨q,E,P,b3,b4,R,S⟩:=vN (Q:=cM) G B u (fun _ _=>rfl) c C;have a:=JP E;have y:q.err=0->sn w aE q:=fun e=>⟨S e,by rw[a];simpa using P,by rw[a];intro e d;cases d⟩;obtain⟨c',O,p2,p3,p4⟩:=IJ (gl:=fun o p K s_=>ox N o p K s_ w) (gq:=fun o p=>pY N o p) (T:=iP w) (sb:=sb) (Q:=cM) (L:=fun _ k s=>l7 w s k) G B u.cy (fun k j x m _ _=>rfl) (sn w aE)
   (fun c I d A=>by
    refine⟨I.inv.wk W (fun k j h=>by cases h),?_,?_⟩
    ·intro f F i x m k b hi V D X;have n:=An I.inv b hi D X;obtain⟨t1,t2⟩:=xn u.cy I.ok v H;have hl:=I.len;have Z:=I.inv.aH;exact Kg N d9 u.cy B t1 d9 t2 n
    ·cases b:c.fs with
     |nil=>exact absurd b A
     |cons f F =>
      obtain⟨q,M,k2⟩:=re (Q:=cM) W g (fun _ _=>rfl) I.inv d b;exact⟨q,M,k2.mu,(d10 W g (fun _ _=>rfl) I d A M).1⟩) W.a8 (fun k j h=>by cases h) c C q E y R
  obtain⟨e1,U⟩:=Jt W g (fun _ _=>rfl) O y (by rw[a];intro e d;cases d) (by rw[a];simp);refine⟨hF w c',c'.ev,c'.ev.foldl (iP w) sb,?_,.inr ⟨C,q,c',E,O,p2,rfl,rfl⟩,rfl,e1,U⟩;rw[p4];rfl
 ·refine⟨(w,⟨⟨0,0⟩,M4 w c aE,0⟩),[],sb,?_,.inl ⟨C,rfl,rfl⟩,rfl,(fun e d=>by cases d),l8⟩;rw[HQ B c C];rfl
def iR (s:ByteArray) (l:List Cl):Bool:=l.any fun x=>decide (x.name=s)
def iB : Wd:=⟨[],[],0⟩
def gy (w:Wd) (s:ByteArray) (c n:Int):Wd×Int×Int :=
 if Y2 s=false\/iR s w.a7=true then(iB,0,7)
 else if c<0\/(w.a7.length:Int)<=c then(iB,0,6)
 else if n<0\/6-p8 w c<n\/(c≠0/\c<4) then(iB,0,3)
 else if 12<=w.a7.length then(iB,0,5)
 else(⟨w.a7++[⟨s,c,n,[]⟩],w.heap,w.aB⟩,(w.a7.length:Int),0)
theorem Dn (N:Nat) (s:ByteArray):∀(l:List Cl) (k:Nat),∃o,F6 N (fun b=>ov N b s) l k=some o/\(match o with|.ret r=>0<=r/\iR s l=true|.next ()=>iR s l=false)
 |[],k=>⟨_,rfl,rfl⟩
 |x::l,k=>by
  rw[F6,ov];simp only[A0];by_cases h:x.name=s
  ·exact⟨.ret (k:Int),by simp[h],by simp[iR,h]⟩
  ·obtain⟨o,d,a⟩:=Dn N s l (k+1);refine⟨o,by simp[h,d],?_⟩;cases o with
   |ret r=>exact⟨a.1,by have:=a.2;unfold iR at this⊢;simp[this]⟩
   |next u=>show iR s (x::l)=false;have c:iR s l=false:=a;unfold iR at c⊢;simp only[List.any_cons,c,h,Mw,Bool.or_false]
def has_eq (N:Nat) (s:ByteArray) (l:List Cl):J6 N l (fun b=>ov N b s)=some (iR s l):=by
 unfold J6 U6;obtain⟨o,e,c⟩:=Dn N s l 0;rw[e];cases o with
 |ret r=>obtain⟨a,d⟩:=c;simp[a,d]
 |next u=>have a:iR s l=false:=c;simp[a]
def Gu (N:Nat) (w:Wd) (s:ByteArray) (c n:Int) (k:1048578<=N) (d:D6 w) (l:∀x∈w.a7,0<=x.aI/\x.aI<=6):sO N w s c n=some (gy w s c n):=by
 unfold sO gy;have hS:=kM l d.1 c;rw[r6,has_eq,oh N w c k d.1,GW N w d];have m:wr (6-p8 w c)=6-p8 w c:=u7 ino;simp only[A0,m];cases o:Y2 s with
 |false=>simp[iB]
 |true =>
 cases p:iR s w.a7 with
 |true=>simp[iB]
 |false =>
 simp only[M1,Ms,A0];by_cases f:c<0
 ·simp[f,iB]
 by_cases i:(w.a7.length:Int)<=c
 ·simp[f,i,iB]
 simp only[f,i,Mw,Ms,A0];by_cases g:n<0
 ·simp[g,iB]
 by_cases j:6-p8 w c<n
 ·simp[g,j,iB]
 simp only[g,j,Mw,Ms,A0];by_cases e:c=0
 ·subst e;by_cases b:(12:Int)<=(w.a7.length:Int)
  ·have a:12<=w.a7.length:=d9;simp[b,a,iB]
  ·have a:¬12<=w.a7.length:=d9;have:=d.1;simp only[b,a,Mv,Mw,Ms,A0,M1];rw[G5 M3];simp
 ·by_cases h:c<4
  ·simp[e,h,iB]
  ·by_cases b:(12:Int)<=(w.a7.length:Int)
   ·have a:12<=w.a7.length:=d9;simp[e,h,b,a,iB]
   ·have a:¬12<=w.a7.length:=d9;have:=d.1;simp only[e,h,b,a,Mw,Ms,Mr,A0,MJ];rw[G5 M3];simp
def dE (m:Me):List Me->List Me
 |[]=>[m]
 |x::r=>if x.name=m.name then m::r else if Y6 m.name x.name=true then m::x::r else x::dE m r
theorem d11 (m:Me):∀(ms:List Me) (v:Nat),dP ms->v<=ms.length->(∀i x,i<v->ms[i]?=some x->Y6 x.name m.name=true)->(∀i x,v<=i->ms[i]?=some x->Y6 x.name m.name=false) ->
  dE m ms=if(bM m.name ms).isSome=true then ms.set v m else ms.take v++m::ms.drop v
 |[],v,_,h,_,_=>by simp[dE,bM]
 |x::r,0,hr,_,_,h2=>by
  have a:=h2 0 x (It _) rfl;by_cases e:x.name=m.name
  ·simp[dE,bM,e]
  ·have b:Y6 m.name x.name=true:=by
    cases q:Y6 m.name x.name with
    |true=>rfl
    |false=>exact absurd (Ds a q) e
   have g:(bM m.name (x::r)).isSome=false:=by
    cases q:bM m.name (x::r) with
    |none=>rfl
    |some j =>
     obtain⟨k,d,f⟩:=ja q;cases j with
     |zero=>cases d;exact absurd f e
     |succ j =>
      have:=lj hr (i:=0) (j:=j+1) rfl d d9;rw[f,a] at this;cases this
   simp only[g];rw[dE,Mt e,Mu b];rfl
 |x::r,v+1,hr,h,h1,h2=>by
  have a:=h1 0 x (Nat.succ_pos _) rfl;have e:x.name≠m.name:=Lb a;have ih:=d11 m r v (List.pairwise_cons.1 hr).2 (by simpa using h) (fun i y hi c=>h1 (i+1) y d9 (by simpa using c)) (fun i y hi c=>h2 (i+1) y d9 (by simpa using c));rw[dE,Mt e,Mt (by rw[Dc a];decide),ih];have:(bM m.name (x::r)).isSome=(bM m.name r).isSome:=by
   rw[bM,Mt e];cases bM m.name r<;>rfl
  rw[this];by_cases q:(bM m.name r).isSome=true
  ·simp[q]
  ·simp[q]
def iN (w:Wd) (c:Int) (m:Me):Wd×Int :=
 if 0<=c then(match w.a7[c.toNat]? with
  |none=>(⟨[],[],0⟩,6)
  |some x=>if(bM m.name x.aC).isSome=false/\8<=x.aC.length then(⟨[],[],0⟩,5)
   else(⟨w.a7.set c.toNat ⟨x.name,x.aV,x.aI,dE m x.aC⟩,w.heap,wr (w.aB+1)⟩,0)) else(⟨[],[],0⟩,6)
def G4 (N:Nat) (w:Wd) (c:Int) (m:Me) (H:1048578<=N) (n:D6 w) (s:dX w) (E:m.code.length<=1048576):qt N w c m=some (iN w c m):=by
 unfold qt iN;by_cases k:c<0
 ·have:¬0<=c:=d9;simp[k,this]
 have b:0<=c:=d9;by_cases q:(w.a7.length:Int)<=c
 ·have:w.a7[c.toNat]?=none:=MV d9;simp[k,b,q,this]
 obtain⟨x,o,p⟩:=de (l:=w.a7) b d9;have a:=MI o;obtain⟨v,t,u,j,z,A⟩:=Ai N x.aC m.name d9 (n.2.2.1 x a).1 (s x a);have h:=d11 m x.aC v (s x a) j z A;have D:c.toNat<w.a7.length:=d9;simp only[k,b,q,o,p,t,Mw,Ms,A0,if_true,FT N w n,uZ N m E];cases hi:(bM m.name x.aC).isSome with
 |true =>
  obtain⟨i,e⟩:=Option.isSome_iff_exists.1 hi;obtain⟨y,G,_⟩:=ja e;have F:v=i:=by have:=u i e;omega
  subst F;rw[hi] at h;simp only[M1,Ms,A0,o,D9,G];simp[h]
 |false =>
  have hl:=(n.2.2.1 x a).1;rw[hi] at h;by_cases r:8<=x.aC.length
  ·have d:(8:Int)<=(x.aC.length:Int):=d9;simp[r,d]
  ·have d:¬(8:Int)<=(x.aC.length:Int):=d9;have f:rK N x.aC (v:Int) [(⟨BY,(0:Int),(0:Int),(0:Int),[]⟩:Me)]=some (x.aC.take v++(⟨BY,0,0,0,[]⟩:Me)::x.aC.drop v):=by
    unfold rK;rw[G5 d9];have:(v:Int)<=(x.aC.length:Int):=d9;simp[this]
   simp only[f,r,d,MJ,Mr,Ms,Mw,A0,and_false,if_false];have g:(w.a7.set c.toNat (⟨x.name,x.aV,x.aI,x.aC.take v++(⟨BY,0,0,0,[]⟩:Me)::x.aC.drop v⟩:Cl))[c.toNat]?=some (⟨x.name,x.aV,x.aI,x.aC.take v++(⟨BY,0,0,0,[]⟩:Me)::x.aC.drop v⟩:Cl):=by
    rw[List.getElem?_set_self D]
   have B:j4 (x.aC.take v++(⟨BY,0,0,0,[]⟩:Me)::x.aC.drop v) (v:Int)=some (⟨BY,0,0,0,[]⟩:Me):=by
    rw[D9,MS M3];simp[Nat.min_eq_left j]
   have C:(x.aC.take v++(⟨BY,0,0,0,[]⟩:Me)::x.aC.drop v).set v m=x.aC.take v++m::x.aC.drop v:=by
    rw[List.set_append_right _ _ M3];simp[Nat.min_eq_left j]
   simp only[g,B,A0,List.set_set,MX,C,h,Mc,if_false]
structure Ext (w w':Wd):Prop where
 sup:∀(j:Nat) x,w.a7[j]?=some x->x.aV<j
 cls:∀(j:Nat) x,w.a7[j]?=some x->∃x',w'.a7[j]?=some x'/\x'.aV=x.aV/\x'.aI=x.aI
theorem Ext.len {w w':Wd} (h:Ext w w'):w.a7.length<=w'.a7.length:=by
 rcases Nat.lt_or_ge w'.a7.length w.a7.length with hl|hl
 ·obtain⟨b,a,_⟩:=h.cls w'.a7.length _ (IS hl);have:=(Lx.1 a).1;omega
 ·exact hl
def DV (w:Wd) (n:Nat) {c:Int} (h:c<0):bj w n c=[]:=by
 cases n with
 |zero=>rfl
 |succ n=>rw[bj,Mt d9]
theorem Ext.qh {w w':Wd} (h:Ext w w'):∀(c:Nat),c<w.a7.length->∀n b,c<n->c<b->bj w' b (c:Int)=bj w n (c:Int):=by
 intro c
 induction c using Nat.strongRecOn with
 |ind c ih =>
  intro j n b o k;obtain⟨n,rfl⟩:∃m,n=m+1:=⟨n-1,d9⟩;obtain⟨b,rfl⟩:∃m,b=m+1:=⟨b - 1,d9⟩;have f:=IS j;obtain⟨p,g,i,_⟩:=h.cls c _ f;have l:=h.sup c _ f;rw[bj,bj,Mu (Int.natCast_nonneg c),Mu (Int.natCast_nonneg c),MX,g,f];simp only[i];rcases Int.lt_or_le (w.a7[c]).aV 0 with a|d
  ·rw[DV _ _ a,DV _ _ a]
  ·obtain⟨s,e⟩:=Int.eq_ofNat_of_zero_le d;rw[e] at l⊢;rw[ih s d9 d9 n b d9 d9]
theorem Ext.aI {w w':Wd} (h:Ext w w') {c:Nat} (f:c<w.a7.length):p8 w' (c:Int)=p8 w (c:Int):=by
 unfold p8;have:=h.len;rw[h.qh c f (w.a7.length+1) (w'.a7.length+1) d9 d9];have a:=yT w (w.a7.length+1) (c:Int);generalize bj w (w.a7.length+1) (c:Int)=l at a;generalize (0:Int)=z
 induction l generalizing z with
 |nil=>rfl
 |cons k l ih =>
  obtain⟨j,m⟩:=a k l8;have b:=IS (l:=w.a7) (i:=k.toNat) d9;obtain⟨n,d,_,e⟩:=h.cls _ _ b;simp only[List.foldl_cons,d,b,e];exact ih (fun q g=>a q (by simp[g])) _
def KY {w w':Wd} {c:Int} {m:Me} {i:Ins} (f:p8 w' c=p8 w c) (hl:w.a7.length<=w'.a7.length) (h:br w c m i=0):br w' c m i=0:=by
 unfold br at h⊢;have key:∀b,fi w c m i=some b->b=true->fi w' c m i=some true:=by
  intro b;unfold fi;rw[f];split
  ·intro e a;rw[e,a]
  split
  ·intro e a;rw[e,a]
  split
  ·intro e a;rw[e,a]
  split
  ·intro e a;rw[e,a]
  split
  ·intro e a;rw[e,a]
  split
  ·intro e a;cases e;simp only[Bool.or_eq_true,IT,Mz] at a;simp only[Option.some.injEq,Bool.or_eq_true,IT,Mz];omega
  split
  ·intro e a;rw[e,a]
  split
  ·intro e a;rw[e,a]
  ·intro e;cases e
 cases d:fi w c m i with
 |none=>rw[d] at h;cases h
 |some b =>
  rw[d] at h;cases b with
  |false=>cases h
  |true=>rw[key true d rfl];exact h
theorem DP {w w':Wd} {c:Int} {m:Me} (a:p8 w' c=p8 w c) (hl:w.a7.length<=w'.a7.length):∀{l:List Ins} {k:Nat},dQ w c m l k=.next ()->dQ w' c m l k=.next ()
 |[],_,_=>rfl
 |i::l,k,h=>by
  rw[dQ] at h⊢;by_cases hi:br w c m i=0
  ·rw[Mu hi] at h;rw[Mu (KY a hl hi)];exact DP a hl h
  ·rw[Mt hi] at h;cases h
theorem DT {w:Wd} {c:Int} {m:Me}:∀{l:List Ins} {k:Nat} {f:dA},dQ w c m l k=.ret f->f.err≠0
 |[],_,_,h=>by cases h
 |i::l,k,f,h=>by
  rw[dQ] at h;by_cases hi:br w c m i=0
  ·rw[Mu hi] at h;exact DT h
  ·rw[Mt hi] at h;cases h;exact hi
def uV {N:Nat} {w w':Wd} {c:Int} {m:Me} (k:p8 w' c=p8 w c) (hl:w.a7.length<=w'.a7.length) {f:dA} (h:ao N w c m=some f) (a:f.err=0):∃d,ao N w' c m=some d/\d.err=0:=by
 unfold ao at h⊢;split at h
 ·cases h;cases a
 rename_i l;rw[Mt d9];split at h
 ·cases h;cases a
 rename_i e;rw[Mt e];split at h
 ·cases h;cases a
 rename_i g;rw[Mt g];split at h
 ·cases h;cases a
 rename_i i;rw[Mt i];split at h
 ·cases h;cases a
 rename_i j;rw[Mt j];cases b:dQ w c m m.code 0 with
 |ret r=>rw[b] at h;cases h;exact absurd a (DT b)
 |next u=>rw[b] at h;rw[DP k hl b];exact⟨f,h,a⟩
def yE {N:Nat} {w:Wd} (u:4194304<=N) (many:4<=w.a7.length/\w.a7.length<=12/\w.heap.length<=60) (aB:0<=w.aB/\w.aB<=1073741824) (cls:∀(j:Nat) c,w.a7[j]?=some c->lf w j c)
  (aq:∀(j:Nat) c,w.a7[j]?=some c->p8 w (j:Int)<=6/\c.aC.length<=8/\dP c.aC/\∀m∈c.aC,nr j m\/∃f,ao N w (j:Int) m=some f/\f.err=0) (obj:∀o∈w.heap,tV w o):I5 N w/\D6 w:=by
 have e:∀x∈w.a7,0<=x.aI/\x.aI<=6:=fun x l=>by
  obtain⟨j,i⟩:=Mn.1 l;exact(cls j x i).2.2.2.2
 have b:w.a7.length<=1048576:=d9;have r:I5 N w:=⟨many,aB,cls,fun j c s=>by
  obtain⟨p,n,q,g⟩:=aq j c s;refine⟨p,n,q,fun m k=>?_⟩;rcases g m k with h|⟨f,a,d⟩
  ·exact .inl h
  ·exact .inr ⟨f,by rw[og N w _ m d9 b (kM e b _)];exact a,d⟩,obj⟩
 refine⟨r,b,d9,fun x l=>?_,fun o t=>?_⟩
 ·obtain⟨j,i⟩:=Mn.1 l;obtain⟨_,n,_,g⟩:=aq j x i;refine⟨d9,fun m k=>?_⟩;rcases g m k with⟨_,_,_,_,_,_,_,h⟩|⟨f,a,d⟩
  ·rw[h];simp
  ·unfold ao at a;split at a
   ·cases a;cases d
   split at a
   ·cases a;cases d
   split at a
   ·cases a;cases d
   split at a
   ·cases a;cases d
   split at a
   ·cases a;cases d
   ·omega
 ·have:=(obj o t).2.2.2.1;have:=xI e many.2.1 o.cls;omega
theorem I5.vf {N:Nat} {w:Wd} (k:4194304<=N) (b:D6 w) (h:I5 N w) {j:Nat} {c:Cl} (g:w.a7[j]?=some c) {m:Me} (i:m∈c.aC):nr j m\/∃f,ao N w (j:Int) m=some f/\f.err=0:=by
 rcases(h.aq j c g).2.2.2 m i with d|⟨f,a,e⟩
 ·exact .inl d
 ·exact .inr ⟨f,by rw[og N w _ m d9 b.1 (kM (pB h) b.1 _)] at a;exact a,e⟩
theorem I5.sup {N:Nat} {w:Wd} (h:I5 N w) (j:Nat) (x:Cl) (g:w.a7[j]?=some x):x.aV<j:=by
 obtain⟨_,_,b,c,_⟩:=h.cls j x g;rcases Nat.lt_or_ge j 4 with a|a
 ·obtain⟨f,d,_,e,_⟩:=b a;rw[e];have:j=0\/j=1\/j=2\/j=3:=d9;rcases this with rfl|rfl|rfl|rfl<;>(cases d;decide)
 ·exact(c a).2.1
theorem I5.other {w:Wd} {N:Nat} (p:4194304<=N) (y:D6 w) (a:I5 N w) {H:List Ob} (n:gu w H) {e:Int} (t:0<=e/\e<=1073741824):I5 N ⟨w.a7,H,e⟩/\D6 ⟨w.a7,H,e⟩:=by
 have k:Ext w ⟨w.a7,H,e⟩:=⟨a.sup,fun j x z=>⟨x,z,rfl,rfl⟩⟩;refine yE p ⟨a.many.1,a.many.2.1,n.len⟩ t a.cls (fun j c l=>?_) fun o v=>?_
 ·have q:=(Lx.1 l).1;obtain⟨b,d,g,_⟩:=a.aq j c l;refine⟨by rw[k.aI q];exact b,d,g,fun m u=>?_⟩;rcases a.vf p y l u with h|⟨f,i,s⟩
  ·exact .inl h
  ·exact .inr (uV (k.aI q) k.len i s)
 ·obtain⟨b,d,g,r,i⟩:=n.ob o v;exact⟨b,d,g,by rw[pD];exact r,i⟩
theorem wL {w:Wd} (b:∀x∈w.a7,0<=x.aI/\x.aI<=6) (d:Int) (hd:0<=d):∀(l:List Int) (a:Int),0<=a->a+d+6*l.length<=100000000 ->
  l.foldl (fun n k=>match w.a7[k.toNat]? with|some x=>wr (n+x.aI)|none=>n) (a+d)=l.foldl (fun n k=>match w.a7[k.toNat]? with|some x=>wr (n+x.aI)|none=>n) a+d
 |[],a,_,_=>rfl
 |k::l,a,h0,h1=>by
  simp only[MB] at h1;simp only[List.foldl_cons];cases c:w.a7[k.toNat]? with
  |none=>exact wL b d hd l a h0 d9
  |some x =>
   have:=b x (MI c);simp only;rw[u7 ino,u7 ino,show a+d+x.aI=a+x.aI+d by omega];exact wL b d hd l (a+x.aI) d9 d9
def IZ {w:Wd} {s:ByteArray} {c n:Int} (o:w.a7.length<=12) (j:∀x∈w.a7++[(⟨s,c,n,[]⟩:Cl)],0<=x.aI/\x.aI<=6) (d:Ext w ⟨w.a7++[⟨s,c,n,[]⟩],w.heap,w.aB⟩) {k:Nat} (i:c=(k:Int)) (f:k<w.a7.length) :
  p8 ⟨w.a7++[⟨s,c,n,[]⟩],w.heap,w.aB⟩ (w.a7.length:Int)=p8 w c+n:=by
 have m:0<=n/\n<=6:=j ⟨s,c,n,[]⟩ l8;have b:(w.a7++[(⟨s,c,n,[]⟩:Cl)]).length=w.a7.length+1:=l8;have e1:p8 ⟨w.a7++[⟨s,c,n,[]⟩],w.heap,w.aB⟩ c=p8 w c:=by have e:=d.aI f;rw[<-i] at e;exact e
 rw[<-e1];unfold p8;simp only[b];have hl:=vJ ⟨w.a7++[⟨s,c,n,[]⟩],w.heap,w.aB⟩ (w.a7.length+1) c;rw[bj,Mu (Int.natCast_nonneg _),MX];have a:(w.a7++[(⟨s,c,n,[]⟩:Cl)])[w.a7.length]?=some ⟨s,c,n,[]⟩:=by rw[MS (It _),Nat.sub_self];rfl
 simp only[a,List.foldl_cons,MX];have l:bj ⟨w.a7++[⟨s,c,n,[]⟩],w.heap,w.aB⟩ (w.a7.length+1+1) c=bj ⟨w.a7++[⟨s,c,n,[]⟩],w.heap,w.aB⟩ (w.a7.length+1) c:=by
  have g:=d.qh k f (w.a7.length+1) (w.a7.length+1+1) d9 d9;have h:=d.qh k f (w.a7.length+1) (w.a7.length+1) d9 d9;rw[<-i] at g h;rw[g,h]
 rw[l,u7 ino];exact wL (w:=⟨w.a7++[⟨s,c,n,[]⟩],w.heap,w.aB⟩) j n m.1 (bj ⟨w.a7++[⟨s,c,n,[]⟩],w.heap,w.aB⟩ (w.a7.length+1) c) 0 d9 d9
def AU {N:Nat} {w:Wd} (D:4194304<=N) (F:D6 w) (i:I5 N w) {s:ByteArray} {c n:Int} (h:(gy w s c n).2.2=0) :
  I5 N (gy w s c n).1/\D6 (gy w s c n).1/\(gy w s c n).1=⟨w.a7++[⟨s,c,n,[]⟩],w.heap,w.aB⟩/\Ext w (gy w s c n).1:=by
 unfold gy at h⊢;split at h
 ·cases h
 rename_i y;rw[Mt y];split at h
 ·cases h
 rename_i K;rw[Mt K];split at h
 ·cases h
 rename_i L;rw[Mt L];split at h
 ·cases h
 rename_i M;rw[Mt M];simp only;have B:∀{j:Nat} {x:Cl},w.a7[j]?=some x->(w.a7++[⟨s,c,n,[]⟩])[j]?=some x:=fun {j x} a=>by
  rw[Mh (Lx.1 a).1];exact a
 have u:∀{j:Nat} {x:Cl},(w.a7++[⟨s,c,n,[]⟩])[j]?=some x->w.a7[j]?=some x\/(j=w.a7.length/\x=⟨s,c,n,[]⟩):=fun {j x} a=>by
  rcases Nat.lt_trichotomy j w.a7.length with b|b|b
  ·rw[Mh b] at a;exact .inl a
  ·subst b;rw[MS (It _),Nat.sub_self] at a;cases a;exact .inr ⟨rfl,rfl⟩
  ·rw[MV M3] at a;cases a
 have l:Ext w ⟨w.a7++[⟨s,c,n,[]⟩],w.heap,w.aB⟩:=⟨i.sup,fun j x a=>⟨x,B a,rfl,rfl⟩⟩;have p:=i.many;obtain⟨G,z⟩:=Int.eq_ofNat_of_zero_le (show 0<=c by omega);have A:G<w.a7.length:=d9;have t:=pB i;have k:∀x∈w.a7++[(⟨s,c,n,[]⟩:Cl)],0<=x.aI/\x.aI<=6:=fun x a=>by
  rcases MN.1 a with a|a
  ·exact t x a
  ·have:=MY.1 a;subst this;have:=kM t F.1 c;exact⟨bN,bN⟩
 have q:=IZ p.2.1 k l z A;have g:(w.a7++[(⟨s,c,n,[]⟩:Cl)]).length=w.a7.length+1:=l8;have E:=yE (w:=⟨w.a7++[⟨s,c,n,[]⟩],w.heap,w.aB⟩) D (by simp only[g];omega) i.aB (fun j x a=>by
  rcases u a with a|⟨rfl,rfl⟩
  ·have b:=(Lx.1 a).1;have:=i.cls j x a;unfold lf at this⊢;rw[List.take_append_of_le_length d9];exact this
  ·refine⟨by simpa using fun e=>y (.inl e),fun d hd e=>y (.inr ?_),fun R=>d9,fun _=>⟨bN,bN,fun J=>?_⟩,k _ l8⟩
   ·rw[List.take_append_of_le_length (It _),List.take_length] at hd;unfold iR;rw[List.any_eq_true];exact⟨d,hd,by simpa using e⟩
   ·simp only at J⊢;omega) (fun j x a=>by
  rcases u a with a|⟨rfl,rfl⟩
  ·have b:=(Lx.1 a).1;obtain⟨g1,v,C,_⟩:=i.aq j x a;refine⟨by rw[l.aI b];exact g1,v,C,fun m p=>?_⟩;rcases i.vf D F a p with h|⟨f,O,P⟩
   ·exact .inl h
   ·exact .inr (uV (l.aI b) l.len O P)
  ·exact⟨by rw[q];omega,l8,List.Pairwise.nil,fun m p=>by cases p⟩) fun o Q=>by
  obtain⟨g1,v,C,H,I⟩:=i.obj o Q;obtain⟨S,r⟩:=Int.eq_ofNat_of_zero_le g1;exact⟨g1,v,by simp only[g];omega,by rw[r,l.aI d9,<-r];exact H,I⟩
 exact⟨E.1,E.2,trivial,l⟩
theorem xc {m x:Me}:∀{l:List Me},x∈dE m l->x=m\/x∈l
 |[],h=>by simpa[dE] using h
 |y::l,h=>by
  unfold dE at h;split at h
  ·rcases Ly.1 h with h|h
   ·exact .inl h
   ·exact .inr (Mi _ h)
  split at h
  ·rcases Ly.1 h with h|h
   ·exact .inl h
   ·exact .inr h
  ·rcases Ly.1 h with h|h
   ·exact .inr (by rw[h];simp)
   ·rcases xc h with h|h
    ·exact .inl h
    ·exact .inr (Mi _ h)
def CM {y:Me} {l:List Me} (h:dP (y::l)):(∀x∈l,Y6 y.name x.name=true)/\dP l:=List.pairwise_cons.1 h
theorem CY {m:Me}:∀{l:List Me},dP l->(dE m l).length<=l.length+1/\((bM m.name l).isSome=true->(dE m l).length=l.length)
 |[],_=>⟨by simp[dE],fun h=>by cases h⟩
 |y::l,hr=>by
  obtain⟨b,c⟩:=CM hr;have ih:=CY (m:=m) c;unfold dE bM;split
  ·exact⟨l8,fun _=>l8⟩
  rename_i f;split
  ·rename_i a;refine⟨l8,fun h=>?_⟩;cases q:bM m.name l with
   |none=>rw[q] at h;cases h
   |some i =>
    obtain⟨x,d,e⟩:=ja q;have:=Dc (b x (MI d));rw[e,a] at this;cases this
  ·exact⟨by simp only[MB];omega,fun h=>by
    simp only[MB];rw[ih.2 (by cases q:bM m.name l with|none=>rw[q] at h;cases h|some i=>rfl)]⟩
theorem C5 {m:Me}:∀{l:List Me},dP l->dP (dE m l)
 |[],_=>by simp[dE,dP]
 |y::l,hr=>by
  obtain⟨c,e⟩:=CM hr;have ih:=C5 (m:=m) e;unfold dE;split
  ·rename_i d;exact List.pairwise_cons.2 ⟨fun x b=>by rw[<-d];exact c x b,e⟩
  rename_i d;split
  ·rename_i a;exact List.pairwise_cons.2 ⟨fun x b=>by
    rcases Ly.1 b with rfl|b
    ·exact a
    ·exact lt_trans a (c x b),hr⟩
  ·rename_i a;refine List.pairwise_cons.2 ⟨fun x b=>?_,ih⟩;rcases xc b with rfl|b
   ·cases q:Y6 y.name x.name with
    |true=>rfl
    |false=>exact absurd (Ds q (by simpa using a)) d
   ·exact c x b
def Ag {N:Nat} {w:Wd} (Q:4194304<=N) (Y:D6 w) (l:I5 N w) {c:Int} {m:Me} {f:dA} (V:ao N w c m=some f) (J:f.err=0) (he:w.aB<1073741824) (h:(iN w c m).2=0) :
  I5 N (iN w c m).1/\D6 (iN w c m).1/\(iN w c m).1.aB=w.aB+1:=by
 unfold iN at h⊢;by_cases C:0<=c
 ·rw[Mu C] at h⊢;cases A:w.a7[c.toNat]? with
  |none=>rw[A] at h;cases h
  |some x =>
   rw[A] at h;simp only at h⊢;split at h
   ·cases h
   rename_i P;rw[Mt P];simp only;have W:=l.many;have u:wr (w.aB+1)=w.aB+1:=u7 (by unfold I1;have:=l.aB;omega);have I:c.toNat<w.a7.length:=(Lx.1 A).1;have aJ:∀(j:Nat) y,(w.a7.set c.toNat ⟨x.name,x.aV,x.aI,dE m x.aC⟩)[j]?=some y->∃z,w.a7[j]?=some z/\y.name=z.name/\y.aV=z.aV/\y.aI=z.aI/\((j=c.toNat/\z=x/\y.aC=dE m x.aC)\/y.aC=z.aC):=fun j y k=>by
    rw[MQ] at k;split at k
    ·rename_i e;subst e;cases k;exact⟨x,A,rfl,rfl,rfl,.inl ⟨rfl,rfl,rfl⟩⟩
    ·exact⟨y,k,rfl,rfl,rfl,.inr rfl⟩
   have r:Ext w ⟨w.a7.set c.toNat ⟨x.name,x.aV,x.aI,dE m x.aC⟩,w.heap,wr (w.aB+1)⟩:=⟨l.sup,fun j z a=>by
    by_cases e:c.toNat=j
    ·subst e;rw[A] at a;cases a;exact⟨⟨x.name,x.aV,x.aI,dE m x.aC⟩,by simp only;rw[List.getElem?_set_self I],rfl,rfl⟩
    ·exact⟨z,by simp only;rw[List.getElem?_set_ne e];exact a,rfl,rfl⟩⟩
   have s:∀(j:Nat),∀d∈(w.a7.set c.toNat ⟨x.name,x.aV,x.aI,dE m x.aC⟩).take j,∃D∈w.a7.take j,D.name=d.name:=fun j d hd=>by
    obtain⟨i,hi⟩:=Mn.1 hd;rw[Mm] at hi;split at hi
    ·rename_i K;obtain⟨z,a,L,_⟩:=aJ i d hi
     exact⟨z,Mn.2 ⟨i,by rw[Mm,Mu K];exact a⟩,L.symm⟩
    ·cases hi
   have R:=yE (w:=⟨w.a7.set c.toNat ⟨x.name,x.aV,x.aI,dE m x.aC⟩,w.heap,wr (w.aB+1)⟩) Q (by simp only[MU];exact W) (by simp only;rw[u];have:=l.aB;omega) (fun j y k=>by
    obtain⟨z,a,e1,E,F,_⟩:=aJ j y k
    obtain⟨g1,t,p,G,H⟩:=l.cls j z a;refine⟨by rw[e1];exact g1,fun d hd=>?_,fun g=>?_,fun g=>by rw[E];exact G g,by rw[F];exact H⟩
    ·obtain⟨D,M,O⟩:=s j d hd;rw[e1,<-O];exact t D M
    ·obtain⟨ff,M,O,Z,q4⟩:=p g;exact⟨ff,M,by rw[e1];exact O,by rw[E];exact Z,by rw[F];exact q4⟩) (fun j y k=>by
    have g:=(Lx.1 k).1;simp only[MU] at g;obtain⟨z,a,e1,E,F,b⟩:=aJ j y k
    obtain⟨g1,t,p,_⟩:=l.aq j z a;have B:∀q∈z.aC,nr j q\/∃f,ao N ⟨w.a7.set c.toNat ⟨x.name,x.aV,x.aI,dE m x.aC⟩,w.heap,wr (w.aB+1)⟩ (j:Int) q=some f/\f.err=0:=fun q n=>by
     rcases l.vf Q Y a n with h|⟨f,S,T⟩
     ·exact .inl h
     ·exact .inr (uV (r.aI g) r.len S T)
    rcases b with⟨rfl,rfl,b⟩|b
    ·have hl:=CY (m:=m) p;refine⟨by rw[r.aI g];exact g1,?_,by rw[b];exact C5 p,fun q n=>?_⟩
     ·rw[b];by_cases q:(bM m.name z.aC).isSome=true
      ·rw[hl.2 q];exact t
      ·have:¬8<=z.aC.length:=fun U=>P ⟨by simpa using q,U⟩;omega
     ·rw[b] at n;rcases xc n with rfl|n
      ·right;rw[Int.toNat_of_nonneg C];have:=r.aI g;rw[Int.toNat_of_nonneg C] at this;exact uV this r.len V J
      ·exact B q n
    ·exact⟨by rw[r.aI g];exact g1,by rw[b];exact t,by rw[b];exact p,fun q n=>B q (by rw[<-b];exact n)⟩) fun o X=>by
    obtain⟨g1,t,p,G,H⟩:=l.obj o X;obtain⟨oi,v⟩:=Int.eq_ofNat_of_zero_le g1;exact⟨g1,t,by simp only[MU];exact p,by rw[v,r.aI d9,<-v];exact G,H⟩
   exact⟨R.1,R.2,u⟩
 ·rw[Mt C] at h;cases h
def BC : ∀(u:Nat) (b:UInt8),b∈Lib.decDigits u->48<=b.toNat/\b.toNat<=57:=by
 intro u
 induction u using Nat.strongRecOn with
 |_ u ih =>
  intro b a;have one:∀d:Nat,d<10->(UInt8.ofNat (48+d)).toNat=48+d:=fun d hd=>M3;rw[Lib.decDigits] at a;split at a
  ·simp only[MY] at a;subst a;rw[one u (by assumption)];omega
  ·rcases MN.1 a with a|a
   ·exact ih (u / 10) d9 b a
   ·simp only[MY] at a;subst a;rw[one (u % 10) d9];omega
def wj (u:Nat):Lib.decDigits u≠[]:=by
 rw[Lib.decDigits];split<;>simp
def FG : ∀(u:Nat),u<18446744073709551616->∀r,Lib.parseUint10 0 (Lib.decDigits u++r)=Lib.parseUint10 u r:=by
 intro u
 induction u using Nat.strongRecOn with
 |_ u ih =>
  intro a r;have one:∀d:Nat,d<10->(UInt8.ofNat (48+d)).toNat=48+d:=fun d hd=>M3;rw[Lib.decDigits];split
  ·rename_i h;simp only[List.cons_append,List.nil_append,Lib.parseUint10,one u h];rw[Mu d9,Mt d9,Mt d9];congr 1;omega
  ·rename_i h;rw[MO,ih (u / 10) d9 d9];simp only[List.cons_append,List.nil_append,Lib.parseUint10,one (u % 10) d9];rw[Mu d9,Mt d9,Mt d9];congr 1;omega
def AB {u:Nat} (a:u<18446744073709551616):Lib.parseMag (Lib.decDigits u)=.ok u:=by
 unfold Lib.parseMag;rw[Mt (wj u)];have:=FG u a [];simpa[Lib.parseUint10] using this
def I0 {n:Int} (d:I1 n):Lib.atoiAll (Lib.itoa n)=.ok n:=by
 unfold I1 at d;unfold Lib.itoa;split
 ·rw[Lib.atoiAll_minus,AB d9];simp only[Lib.signed];rw[Mt d9];congr 1;omega
 ·have a:=AB (u:=n.toNat) d9;have b:=BC n.toNat;cases hd:Lib.decDigits n.toNat with
  |nil=>exact absurd hd (wj _)
  |cons c r =>
   have e:=b c (by rw[hd];simp);rw[hd] at a;rw[Lib.atoiAll_plain c r d9 d9,a];simp only[Lib.signless];rw[Mt d9];congr 1;omega
def CG (n:Int):Lib.itoa n≠[]/\(32:UInt8) ∉ Lib.itoa n:=by
 have key:∀u:Nat,(32:UInt8) ∉ Lib.decDigits u:=fun u h=>by
  have:=BC u 32 h;have e:(32:UInt8).toNat=32:=rfl;omega
 unfold Lib.itoa;split
 ·refine⟨l8,fun h=>?_⟩;rcases Ly.1 h with h|h
  ·cases h
  ·exact key _ h
 ·exact⟨wj _,key _⟩
abbrev BL := List UInt8
def dc (s:ByteArray):BL:=s.data.toList++[32]
def dU (n:Int):BL:=Lib.itoa n++[32]
def cS (l:List Int):BL:=(l.map dU).flatten
def ei (i:Ins):BL:=cS [i.op,i.a]++(if i.op=14 then dc i.name else[])
def ee (m:Me):BL:=dc m.name++(cS [m.args,m.a8,m.aX,(m.code.length:Int)]++(m.code.map ei).flatten)
def fO (c:Cl):BL:=dc c.name++(cS [c.aV,c.aI,(c.aC.length:Int)]++(c.aC.map ee).flatten)
def vT (v:V):BL:=cS [v.k,v.n]
def fQ (o:Ob):BL:=cS [o.cls,(o.aI.length:Int)]++(o.aI.map vT).flatten
def cH (w:Wd):BL:=cS [w.aB,(w.a7.length:Int)]++((w.a7.map fO).flatten++(cS [(w.heap.length:Int)]++(w.heap.map fQ).flatten))
def U (t:BL):List Int:=t.map fun b=>(b.toNat:Int)
def kY (a b:BL):U (a++b)=U a++U b:=by simp[U]
def fH (t:BL):(U t).length=t.length:=by simp[U]
def ED (t:BL):(strOfNums (U t)).data.toList=t:=by
 rw[strOfNums_data,U,List.map_map];have:((fun n:Int=>UInt8.ofNat n.toNat)∘fun b:UInt8=>(b.toNat:Int))=id:=by
  funext b;simp
 rw[this,List.map_id]
theorem xy (s:ByteArray):eY s=U s.data.toList:=rfl
def Dx {a b:ByteArray} (h:a.data.toList=b.data.toList):a=b:=by
 apply ByteArray.ext;exact Array.toList_inj.1 h
def sx (s:ByteArray):s.data.toList.length=s.size:=by rw[Array.length_toList];rfl
def KT {n:Int} (a:I1 n):(dU n).length<=22:=by
 have:=Lib.itoa_length_le n a.1 a.2;simp only[dU,MD,Mp];omega
def vY (N:Nat) (a:List Int) (s:ByteArray) (h:a.length+(dc s).length<=140737488355328):kv N a s=some (a++U (dc s)):=by
 have b:=sx s;have hl:(eY s).length=s.size:=by rw[xy,fH,b]
 simp only[dc,MD,Mp,b] at h;unfold kv u9 uA;rw[Nat.ble_eq_true_of_le (show a.length+s.size<=140737488355328 by omega)];simp only[Mr,A0];rw[Nat.ble_eq_true_of_le (show((a++eY s).length+[(32:Int)].length)*1<=140737488355328 by simp only[MD,hl,Mp];omega)];simp only[Mr,A0,dc,kY,xy];rw[MO];rfl
theorem Da (N:Nat):∀(l:List Int) (k:Nat) (a:List Int),a.length+(cS l).length<=140737488355328->Y7 N l k a=some (a++U (cS l))
 |[],k,a,_=>by simp[Y7,cS,U]
 |n::l,k,a,h=>by
  have e:cS (n::l)=dU n++cS l:=by simp[cS]
  rw[e,MD] at h;have b:dc ⟨(Lib.itoa n).toArray⟩=dU n:=rfl;rw[Y7];simp only[strconv_Itoa,A0];rw[vY N a _ (by rw[b];omega),b];simp only[A0];rw[Da N l (k+1) _ (by rw[MD,fH];omega),e,kY,MO]
def nT (N:Nat) (a l:List Int) (h:a.length+(cS l).length<=140737488355328):U8 N a l=some (a++U (cS l)):=by
 unfold U8;rw[Da N l 0 a h];rfl
theorem qN {b:Type} (tx:b->BL) (L:List b->Nat->List Int->Option (List Int)) (c:∀k a,L [] k a=some a)
  (d:∀x l k a,a.length+(tx x).length<=140737488355328->L (x::l) k a=L l (k+1) (a++U (tx x))):∀(l:List b) (k:Nat) (a:List Int),a.length+(l.map tx).flatten.length<=140737488355328->L l k a=some (a++U (l.map tx).flatten)
 |[],k,a,_=>by simp[c,U]
 |x::l,k,a,h=>by
  simp only[ML,List.flatten_cons,MD] at h;rw[d x l k a d9,qN tx L c d l (k+1) _ (by rw[MD,fH];omega),ML,List.flatten_cons,kY,MO]
def HP (N:Nat):∀(l:List Ins) (k:Nat) (a:List Int),a.length+(l.map ei).flatten.length<=140737488355328->V6 N l k a=some (a++U (l.map ei).flatten) :=
 qN ei (V6 N) (fun k a=>rfl) fun i l k a h=>by
  simp only[ei,MD] at h;rw[V6,nT N a _ d9];simp only[A0];by_cases b:i.op=14
  ·rw[Mu b] at h;simp only[b,Mv,Mr];rw[vY N _ _ (by rw[MD,fH];rw[b] at h;omega)];simp only[A0,ei,b,if_true,kY,MO]
  ·simp only[b,Mw,Ms,A0,ei,if_false,kY,U,List.map_nil,List.append_nil]
def d65 (N:Nat) (a:List Int) (m:Me) (h:a.length+(ee m).length<=140737488355328):rE N a m=some (a++U (ee m)):=by
 simp only[ee,MD] at h;unfold rE;rw[vY N a _ d9];simp only[A0];rw[nT N _ _ (by rw[MD,fH];omega)];simp only[A0];rw[HP N m.code 0 _ (by simp only[MD,fH];omega)];simp only[A0,ee,kY,MO]
def HX (N:Nat):∀(l:List Me) (k:Nat) (a:List Int),a.length+(l.map ee).flatten.length<=140737488355328->lF N l k a=some (a++U (l.map ee).flatten) :=
 qN ee (lF N) (fun k a=>rfl) fun m l k a h=>by
  rw[lF,d65 N a m h];rfl
def HT (N:Nat):∀(l:List Cl) (k:Nat) (a:List Int),a.length+(l.map fO).flatten.length<=140737488355328->lG N l k a=some (a++U (l.map fO).flatten) :=
 qN fO (lG N) (fun k a=>rfl) fun c l k a h=>by
  simp only[fO,MD] at h;rw[lG,vY N a _ d9];simp only[A0];rw[nT N _ _ (by rw[MD,fH];omega)];simp only[A0];rw[HX N c.aC 0 _ (by simp only[MD,fH];omega)];simp only[A0,fO,kY,MO]
def HW (N:Nat):∀(l:List V) (k:Nat) (a:List Int),a.length+(l.map vT).flatten.length<=140737488355328->lJ N l k a=some (a++U (l.map vT).flatten) :=
 qN vT (lJ N) (fun k a=>rfl) fun v l k a h=>by
  rw[lJ,nT N a _ h];rfl
def Hc (N:Nat):∀(l:List Ob) (k:Nat) (a:List Int),a.length+(l.map fQ).flatten.length<=140737488355328->lH N l k a=some (a++U (l.map fQ).flatten) :=
 qN fQ (lH N) (fun k a=>rfl) fun o l k a h=>by
  simp only[fQ,MD] at h;rw[lH,nT N a _ d9];simp only[A0];rw[HW N o.aI 0 _ (by rw[MD,fH];omega)];simp only[A0,fQ,kY,MO]
def yk (w:Wd):cH w≠[]:=by
 intro h;have:=congrArg List.length h;simp only[cH,cS,ML,List.flatten_cons,dU,MD,Mp,Mj] at this;omega
def J1 (N:Nat) (w:Wd) (h:(cH w).length<=140737488355328):pI N w=some (U (cH w)):=by
 have b:=yk w;simp only[cH,MD] at h;unfold pI;rw[nT N [] _ (by simp only[Mj];omega)];simp only[A0,List.nil_append];rw[HT N w.a7 0 _ (by rw[fH];omega)];simp only[A0];rw[nT N _ _ (by simp only[MD,fH];omega)];simp only[A0];rw[Hc N w.heap 0 _ (by simp only[MD,fH];omega)];have e:U (cS [w.aB,(w.a7.length:Int)])++U (w.a7.map fO).flatten++U (cS [(w.heap.length:Int)])++U (w.heap.map fQ).flatten=U (cH w):=by
  simp only[cH,kY,MO]
 simp only[A0,e];have c:(U (cH w)).isEmpty=false:=by
  cases d:cH w with
  |nil=>exact absurd d b
  |cons a l=>rfl
 rw[c];simp only[MJ,Mr,xy,ED]
def hJ : BL->Option (BL×BL)
 |[]=>none
 |b::r=>if b=32 then some ([],r) else(hJ r).map fun p=>(b::p.1,p.2)
def index_one (t:BL):(hJ t=none/\Lib.index t [32]=-1)\/∃w r,hJ t=some (w,r)/\Lib.index t [32]=(w.length:Int)/\t=w++32::r/\(32:UInt8) ∉ w:=by
 induction t with
 |nil=>exact .inl ⟨rfl,rfl⟩
 |cons b t ih =>
  by_cases a:b=32
  ·subst a;exact .inr ⟨[],t,by simp[hJ],by simp[Lib.index],rfl,l8⟩
  ·have g:([32]:BL).isPrefixOf (b::t)=false:=by simp[List.isPrefixOf];exact fun e=>a e.symm
   rcases ih with⟨c,d⟩|⟨w,r,c,d,h,i⟩
   ·exact .inl ⟨by simp[hJ,a,c],by simp[Lib.index,g,d]⟩
   ·refine .inr ⟨b::w,r,by simp[hJ,a,c],?_,by rw[h];rfl,by simp[i,Ne.symm a]⟩;have f:¬((w.length:Int) == -1)=true:=l8;simp only[Lib.index,g,d,MB];rw[Mt l8,Mt f];omega
def Bt {t w r:BL} (h:hJ t=some (w,r)):t=w++32::r/\(32:UInt8) ∉ w:=by
 rcases index_one t with⟨a,_⟩|⟨w',d,a,_,b,c⟩
 ·rw[a] at h;cases h
 ·rw[a] at h;cases h;exact⟨b,c⟩
def Io {w:BL} (r:BL) (h:(32:UInt8) ∉ w):hJ (w++32::r)=some (w,r):=by
 induction w with
 |nil=>simp[hJ]
 |cons b w ih =>
  have a:b≠32:=fun e=>h (by simp[e]);simp[hJ,a,ih (fun e=>h (by simp[e]))]
def LI (t:BL):Lib.cut t [32]=match hJ t with
  |some (w,r)=>(w,r,true)
  |none=>(t,[],false):=by
 unfold Lib.cut;rcases index_one t with⟨a,b⟩|⟨w,r,a,b,c,d⟩
 ·rw[a,b];rfl
 ·rw[a,b,Mu d9];simp only[MX,Mp];subst c;simp
def pw (t:BL):Option (ByteArray×BL):=match hJ t with
 |some (w,r)=>if w=[] then none else some (⟨w.toArray⟩,r)
 |none=>none
def iG (s:ByteArray):Prop:=s.data.toList≠[]/\(32:UInt8) ∉ s.data.toList
def sy {t:BL} {s:ByteArray} {r:BL} (h:pw t=some (s,r)):t=dc s++r/\iG s:=by
 unfold pw at h;split at h
 ·rename_i w e c;split at h
  ·cases h
  ·rename_i d;cases h;obtain⟨a,b⟩:=Bt c;exact⟨by rw[a];simp[dc],d,b⟩
 ·cases h
def tH {s:ByteArray} (r:BL) (h:iG s):pw (dc s++r)=some (s,r):=by
 have e:dc s++r=s.data.toList++32::r:=by simp[dc]
 unfold pw;rw[e,Io r h.2];simp only[h.1,if_false]
def pn (t:BL):Option (Int×BL):=(pw t).bind fun p=>match Lib.atoiAll p.1.data.toList with
 |.ok n=>if Lib.itoa n=p.1.data.toList then some (n,p.2) else none
 |_=>none
def gp {t:BL} {n:Int} {r:BL} (h:pn t=some (n,r)):t=dU n++r/\I1 n:=by
 unfold pn at h;cases a:pw t with
 |none=>rw[a] at h;cases h
 |some p =>
  rw[a] at h;simp only[A0] at h;split at h
  ·rename_i m c;split at h
   ·rename_i b;cases h;have:=(sy (s:=p.1) (r:=p.2) a).1;exact⟨by rw[this,dc,<-b];rfl,Lib.atoiAll_bounds c⟩
   ·cases h
  ·cases h
def gw {n:Int} (r:BL) (h:I1 n):pn (dU n++r)=some (n,r):=by
 have a:iG ⟨(Lib.itoa n).toArray⟩:=CG n;have e:dU n=dc ⟨(Lib.itoa n).toArray⟩:=rfl;unfold pn;rw[e,tH r a];simp only[A0];rw[I0 h];simp
def pc (a:Int) (t:BL):Option (Int×BL):=(pn t).bind fun p=>if p.1<0\/a<p.1 then none else some p
def cX {a:Type} (p:BL->Option (a×BL)):Nat->BL->Option (List a×BL)
 |0,t=>some ([],t)
 |n+1,t=>(p t).bind fun x=>(cX p n x.2).bind fun l=>some (x.1::l.1,l.2)
def pg (t:BL):Option (Ins×BL):=(pn t).bind fun a=>(pn a.2).bind fun b=>if a.1=14 then(pw b.2).bind fun s=>some (⟨a.1,b.1,0,0,s.1⟩,s.2) else some (⟨a.1,b.1,0,0,BY⟩,b.2)
def qf (t:BL):Option (Me×BL):=(pw t).bind fun s=>(pn s.2).bind fun a=>(pn a.2).bind fun b=>(pn b.2).bind fun c=>(pc 60 c.2).bind fun n=>(cX pg n.1.toNat n.2).bind fun l=>some (⟨s.1,a.1,b.1,c.1,l.1⟩,l.2)
def qe (t:BL):Option (Cl×BL):=(pw t).bind fun s=>(pn s.2).bind fun a=>(pn a.2).bind fun b=>(pc 8 b.2).bind fun n=>(cX qf n.1.toNat n.2).bind fun l=>some (⟨s.1,a.1,b.1,l.1⟩,l.2)
def pV (t:BL):Option (V×BL):=(pn t).bind fun a=>(pn a.2).bind fun b=>some (⟨a.1,b.1⟩,b.2)
def qg (t:BL):Option (Ob×BL):=(pn t).bind fun a=>(pc 6 a.2).bind fun n=>(cX pV n.1.toNat n.2).bind fun l=>some (⟨a.1,l.1⟩,l.2)
def oS (t:BL):Option (Wd×BL):=(pn t).bind fun e=>(pc 12 e.2).bind fun n=>(cX qe n.1.toNat n.2).bind fun l=>(pc 60 l.2).bind fun m=>(cX qg m.1.toNat m.2).bind fun h=>some (⟨l.1,h.1,e.1⟩,h.2)
structure I4 {α:Type} (tx:α->BL) (p:BL->Option (α×BL)) (W:α->Prop):Prop where
 there:∀x r,W x->p (tx x++r)=some (x,r)
 back:∀t x r,p t=some (x,r)->t=tx x++r/\W x
theorem I4.word : I4 dc pw iG:=⟨fun x r h=>tH r h,fun t x r h=>sy h⟩
theorem I4.num : I4 dU pn I1:=⟨fun x r h=>gw r h,fun t x r h=>gp h⟩
theorem I4.count (a:Int):I4 dU (pc a) fun n=>I1 n/\0<=n/\n<=a:=by
 refine⟨fun n r h=>?_,fun t n r h=>?_⟩
 ·unfold pc;rw[gw r h.1];simp only[A0];rw[Mt d9]
 ·unfold pc at h;cases b:pn t with
  |none=>rw[b] at h;cases h
  |some p =>
   rw[b] at h;simp only[A0] at h;split at h
   ·cases h
   ·cases h;obtain⟨c,d⟩:=gp b;exact⟨c,d,d9,d9⟩
theorem I4.rep {b:Type} {tx:b->BL} {p:BL->Option (b×BL)} {W:b->Prop} (h:I4 tx p W):∀n:Nat,I4 (fun l=>(l.map tx).flatten) (cX p n) fun l=>l.length=n/\∀x∈l,W x
 |0=>⟨fun l r hl=>by
   have:l=[]:=Ma hl.1;subst this;rfl,fun t l r hl=>by cases hl;exact⟨rfl,rfl,l8⟩⟩
 |n+1=>by
  have ih:=I4.rep h n;refine⟨fun l r hl=>?_,fun t l r hl=>?_⟩
  ·cases l with
   |nil=>simp at hl
   |cons x l =>
    simp only[ML,List.flatten_cons,MO,cX];rw[h.there x _ (hl.2 x l8)];simp only[A0];rw[ih.there l r ⟨by simpa using hl.1,fun y a=>hl.2 y (by simp[a])⟩];rfl
  ·simp only[cX,Option.bind_eq_some_iff] at hl;obtain⟨x,k,m,j,e⟩:=hl;cases e;obtain⟨c,d⟩:=h.back t x.1 x.2 k;obtain⟨f,g,i⟩:=ih.back x.2 m.1 m.2 j;refine⟨by rw[c,f];simp,by simp[g],fun y a=>?_⟩;rcases Ly.1 a with rfl|a
   ·exact d
   ·exact i y a
def vn (i:Ins):Prop:=I1 i.op/\I1 i.a/\i.b=0/\i.c=0/\(i.op=14->iG i.name)/\(i.op≠14->i.name=BY)
def tW (m:Me):Prop:=iG m.name/\I1 m.args/\I1 m.a8/\I1 m.aX/\m.code.length<=60/\∀i∈m.code,vn i
def d48 (c:Cl):Prop:=iG c.name/\I1 c.aV/\I1 c.aI/\c.aC.length<=8/\∀m∈c.aC,tW m
def zX (v:V):Prop:=I1 v.k/\I1 v.n
def yw (o:Ob):Prop:=I1 o.cls/\o.aI.length<=6/\∀v∈o.aI,zX v
def qW (w:Wd):Prop:=I1 w.aB/\w.a7.length<=12/\w.heap.length<=60/\(∀c∈w.a7,d48 c)/\∀o∈w.heap,yw o
def kW (a b:Int):cS [a,b]=dU a++dU b:=by simp[cS]
def E7 (a b c:Int):cS [a,b,c]=dU a++(dU b++dU c):=by simp[cS]
def EA (a b c d:Int):cS [a,b,c,d]=dU a++(dU b++(dU c++dU d)):=by simp[cS]
def E6 (a:Int):cS [a]=dU a:=by simp[cS]
def tF {n:Nat} {m:Int} (h:(n:Int)<=m) (a:m<=1000):I1 (n:Int)/\(0:Int)<=(n:Int)/\(n:Int)<=m:=ino
theorem I4.ins : I4 ei pg vn:=by
 refine⟨fun i r h=>?_,fun t i r h=>?_⟩
 ·obtain⟨l,m,o,p,q,u⟩:=h;obtain⟨op,a,b,c,nm⟩:=i;simp only at l m o p q u;subst o p;unfold ei pg;simp only[kW,MO];rw[gw _ l];simp only[A0];rw[gw _ m];simp only[A0];by_cases d:op=14
  ·subst d;simp only[if_true];rw[tH r (q rfl)];rfl
  ·simp only[d,if_false,u d,List.nil_append]
 ·unfold pg at h;simp only[Option.bind_eq_some_iff] at h;obtain⟨a,v,b,w,h⟩:=h;obtain⟨f,g⟩:=gp (n:=a.1) (r:=a.2) v;obtain⟨j,k⟩:=gp (n:=b.1) (r:=b.2) w;split at h
  ·rename_i d;simp only[Option.bind_eq_some_iff] at h;obtain⟨s,x,e⟩:=h;cases e;obtain⟨s1,y⟩:=sy (s:=s.1) (r:=s.2) x;refine⟨?_,g,k,rfl,rfl,fun _=>y,fun h=>absurd d h⟩;rw[f,j,s1];simp only[ei,kW,d,if_true,MO]
  ·rename_i d;cases h;refine⟨?_,g,k,rfl,rfl,fun h=>absurd h d,fun _=>rfl⟩;rw[f,j];simp only[ei,kW,d,if_false,MO,List.nil_append]
theorem I4.me : I4 ee qf tW:=by
 refine⟨fun m r h=>?_,fun t m r h=>?_⟩
 ·obtain⟨o,p,q,u,F,v⟩:=h;unfold ee qf;simp only[EA,MO];rw[tH _ o];simp only[A0];rw[gw _ p];simp only[A0];rw[gw _ q];simp only[A0];rw[gw _ u];simp only[A0];rw[(I4.count 60).there _ _ (tF d9 E5)];simp only[A0,MX];rw[(I4.rep I4.ins m.code.length).there m.code r ⟨rfl,v⟩];rfl
 ·unfold qf at h;simp only[Option.bind_eq_some_iff] at h;obtain⟨s,A,a,w,b,x,c,y,n,z,l,hl,e⟩:=h;cases e;obtain⟨s1,E⟩:=sy (s:=s.1) (r:=s.2) A;obtain⟨d,f⟩:=gp (n:=a.1) (r:=a.2) w;obtain⟨g,i⟩:=gp (n:=b.1) (r:=b.2) x;obtain⟨j,k⟩:=gp (n:=c.1) (r:=c.2) y;obtain⟨D,G,H,I⟩:=(I4.count 60).back _ n.1 n.2 z;obtain⟨B,l2,C⟩:=(I4.rep I4.ins n.1.toNat).back _ l.1 l.2 hl;refine⟨?_,E,f,i,k,by show l.1.length<=60;omega,C⟩;have e:((l.1.length:Nat):Int)=n.1:=d9;simp only[ee,EA,e,MO];rw[s1,d,g,j,D,B]
theorem I4.cl : I4 fO qe d48:=by
 refine⟨fun m r h=>?_,fun t m r h=>?_⟩
 ·obtain⟨i,j,k,A,o⟩:=h;unfold fO qe;simp only[E7,MO];rw[tH _ i];simp only[A0];rw[gw _ j];simp only[A0];rw[gw _ k];simp only[A0];rw[(I4.count 8).there _ _ (tF d9 E5)];simp only[A0,MX];rw[(I4.rep I4.me m.aC.length).there m.aC r ⟨rfl,o⟩];rfl
 ·unfold qe at h;simp only[Option.bind_eq_some_iff] at h;obtain⟨s,v,a,p,b,q,n,u,l,hl,e⟩:=h;cases e;obtain⟨s1,z⟩:=sy (s:=s.1) (r:=s.2) v;obtain⟨c,d⟩:=gp (n:=a.1) (r:=a.2) p;obtain⟨f,g⟩:=gp (n:=b.1) (r:=b.2) q;obtain⟨y,B,C,D⟩:=(I4.count 8).back _ n.1 n.2 u;obtain⟨w,l2,x⟩:=(I4.rep I4.me n.1.toNat).back _ l.1 l.2 hl;refine⟨?_,z,d,g,by show l.1.length<=8;omega,x⟩;have e:((l.1.length:Nat):Int)=n.1:=d9;simp only[fO,E7,e,MO];rw[s1,c,f,y,w]
theorem I4.v : I4 vT pV zX:=by
 refine⟨fun v r h=>?_,fun t v r h=>?_⟩
 ·unfold vT pV;simp only[kW,MO];rw[gw _ h.1];simp only[A0];rw[gw _ h.2];rfl
 ·unfold pV at h;simp only[Option.bind_eq_some_iff] at h;obtain⟨a,i,b,j,e⟩:=h;cases e;obtain⟨c,d⟩:=gp (n:=a.1) (r:=a.2) i;obtain⟨f,g⟩:=gp (n:=b.1) (r:=b.2) j;refine⟨?_,d,g⟩;simp only[vT,kW,MO];rw[c,f]
theorem I4.ob : I4 fQ qg yw:=by
 refine⟨fun m r h=>?_,fun t m r h=>?_⟩
 ·obtain⟨d,p,f⟩:=h;unfold fQ qg;simp only[kW,MO];rw[gw _ d];simp only[A0];rw[(I4.count 6).there _ _ (tF d9 E5)];simp only[A0,MX];rw[(I4.rep I4.v m.aI.length).there m.aI r ⟨rfl,f⟩];rfl
 ·unfold qg at h;simp only[Option.bind_eq_some_iff] at h;obtain⟨a,g,n,i,l,hl,e⟩:=h;cases e;obtain⟨b,c⟩:=gp (n:=a.1) (r:=a.2) g;obtain⟨o,q,s,u⟩:=(I4.count 6).back _ n.1 n.2 i;obtain⟨j,l2,k⟩:=(I4.rep I4.v n.1.toNat).back _ l.1 l.2 hl;refine⟨?_,c,by show l.1.length<=6;omega,k⟩;have e:((l.1.length:Nat):Int)=n.1:=d9;simp only[fQ,kW,e,MO];rw[b,o,j]
theorem I4.wo : I4 cH oS qW:=by
 refine⟨fun m r h=>?_,fun t m r h=>?_⟩
 ·obtain⟨f,A,B,g,i⟩:=h;unfold cH oS;simp only[kW,E6,MO];rw[gw _ f];simp only[A0];rw[(I4.count 12).there _ _ (tF d9 E5)];simp only[A0,MX];rw[(I4.rep I4.cl m.a7.length).there m.a7 _ ⟨rfl,g⟩];simp only[A0];rw[(I4.count 60).there _ _ (tF d9 E5)];simp only[A0,MX];rw[(I4.rep I4.ob m.heap.length).there m.heap r ⟨rfl,i⟩];rfl
 ·unfold oS at h;simp only[Option.bind_eq_some_iff] at h;obtain⟨a,j,n,q,l,hl,k,p,o,s,e⟩:=h;cases e;obtain⟨b,c⟩:=gp (n:=a.1) (r:=a.2) j;obtain⟨x,F,G,H⟩:=(I4.count 12).back _ n.1 n.2 q;obtain⟨v,l2,w⟩:=(I4.rep I4.cl n.1.toNat).back _ l.1 l.2 hl;obtain⟨u,C,D,E⟩:=(I4.count 60).back _ k.1 k.2 p;obtain⟨y,I,z⟩:=(I4.rep I4.ob k.1.toNat).back _ o.1 o.2 s;refine⟨?_,c,by show l.1.length<=12;omega,by show o.1.length<=60;omega,w,z⟩;have e:((l.1.length:Nat):Int)=n.1:=d9;have d:((o.1.length:Nat):Int)=k.1:=d9;simp only[cH,kW,E6,e,d,MO];rw[b,x,v,u,y]
def G6 {α:Type} (f:D8->Option (α×D8)) (p:BL->Option (α×BL)) (A:α->Prop):Prop :=
 ∀r:D8,r.s.size<4294967281->∃a b,f r=some (a,b)/\A a/\b.s.size<=r.s.size/\(r.gd=false->b.gd=false) /\
  (r.gd=true->match p r.s.data.toList with
   |some (x,t)=>a=x/\b.gd=true/\b.s.data.toList=t
   |none=>b.gd=false)
section
variable {α β:Type}
theorem G6.pure {a:α} {A:α->Prop} (h:A a):G6 (fun r=>some (a,r)) (fun t=>some (a,t)) A :=
 fun r _=>⟨a,r,rfl,h,It _,fun h=>h,fun h=>⟨rfl,h,rfl⟩⟩
theorem G6.bind {f:D8->Option (α×D8)} {p:BL->Option (α×BL)} {A:α->Prop} (o:G6 f p A) {k:α×D8->Option (β×D8)} {q:α×BL->Option (β×BL)} {B:β->Prop}
  (u:∀a,A a->G6 (fun r=>k (a,r)) (fun t=>q (a,t)) B):G6 (fun r=>(f r).bind k) (fun t=>(p t).bind q) B:=by
 intro r v;obtain⟨a,w,j,l,C,m,c⟩:=o r v;obtain⟨b,y,g1,g,z,d,i⟩:=u a l w d9;refine⟨b,y,by simp only[j,A0,g1],g,d9,fun h=>d (m h),fun h=>?_⟩;have c:=c h;dsimp only;cases e:p r.s.data.toList with
 |none =>
  rw[e] at c;exact d c
 |some x =>
  rw[e] at c;obtain⟨x,t⟩:=x;obtain⟨rfl,n,rfl⟩:=c;exact i n
theorem G6.eA {L:D8->Option (D8×α)} {p:BL->Option (α×BL)} {A:α->Prop} (e:G6 (fun r=>(L r).map fun y=>(y.2,y.1)) p A) {k:D8×α->Option (β×D8)} {q:α×BL->Option (β×BL)} {B:β->Prop}
  (f:∀a,A a->G6 (fun r=>k (r,a)) (fun t=>q (a,t)) B):G6 (fun r=>(L r).bind k) (fun t=>(p t).bind q) B:=by
 have:=G6.bind e (k:=fun y=>k (y.2,y.1)) f;intro r h;obtain⟨b,c,g1,g⟩:=this r h;refine⟨b,c,?_,g⟩;have d:((L r).map fun y=>(y.2,y.1)).bind (fun y=>k (y.2,y.1))=some (b,c):=g1;show(L r).bind k=some (b,c);rw[<-d];cases L r<;>rfl
theorem G6.loop {p:BL->Option (α×BL)} {step:D8->Option (α×D8)} (o:G6 step p fun _=>True) {L:Nat->Nat->D8->List α->Option (D8×List α)} (m:∀k r l,L 0 k r l=some (r,l))
  (q:∀n k r l,l.length<=1000->L (n+1) k r l=(step r).bind fun y=>L n (k+1) y.2 (l++[y.1])) :
  ∀(n k:Nat) (l:List α),l.length+n<=1000->G6 (fun r=>(L n k r l).map fun y=>(y.2,y.1)) (fun t=>(cX p n t).map fun y=>(l++y.1,y.2)) fun _=>True
 |0,k,l,_=>fun r e=>⟨l,r,by simp[m],trivial,It _,fun h=>h,fun h=>by simp[cX,h]⟩
 |n+1,k,l,hl=>by
  intro r e;obtain⟨a,g,u,B,C,v,d⟩:=o r e;obtain⟨b,i,g1,z,A,j,c⟩:=G6.loop o m q n (k+1) (l++[a]) M3 g d9;have g1:(L n (k+1) g (l++[a])).map (fun y=>(y.2,y.1))=some (b,i):=g1;refine⟨b,i,?_,trivial,d9,fun h=>j (v h),fun h=>?_⟩
  ·show(L (n+1) k r l).map (fun y=>(y.2,y.1))=some (b,i);rw[q n k r l d9,u,<-g1];rfl
  have d:=d h;dsimp only;cases f:p r.s.data.toList with
  |none =>
   rw[f] at d;simp only[cX,f,Option.bind_none,Option.map_none];exact j d
  |some x =>
   rw[f] at d;obtain⟨x,t⟩:=x;obtain⟨rfl,w,rfl⟩:=d;have c:=c w;dsimp only at c;simp only[cX,f,A0];cases e:cX p n g.s.data.toList with
   |none=>rw[e] at c;exact c
   |some y =>
    rw[e] at c;simp only[MW,MO,List.singleton_append] at c;exact c
theorem G6.rep {p:BL->Option (α×BL)} {step:D8->Option (α×D8)} (c:G6 step p fun _=>True) {L:Nat->Nat->D8->List α->Option (D8×List α)} (a:∀k r l,L 0 k r l=some (r,l))
  (d:∀n k r l,l.length<=1000->L (n+1) k r l=(step r).bind fun y=>L n (k+1) y.2 (l++[y.1])) (n:Nat) (b:n<=1000):G6 (fun r=>(L n 0 r []).map fun y=>(y.2,y.1)) (cX p n) fun _=>True:=by
 have:=G6.loop c a d n 0 [] (by simpa using b);have e:(fun t=>(cX p n t).map fun y=>(([]:List α)++y.1,y.2))=cX p n:=by
  funext t;cases cX p n t<;>rfl
 rwa [e] at this
end
theorem G6.word (N:Nat):G6 (Q5 N) pw fun w=>w.size<4294967281:=by
 intro r i;obtain⟨s,o⟩:=r;simp only at i;have l:=sx s;have c:=LI s.data.toList;unfold Q5 strings_Cut;have d:(⟨#[32]⟩:ByteArray).data.toList=[32]:=rfl;rw[My (show(s.size<4294967281) from i),d];simp only[Mr,A0];cases a:hJ s.data.toList with
 |none =>
  rw[a] at c;rw[c];simp only[MJ,Mr,A0];refine⟨_,_,rfl,by show 0<_;omega,It _,fun _=>rfl,fun h=>?_⟩;simp[pw,a]
 |some y =>
  obtain⟨w,t⟩:=y;rw[a] at c;obtain⟨j,k⟩:=Bt a;have hl:=congrArg List.length j;simp only[MD,MB] at hl;rw[c];simp only[M1,Ms,A0];by_cases g:w=[]
  ·subst g;have:(⟨([]:BL).toArray⟩:ByteArray)=⟨#[]⟩:=rfl;rw[this];simp only[Mv,Mr];refine⟨_,_,rfl,by show 0<_;omega,It _,fun _=>rfl,fun h=>?_⟩;simp[pw,a]
  ·have f:¬(⟨w.toArray⟩:ByteArray)=⟨#[]⟩:=fun e=>g (by
    have:=congrArg (fun b:ByteArray=>b.data.toList) e;simpa using this)
   rw[Mx f];simp only[Ms];refine⟨_,_,rfl,?_,?_,fun h=>h,fun h=>?_⟩
   ·show w.toArray.size<_;rw[List.size_toArray];omega
   ·show t.toArray.size<=s.size;rw[List.size_toArray];omega
   ·simp[pw,a,g,h]
theorem G6.num (N:Nat):G6 (q8 N) pn fun _=>True:=by
 unfold q8 pn;refine G6.bind (G6.word N) fun w d=>?_;intro r c;obtain⟨s,o⟩:=r;simp only;have f:=sx w;unfold strconv_Atoi strconv_Itoa;rw[My (show(w.size<=281474976710656) by omega)];simp only[Mr,A0];cases b:Lib.atoiAll w.data.toList with
 |ok n =>
  simp only[M1,Ms,A0];by_cases a:Lib.itoa n=w.data.toList
  ·have e:(⟨(Lib.itoa n).toArray⟩:ByteArray)=w:=Dx a;rw[My e];simp only[M1,Ms,A0];exact⟨_,_,rfl,trivial,It _,fun h=>h,fun h=>by simp[a,h]⟩
  ·have e:¬(⟨(Lib.itoa n).toArray⟩:ByteArray)=w:=fun e=>a (by rw[<-e]);rw[Mx e];simp only[MJ,Mr,A0];exact⟨_,_,rfl,trivial,It _,fun _=>rfl,fun _=>by simp[a]⟩
 |_ =>
  simp only[MJ,Mr,A0];exact⟨_,_,rfl,trivial,It _,fun _=>rfl,fun _=>rfl⟩
theorem G6.count (N:Nat) (a:Int) (d:0<=a):G6 (fun r=>L8 N r a) (pc a) fun n=>0<=n/\n<=a:=by
 unfold L8 pc;refine G6.bind (G6.num N) fun n _=>?_;intro r e;obtain⟨s,o⟩:=r;simp only;by_cases b:n<0
 ·simp only[b,Mv,Mr,A0];exact⟨_,_,rfl,⟨MH _,d⟩,It _,fun _=>rfl,fun _=>by simp[b]⟩
 ·by_cases c:a<n
  ·simp only[b,c,Mv,Mw,Mr,Ms,A0];exact⟨_,_,rfl,⟨MH _,d⟩,It _,fun _=>rfl,fun _=>by simp[c]⟩
  ·simp only[b,c,Mw,Ms,A0];exact⟨_,_,rfl,⟨d9,d9⟩,It _,fun h=>h,fun h=>by simp[b,c,h]⟩
def d42 (a:Int):(a-((0:Nat):Int)).toNat=a.toNat:=l8
def pb {α:Type} {l:List α} {x:α} {B:Nat} (h:l.length<=1000) (a:B<=1000):IN ((l.length+[x].length)*B) 140737488355328=true:=by
 refine Nat.ble_eq_true_of_le ?_;have:(l.length+[x].length)*B<=1001*1000:=Nat.mul_le_mul (by simp only[Mp];omega) a;omega
def vk (N:Nat) (r:D8):Option (Ins×D8):=(q8 N r).bind fun a=>(q8 N a.2).bind fun b=>bif decide (a.1=14) then(Q5 N b.2).bind fun s=>some (⟨a.1,b.1,0,0,s.1⟩,s.2) else some (⟨a.1,b.1,0,0,BY⟩,b.2)
theorem G6.ins (N:Nat):G6 (vk N) pg fun _=>True:=by
 unfold vk pg;refine G6.bind (G6.num N) fun a _=>?_;dsimp only;by_cases h:a=14
 ·simp only[h,Mv,Mr,if_true];refine G6.bind (G6.num N) fun b _=>?_;dsimp only;exact G6.bind (G6.word N) fun s _=>by dsimp only;exact G6.pure trivial
 ·simp only[h,Mw,Ms,if_false];exact G6.bind (G6.num N) fun b _=>by dsimp only;exact G6.pure trivial
def GO (N:Nat) (n k:Nat) (r:D8) (l:List Ins) (hl:l.length<=1000):O7 N (n+1) k r l=(vk N r).bind fun y=>O7 N n (k+1) y.2 (l++[y.1]):=by
 rw[O7];unfold vk;cases d:q8 N r with
 |none=>rfl
 |some a =>
  simp only[A0];cases e:q8 N a.2 with
  |none=>rfl
  |some b =>
   simp only[A0];by_cases c:a.1=14
   ·simp only[c,Mv,Mr];cases f:Q5 N b.2 with
    |none=>rfl
    |some s=>simp only[A0,pb hl (show 48<=1000 by decide),Mr]
   ·simp only[c,Mw,Ms,A0,pb hl (show 48<=1000 by decide),Mr]
theorem G6.me (N:Nat):G6 (mc N) qf fun _=>True:=by
 unfold mc qf;refine G6.bind (G6.word N) fun w _=>?_;dsimp only;refine G6.bind (G6.num N) fun a _=>?_;dsimp only;refine G6.bind (G6.num N) fun b _=>?_;dsimp only;refine G6.bind (G6.num N) fun c _=>?_;dsimp only;refine G6.bind (G6.count N 60 E5) fun n d=>?_;dsimp only;simp only[d42];exact G6.eA (G6.rep (G6.ins N) (L:=O7 N) (fun k r l=>rfl) (GO N) n.toNat d9) fun l _=>by dsimp only;exact G6.pure trivial
def Gn (N:Nat) (n k:Nat) (r:D8) (l:List Me) (hl:l.length<=1000):K5 N (n+1) k r l=(mc N r).bind fun y=>K5 N n (k+1) y.2 (l++[y.1]):=by
 rw[K5];cases b:mc N r with
 |none=>rfl
 |some a=>simp only[A0,pb hl (show 64<=1000 by decide),Mr]
def d60 (N:Nat) (r:D8):Option (Cl×D8):=(Q5 N r).bind fun s=>(q8 N s.2).bind fun a=>(q8 N a.2).bind fun b=>(L8 N b.2 8).bind fun n=>(K5 N n.1.toNat 0 n.2 []).bind fun l=>some (⟨s.1,a.1,b.1,l.2⟩,l.1)
theorem G6.cl (N:Nat):G6 (d60 N) qe fun _=>True:=by
 unfold d60 qe;refine G6.bind (G6.word N) fun w _=>?_;dsimp only;refine G6.bind (G6.num N) fun a _=>?_;dsimp only;refine G6.bind (G6.num N) fun b _=>?_;dsimp only;refine G6.bind (G6.count N 8 E5) fun n c=>?_;dsimp only;exact G6.eA (G6.rep (G6.me N) (L:=K5 N) (fun k r l=>rfl) (Gn N) n.toNat d9) fun l _=>by dsimp only;exact G6.pure trivial
def Gx (N:Nat) (n k:Nat) (r:D8) (l:List Cl) (hl:l.length<=1000):S9 N (n+1) k r l=(d60 N r).bind fun y=>S9 N n (k+1) y.2 (l++[y.1]):=by
 rw[S9];unfold d60;cases e:Q5 N r with
 |none=>rfl
 |some s =>
  simp only[A0];cases f:q8 N s.2 with
  |none=>rfl
  |some a =>
   simp only[A0];cases g:q8 N a.2 with
   |none=>rfl
   |some b =>
    simp only[A0];cases h:L8 N b.2 8 with
    |none=>rfl
    |some c =>
     simp only[A0,d42];cases i:K5 N c.1.toNat 0 c.2 [] with
     |none=>rfl
     |some d=>simp only[A0,pb hl (show 56<=1000 by decide),Mr]
def vz (N:Nat) (r:D8):Option (V×D8):=(q8 N r).bind fun a=>(q8 N a.2).bind fun b=>some (⟨a.1,b.1⟩,b.2)
theorem G6.v (N:Nat):G6 (vz N) pV fun _=>True:=by
 unfold vz pV;refine G6.bind (G6.num N) fun a _=>?_;dsimp only;exact G6.bind (G6.num N) fun b _=>by dsimp only;exact G6.pure trivial
def Gp (N:Nat) (n k:Nat) (r:D8) (l:List V) (hl:l.length<=1000):L6 N (n+1) k r l=(vz N r).bind fun y=>L6 N n (k+1) y.2 (l++[y.1]):=by
 rw[L6];unfold vz;cases c:q8 N r with
 |none=>rfl
 |some a =>
  simp only[A0];cases d:q8 N a.2 with
  |none=>rfl
  |some b=>simp only[A0,pb hl (show 16<=1000 by decide),Mr]
def d29 (N:Nat) (r:D8):Option (Ob×D8):=(q8 N r).bind fun a=>(L8 N a.2 6).bind fun n=>(L6 N n.1.toNat 0 n.2 []).bind fun l=>some (⟨a.1,l.2⟩,l.1)
theorem G6.ob (N:Nat):G6 (d29 N) qg fun _=>True:=by
 unfold d29 qg;refine G6.bind (G6.num N) fun a _=>?_;dsimp only;refine G6.bind (G6.count N 6 E5) fun n b=>?_;dsimp only;exact G6.eA (G6.rep (G6.v N) (L:=L6 N) (fun k r l=>rfl) (Gp N) n.toNat d9) fun l _=>by dsimp only;exact G6.pure trivial
def Gt (N:Nat) (n k:Nat) (r:D8) (l:List Ob) (hl:l.length<=1000):R8 N (n+1) k r l=(d29 N r).bind fun y=>R8 N n (k+1) y.2 (l++[y.1]):=by
 rw[R8];unfold d29;cases c:q8 N r with
 |none=>rfl
 |some a =>
  simp only[A0];cases e:L8 N a.2 6 with
  |none=>rfl
  |some b =>
   simp only[A0,d42];cases f:L6 N b.1.toNat 0 b.2 [] with
   |none=>rfl
   |some d=>simp only[A0,pb hl (show 32<=1000 by decide),Mr]
theorem G6.wo (N:Nat):G6 (rI N) oS fun _=>True:=by
 unfold rI oS;refine G6.bind (G6.num N) fun e _=>?_;dsimp only;refine G6.bind (G6.count N 12 E5) fun n b=>?_;dsimp only;simp only[d42];refine G6.eA (G6.rep (G6.cl N) (L:=S9 N) (fun k r l=>rfl) (Gx N) n.toNat d9) fun l _=>?_;dsimp only;refine G6.bind (G6.count N 60 E5) fun m a=>?_;dsimp only;exact G6.eA (G6.rep (G6.ob N) (L:=R8 N) (fun k r l=>rfl) (Gt N) m.toNat d9) fun l _=>by dsimp only;exact G6.pure trivial
def d77 (t:BL):Option Wd:=match oS t with
 |some (w,[])=>some w
 |_=>none
def KJ {w:Wd} (h:qW w):d77 (cH w)=some w:=by
 have:=I4.wo.there w [] h;rw[List.append_nil] at this;unfold d77;rw[this]
def JJ (N:Nat) (b:List Int) (i:b.length<4294967281):kK N b=match d77 (strOfNums b).data.toList with
  |none=>some (⟨[],[],0⟩,2)
  |some w=>(pE N w).bind fun r=>bif (!decide (r=0)) then some (⟨[],[],0⟩,r) else some (w,0):=by
 unfold kK;obtain⟨w,r,g,_,_,_,c⟩:=G6.wo N ⟨strOfNums b,true⟩ (by rw[strOfNums_size];exact i);have c:=c rfl;rw[g];simp only[A0];simp only at c;unfold d77;cases f:oS (strOfNums b).data.toList with
 |none =>
  rw[f] at c;simp only[c,MJ,Mr,A0]
 |some x =>
  obtain⟨x,t⟩:=x;rw[f] at c;obtain⟨rfl,h,d⟩:=c;simp only[h,M1,Ms,A0];cases t with
  |nil =>
   have:r.s=⟨#[]⟩:=Dx d;simp only[this,Mv,M1,Ms]
  |cons a t =>
   have:¬r.s=⟨#[]⟩:=fun e=>by rw[e] at d;cases d
   simp only[this,Mw,MJ,Mr]
def jC (a:List Cl) (s:ByteArray):Bool:=a.any fun d=>decide (d.name=s)
def tR (k:Nat) (c:Cl):Bool:=match N8.a7[k]? with
 |some f=>!decide (c.name=f.name)
 |none=>false
def ph (k:Nat) (c:Cl):Bool:=(match N8.a7[k]? with
 |some f=>!decide (c.aV=f.aV) || !decide (c.aI=0)
 |none=>decide (c.aV<0) || (decide ((k:Int)<=c.aV) || (!decide (c.aV=0) && decide (c.aV<4)))) || (decide (c.aI<0) || decide (6<c.aI))
def lb (a:List Cl) (k:Nat) (c:Cl):Int:=bif !Y2 c.name || (jC a c.name || tR k c) then 7 else bif ph k c then 3 else 0
def jj (w:Wd):List Cl->Nat->H9 Int Unit
 |[],_=>.next ()
 |c::l,k=>bif decide (lb (w.a7.take k) k c=0) then jj w l (k+1) else .ret (lb (w.a7.take k) k c)
def qH (k:Nat) (m:Me):Bool:=decide (k=3) && (bx.any (fun p=>decide (p.name=m.name) && decide (p.aX=m.aX)) && (decide (m.args=1) && (decide (m.a8=0) && decide (m.code=[]))))
def nj (p:Option Me) (m:Me):Bool:=match p with
 |some q=>!Y6 q.name m.name
 |none=>false
def d64 (N:Nat) (w:Wd) (k:Nat) (p:Option Me) (m:Me):Option Int:=bif nj p m then some 7 else bif qH k m then some 0 else(ao N w (k:Int) m).map (·.err)
def po (N:Nat) (w:Wd) (k:Nat) (ms:List Me):List Me->Nat->Option (H9 Int Unit)
 |[],_=>some (.next ())
 |m::l,j=>(d64 N w k (if j=0 then none else ms[j-1]?) m).bind fun e=>bif decide (e=0) then po N w k ms l (j+1) else some (.ret e)
def lq (N:Nat) (w:Wd):List Cl->Nat->Option (H9 Int Unit)
 |[],_=>some (.next ())
 |c::l,k=>bif decide (6<p8 w (k:Int)) then some (.ret 3) else bif decide (8<(c.aC.length:Int)) then some (.ret 5) else(po N w k c.aC c.aC 0).bind fun o=>match o with
  |.ret r=>some (.ret r)
  |.next ()=>lq N w l (k+1)
def lg (n:Int):List V->H9 Int Unit
 |[]=>.next ()
 |v::l=>bif decide (ch v n=0) then lg n l else .ret (ch v n)
def oP (w:Wd) (o:Ob):Bool:=(!decide (o.cls=0) && (decide (o.cls<4) || decide ((w.a7.length:Int)<=o.cls))) || !decide ((o.aI.length:Int)=p8 w o.cls)
def lp (w:Wd):List Ob->H9 Int Unit
 |[]=>.next ()
 |o::l=>bif oP w o then .ret 8 else match lg (w.heap.length:Int) o.aI with
  |.ret r=>.ret r
  |.next ()=>lp w l
def qA (N:Nat) (w:Wd):Option Int :=
 bif decide ((w.a7.length:Int)<4) || (decide (12<(w.a7.length:Int)) || decide (60<(w.heap.length:Int))) then some 5
 else bif decide (w.aB<0) || decide (1073741824<w.aB) then some 3
 else match jj w w.a7 0 with
  |.ret r=>some r
  |.next ()=>(lq N w w.a7 0).bind fun o=>match o with
   |.ret r=>some r
   |.next ()=>match lp w w.heap with
    |.ret r=>some r
    |.next ()=>some 0
theorem Ca {c:Type} [DecidableEq c] (x s:c):∀v:List (c×Bool),fo s (eF x true v)=(decide (x=s) || fo s v)
 |[]=>by
  by_cases h:s=x
  ·simp[eF,fo,h]
  ·simp[eF,fo,h,Ne.symm h]
 |(y,b)::l=>by
  have ih:=Ca x s l;by_cases h:x=y
  ·subst h;by_cases a:s=x
   ·simp[eF,fo,a]
   ·simp[eF,fo,a,Ne.symm a]
  ·by_cases a:s=y
   ·have:¬x=s:=fun e=>h (e.trans a);simp[eF,fo,h,a]
   ·simp only[eF,Mt h,fo,Mt a];exact ih
def IM (a:List Cl) (c:Cl) (s:ByteArray):jC (a++[c]) s=(decide (c.name=s) || jC a s):=by
 simp only[jC,List.any_append,List.any_cons,List.any_nil,Bool.or_false];exact Bool.or_comm _ _
theorem sj : N8.a7.length=4:=rfl
def Dp {k:Nat} {f:Cl} (h:N8.a7[k]?=some f):k<4:=by
 have:=(Lx.1 h).1
 rwa [sj] at this
def d89 {k:Nat} (h:N8.a7[k]?=none):4<=k:=by
 have:=List.getElem?_eq_none_iff.1 h
 rwa [sj] at this
theorem Bv (N:Nat) (w:Wd) (r:w.a7.length<=1048576):∀(l:List Cl) (k:Nat) (v:List (ByteArray×Bool)),l=w.a7.drop k->v.length<=k->(∀s,fo s v=jC (w.a7.take k) s)->mz N N8 l k v=some (jj w l k)
 |[],k,v,_,_,_=>rfl
 |c::l,k,v,h,hv,hm=>by
  obtain⟨p,hl,i⟩:=eK h;have i:=of_decide_eq_true i;have t:=xX p;have ih:=Bv N w r l (k+1) (eF c.name true v) hl (by have:=y6 c.name true v;omega) (fun s=>by rw[Ca,hm,t,IM]);rw[mz,r6,jj,sj];simp only[A0,hm,ih,Nat.ble_eq_true_of_le (show v.length+1<=140737488355328 by omega),Mr];unfold lb tR ph;cases u:Y2 c.name with
  |false=>simp
  |true =>
   cases hd:jC (w.a7.take k) c.name with
   |true=>simp
   |false =>
    cases o:N8.a7[k]? with
    |some f =>
     have q:=Dp o;have e1:decide ((k:Int)<((4:Nat):Int))=true:=My d9;have n:decide (((4:Nat):Int)<=(k:Int))=false:=Mx d9;simp only[e1,n,D9,o,A0,Mr,Ms,M1,Bool.false_or];by_cases b:c.name=f.name
     ·by_cases a:c.aV=f.aV
      ·by_cases d:c.aI=0
       ·simp[b,a,d]
       ·simp[b,a,d]
      ·simp[b,a]
     ·simp[b]
    |none =>
     have q:=d89 o;have e:¬k=0:=d9;have e1:decide ((k:Int)<((4:Nat):Int))=false:=Mx d9;have n:decide (((4:Nat):Int)<=(k:Int))=true:=My d9;simp only[e1,n,A0,Mr,Ms,M1,Bool.false_or];by_cases b:c.aV<0
     ·simp[b]
     ·by_cases a:(k:Int)<=c.aV
      ·simp[b,a]
      ·by_cases d:c.aV=0
       ·by_cases g:c.aI<0
        ·simp[e,a,d,g]
        ·by_cases j:6<c.aI
         ·simp[e,a,d,g,j]
         ·simp[e,a,d,g,j]
       ·by_cases m:c.aV<4
        ·simp[b,a,d,m]
        ·by_cases g:c.aI<0
         ·simp[b,a,d,g,m]
         ·by_cases j:6<c.aI
          ·simp[b,a,d,g,j,m]
          ·simp[b,a,d,g,j,m]
theorem Dz {s:ByteArray} {q:Int}:∀{l:List Me},dP l->l.any (fun p=>decide (p.name=s) && decide (p.aX=q))=match bM s l with
  |some i=>(match l[i]? with
   |some x=>decide (x.aX=q)
   |none=>false)
  |none=>false
 |[],_=>rfl
 |m::r,h=>by
  have d:=(List.pairwise_cons.1 h).1;have ih:=Dz (s:=s) (q:=q) (List.pairwise_cons.1 h).2;rw[List.any_cons,bM];by_cases e:m.name=s
  ·rw[Mu e,My e];have:r.any (fun p=>decide (p.name=s) && decide (p.aX=q))=false:=by
    rw[List.any_eq_false];intro p f;have a:=d p f;have b:¬p.name=s:=fun c=>by
     rw[e,<-c] at a;rw[jh] at a;cases a
    simp[b]
   rw[this];simp
  ·rw[Mt e,Mx e,ih];cases bM s r with
   |none=>rfl
   |some i=>simp
def DH : dP bx:=by unfold dP;decide +kernel
def IH : dX N8:=fun x a=>by
 have:x.aC=[]\/x.aC=bx:=by
  simp only[N8,Ly,List.not_mem_nil,or_false] at a;rcases a with rfl|rfl|rfl|rfl<;>simp
 rcases this with e|e<;>rw[e]
 ·exact List.Pairwise.nil
 ·exact DH
def uO : D6 N8:=by
 refine⟨E5,E5,fun x b=>?_,fun o c=>by cases c⟩;simp only[N8,Ly,List.not_mem_nil,or_false] at b;have a:∀m∈bx,m.code.length<=1048576:=E5;rcases b with rfl|rfl|rfl|rfl
 ·exact⟨E5,fun m a=>by cases a⟩
 ·exact⟨E5,fun m a=>by cases a⟩
 ·exact⟨E5,fun m a=>by cases a⟩
 ·exact⟨E5,a⟩
def Jf (s:ByteArray):l7 N8 s 3=match bM s bx with
  |some i=>(3,(i:Int))
  |none=>(-1,-1):=by
 unfold l7;have a:N8.a7[(3:Int).toNat]?=some ⟨⟨#[73,110,116]⟩,0,0,bx⟩:=rfl;have e0:N8.a7[(0:Int).toNat]?=some ⟨⟨#[79,98,106,101,99,116]⟩,-1,0,[]⟩:=rfl;have b:X5 N8 s 4 0=none:=by
  rw[X5,Mu E5,e0];show X5 N8 s 3 (-1)=none;rw[X5,Mt E5]
 rw[sj,X5,Mu E5,a];show(match bM s bx with
  |some i=>some ((3:Int),(i:Int))
  |none=>X5 N8 s 4 0).getD (-1,-1)=_
 rw[b];cases bM s bx<;>rfl
def JB (N:Nat) (j:1048578<=N) (m:Me):pR N N8 m=some (bx.any (fun p=>decide (p.name=m.name) && decide (p.aX=m.aX)) && (decide (m.args=1) && (decide (m.a8=0) && decide (m.code=[])))):=by
 have hl:∀i,bM m.name bx=some i->∃x,bx[i]?=some x:=fun i h=>by
  obtain⟨x,b,_⟩:=ja h;exact⟨x,b⟩
 have k:decide ((m.code.length:Int)=0)=decide (m.code=[]):=by
  cases m.code<;>simp;omega
 unfold pR;rw[lI N N8 3 m.name j IH uO,Jf,Dz DH];cases hi:bM m.name bx with
 |none=>rfl
 |some i =>
  obtain⟨x,b⟩:=hl i hi;have g:j4 N8.a7 3=some ⟨⟨#[73,110,116]⟩,0,0,bx⟩:=rfl;simp only[A0,g,D9,b,My (Int.natCast_nonneg i),Mr,k];by_cases a:x.aX=m.aX
  ·by_cases d:m.args=1
   ·by_cases f:m.a8=0
    ·simp[a,d,f]
    ·simp[a,d,f]
   ·simp[a,d]
  ·have c:¬m.aX=x.aX:=fun e=>a e.symm;simp[a,c]
def JG {m:Me} (h:bx.any (fun p=>decide (p.name=m.name) && decide (p.aX=m.aX))=true):m.aX≠0/\∃p∈bx,p.name=m.name/\p.aX=m.aX:=by
 obtain⟨p,a,h⟩:=List.any_eq_true.1 h;simp only[IT,Mz] at h;have b:∀q∈bx,q.aX≠0:=E5;exact⟨by rw[<-h.2];exact b p a,p,a,h⟩
theorem C2 (N:Nat) (w:Wd) (k:Nat) (c:Cl) (q:4194304<=N) (i:D6 w) (r:c∈w.a7):∀(l:List Me) (j:Nat),l=c.aC.drop j->mv N w N8 k c l j=po N w k c.aC l j
 |[],j,_=>rfl
 |m::l,j,h=>by
  obtain⟨y,hl,b⟩:=eK h;have b:=of_decide_eq_true b;have v:=(i.2.2.1 c r).1;have ih:=C2 N w k c q i r l (j+1) hl;have ep:((bif decide ((0:Int)<(j:Int)) then((j4 c.aC (wr ((j:Int)-(1:Int)))).bind fun e=>some ((!Y6 e.name m.name))) else some (false)):Option Bool) =
    some (nj (if j=0 then none else c.aC[j-1]?) m):=by
   by_cases o:j=0
   ·subst o;rfl
   ·have wk:wr ((j:Int)-1)=((j-1:Nat):Int):=by rw[u7 ino];omega
    obtain⟨p,x⟩:∃p,c.aC[j-1]?=some p:=⟨_,IS d9⟩;rw[My (show(0:Int)<(j:Int) by omega),Mt o];simp only[Mr,wk,D9,x,A0,nj]
  have eq:((bif (!decide (m.aX=(0:Int))) then(bif decide ((k:Int)=(3:Int)) then((pR N N8 m).bind fun d=>some (d)) else some (false)) else some (false)):Option Bool)=some (qH k m):=by
   rw[JB N d9 m];unfold qH;by_cases g:k=3
   ·have a:(k:Int)=3:=d9;cases t:bx.any (fun p=>decide (p.name=m.name) && decide (p.aX=m.aX)) with
    |true =>
     have:=(JG t).1;simp[g,this]
    |false =>
     by_cases n:m.aX=0<;>simp[g,n]
   ·have a:¬(k:Int)=3:=d9;by_cases n:m.aX=0<;>simp[g,a,n]
  rw[mv,ep,eq,B3 N w _ _ d9 i.1,po];unfold d64;simp only[A0,ih];cases nj (if j=0 then none else c.aC[j-1]?) m with
  |true=>simp
  |false =>
   cases qH k m with
   |true=>simp
   |false =>
    simp only[Ms];obtain⟨f,u⟩:=x5 N w (k:Int) m q;rw[u];simp only[A0,MW];by_cases s:f.err=0
    ·simp[s]
    ·simp[s]
theorem CH (N:Nat) (w:Wd) (b:4194304<=N) (a:D6 w):∀(l:List Cl) (k:Nat),l=w.a7.drop k->mr N w N8 l k=lq N w l k
 |[],k,_=>rfl
 |c::l,k,h=>by
  obtain⟨d,hl,e⟩:=eK h;rw[mr,oh N w _ d9 a.1,lq,C2 N w k c b a (MI d) c.aC 0 rfl];simp only[A0,CH N w b a l (k+1) hl];rfl
theorem DK (N:Nat) (w:Wd):∀(l:List V) (k:Nat),nD N w l k=some (lg (w.heap.length:Int) l)
 |[],k=>rfl
 |v::l,k=>by
  rw[nD,Ao,lg];simp only[A0,DK N w l (k+1)];by_cases h:ch v (w.heap.length:Int)=0<;>simp[h]
theorem Cg (N:Nat) (w:Wd) (b:1048578<=N) (c:w.a7.length<=1048576) (f:4<=w.a7.length):∀(l:List Ob) (k:Nat),nC N w l k=some (lp w l)
 |[],k=>rfl
 |o::l,k=>by
  rw[nC,oh N w _ b c,lp,DK];simp only[A0,Cg N w b c f l (k+1)];have e:((bif (!decide (o.cls=(0:Int))) then(bif decide (o.cls<(4:Int)) then some (true) else(bif decide ((w.a7.length:Int)<=o.cls) then some (true) else some ((!decide ((o.aI.length:Int)=p8 w o.cls))))) else some ((!decide ((o.aI.length:Int)=p8 w o.cls)))):Option Bool)=some (oP w o):=by
   unfold oP;by_cases a:o.cls=0
   ·simp[a]
   ·by_cases d:o.cls<4
    ·simp[a,d]
    ·by_cases g:(w.a7.length:Int)<=o.cls<;>simp[a,d,g]
  rw[e];simp only[A0];cases oP w o with
  |true=>rfl
  |false =>
   simp only[Ms];cases lg (w.heap.length:Int) o.aI<;>rfl
def Gf (N:Nat) (w:Wd) (e:4194304<=N) (b:D6 w):pE N w=qA N w:=by
 unfold pE qA uK;have e1:((bif decide ((w.a7.length:Int)<(N8.a7.length:Int)) then some (true) else(bif decide ((12:Int)<(w.a7.length:Int)) then some (true) else some (decide ((60:Int)<(w.heap.length:Int))))):Option Bool)=some (decide ((w.a7.length:Int)<4) || (decide (12<(w.a7.length:Int)) || decide (60<(w.heap.length:Int)))):=by
  rw[sj];have:((4:Nat):Int)=4:=rfl;rw[this];by_cases a:(w.a7.length:Int)<4
  ·simp[a]
  ·by_cases g:(12:Int)<(w.a7.length:Int)<;>simp[a,g]
 have c:((bif decide (w.aB<(0:Int)) then some (true) else some (decide ((1073741824:Int)<w.aB))):Option Bool)=some (decide (w.aB<0) || decide (1073741824<w.aB)):=by
  by_cases a:w.aB<0<;>simp[a]
 simp only[A0,e1,c];cases f:(decide ((w.a7.length:Int)<4) || (decide (12<(w.a7.length:Int)) || decide (60<(w.heap.length:Int)))) with
 |true=>rfl
 |false =>
  have d:4<=w.a7.length:=by
   simp only[Bool.or_eq_false_iff,decide_eq_false_iff_not] at f;omega
  simp only[Ms];cases (decide (w.aB<0) || decide (1073741824<w.aB)) with
  |true=>rfl
  |false =>
   simp only[Ms,Bv N w b.1 w.a7 0 [] rfl (It _) (fun s=>rfl),CH N w e b w.a7 0 rfl,uT,Cg N w d9 b.1 d w.heap 0,A0];cases jj w w.a7 0 with
   |ret r=>rfl
   |next u =>
    cases lq N w w.a7 0 with
    |none=>rfl
    |some o =>
     cases o with
     |ret r=>rfl
     |next u =>
      simp only[A0];cases lp w w.heap<;>rfl
def tx (t:BL):ByteArray:=⟨t.toArray⟩
def KU (s:ByteArray):(dc s).length=s.size+1:=by rw[dc,MD,sx];rfl
theorem CE {w:Wd}:∀{l:List Cl} {k:Nat},l=w.a7.drop k->jj w l k=.next ()->∀j c,k<=j->w.a7[j]?=some c->lb (w.a7.take j) j c=0
 |[],k,h,_,j,c,b,a=>by
  have f:=(Lx.1 a).1;have g:=List.drop_eq_nil_iff.1 h.symm;omega
 |d::l,k,h,he,j,c,b,a=>by
  obtain⟨hd,hl,_⟩:=eK h;rw[jj] at he;by_cases e:lb (w.a7.take k) k d=0
  ·rw[My e] at he;rcases Nat.eq_or_lt_of_le b with rfl|b
   ·rw[hd] at a;cases a;exact e
   ·exact CE hl he j c b a
  ·rw[Mx e] at he;cases he
def KL {b:List Cl} {k:Nat} {c:Cl} (h:lb b k c=0):Y2 c.name=true/\jC b c.name=false/\tR k c=false/\ph k c=false:=by
 unfold lb at h;cases a:(!Y2 c.name || (jC b c.name || tR k c)) with
 |true=>rw[a] at h;cases h
 |false =>
  rw[a] at h;cases d:ph k c with
  |true=>rw[d] at h;cases h
  |false =>
   simp only[Bool.or_eq_false_iff,Bool.not_eq_false'] at a;exact⟨a.1,a.2.1,a.2.2,rfl⟩
def yO {s:ByteArray} (h:Y2 s=true):iG s:=by
 unfold Y2 at h;simp only[IT,Mz] at h;refine⟨fun e=>?_,fun e=>?_⟩
 ·have:=sx s;rw[e] at this;simp at this;omega
 ·have:=MK.1 h.1 32 e;revert this;decide
def Iy {w:Wd} {c:Int} {m:Me} {i:Ins} (h:br w c m i=0):i.b=0/\i.c=0/\(i.op=14->iG i.name)/\(i.op≠14->i.name=BY):=by
 unfold br at h;split at h
 ·cases h
 ·split at h
  ·split at h
   ·cases h
   ·rename_i a;unfold jo at a;simp only[Bool.or_eq_true,IT,Bool.not_eq_true',Mz,decide_eq_false_iff_not,not_or,not_and,Classical.not_not,Bool.not_eq_false] at a;exact⟨a.1.2,a.2,fun d=>yO (a.1.1.1 d),fun d=>a.1.1.2 d⟩
  ·cases h
theorem qW.small {w:Wd} (h:qW w):D6 w :=
 ⟨by have:=h.2.1;omega,by have:=h.2.2.1;omega,fun c a=>⟨by have:=(h.2.2.2.1 c a).2.2.2.1;omega,fun m b=>by have:=((h.2.2.2.1 c a).2.2.2.2 m b).2.2.2.2.1;omega⟩,fun o d=>by have:=(h.2.2.2.2 o d).2.1;omega⟩
def Ii (N:Nat):qA N N8=some 0:=y7
end Go.Proofs.YtibjcppjfkamhaaGreatDoor
