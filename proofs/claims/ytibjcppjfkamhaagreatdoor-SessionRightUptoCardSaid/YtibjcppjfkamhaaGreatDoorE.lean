import Derived.Test.YtibjcppjfkamhaaGreatDoorC
set_option linter.unusedVariables false
set_option linter.defProp false
set_option linter.unusedSimpArgs false
namespace Go.Proofs.YtibjcppjfkamhaaGreatDoor
open Go.RowKit
open _root_.Bool renaming and_eq_true->IT,not_true->MH,not_false->MQ,false_eq_true->Ml
open _root_.ByteArray renaming empty->BY
open _root_.Int renaming le_refl->MO,toNat_natCast->Mg
open _root_.List renaming getElem?_eq_getElem->IS,getElem?_eq_some_iff->ME,mem_cons->MG,replicate->MI,map->MJ,length_append->MK,length_cons->ML,mem_of_getElem?->MP,all_eq_true->MR,map_cons->MS,mem_append->MT,mem_map->MU,append_assoc->MV,length_map->MW,getElem?_set->MY,getElem?_append_right->Ma,sum_cons->Mb,length_set->Mc,getElem?_eq_none->Md,mem_singleton->Mh,eq_nil_of_length_eq_zero->Mk,getElem?_append_left->Mp,mem_cons_of_mem->Mr,length_nil->Ms,getElem?_take->Mu,mem_iff_getElem?->Mv,length_singleton->Mx,getElem?_cons_zero->My
open _root_.Nat renaming ble->IN,le_refl->It
open _root_.Option renaming bind_some->A0,map_eq_some_iff->MM,map_some->Mf
open _root_.Or renaming inl->MF
def qC (a b:V):cz (eV a) (eV b)=decide (a=b):=Lk a b
def iv (a b:St):cz (bU a) (bU b)=decide (a=b):=zA a b
def pk (a b:Ln):cz (V7 a) (V7 b)=decide (a=b):=Hi a b
def pg (a b:Ins):cz (bd a) (bd b)=decide (a=b):=LM a b
def sR {b:Type} {l:List b} {k n:Nat} (h:n+1=(l.drop k).length):∃y,l[k]?=some y/\l.drop k=y::l.drop (k+1)/\n=(l.drop (k+1)).length:=by
 rw[List.length_drop] at h;have a:k<l.length:=d9;refine⟨l[k],IS a,List.drop_eq_getElem_cons a,by rw[List.length_drop];omega⟩
def sS {a:Type} {l:List a} {k:Nat} (h:0=(l.drop k).length):l.drop k=[]:=Mk h.symm
theorem BM (N:Nat) (b:List Ins):∀(l:List Ins) (k:Nat),l.length=(b.drop k).length->ma N b l k=some (if l=b.drop k then .next () else .ret false)
 |[],k,h=>by rw[sS h];rfl
 |x::l,k,h=>by
  obtain⟨y,a,hd,hl⟩:=sR h;rw[hd,ma];simp only[A0,Option.bind_none,Mz,N0,Bool.cond_decide,qC,iv,pk,pg,MH,MQ,D7,a,BM N b l (k+1) hl];by_cases e:x=y<;>simp[e]
def Hh (N:Nat) (a b:List Ins):rF N a b=some (decide (a=b)):=by
 unfold rF;by_cases h:a.length=b.length
 ·rw[BM N b a 0 (by simpa using h)];by_cases e:a=b<;>simp[h,e]
 ·have:a≠b:=fun e=>h (by rw[e]);have c:¬((a.length:Int)=b.length):=d9;simp[this,c]
theorem B6 (N:Nat) (b:Wd) (i:Nat) (o:Ob) (a:b.heap[i]?=some o):∀(l:List V) (k:Nat),l.length=(o.aG.drop k).length->mZ N b i l k=some (if l=o.aG.drop k then .next () else .ret false)
 |[],k,h=>by rw[sS h];rfl
 |x::l,k,h=>by
  obtain⟨y,c,hd,hl⟩:=sR h;rw[hd,mZ];simp only[A0,Option.bind_none,Mz,N0,Bool.cond_decide,qC,iv,pk,pg,MH,MQ,D7,c,a,B6 N b i o a l (k+1) hl];by_cases e:x=y<;>simp[e]
theorem B8 (N:Nat) (b:Wd):∀(l:List Ob) (k:Nat),l.length=(b.heap.drop k).length->mX N b l k=some (if l=b.heap.drop k then .next () else .ret false)
 |[],k,h=>by rw[sS h];rfl
 |x::l,k,h=>by
  obtain⟨y,i,hd,hl⟩:=sR h;rw[hd,mX];simp only[A0,Option.bind_none,Mz,N0,Bool.cond_decide,qC,iv,pk,pg,MH,MQ,D7,i,B8 N b l (k+1) hl];obtain⟨m,a⟩:=x;obtain⟨j,c⟩:=y;by_cases e1:m=j
  ·by_cases f:a.length=c.length
   ·have:=B6 N b k ⟨j,c⟩ i a 0 (by simpa using f);simp only[List.drop_zero] at this;by_cases d:a=c
    ·subst d;simp[e1,this]
    ·simp[e1,f,d,this]
   ·have d:a≠c:=fun e=>f (by rw[e]);have g:¬((a.length:Int)=c.length):=d9;simp[e1,g,d]
  ·simp[e1]
theorem BC (N:Nat) (c:Cl):∀(l:List Me) (k:Nat),l.length=(c.aB.drop k).length->mW N c l k=some (if l=c.aB.drop k then .next () else .ret false)
 |[],k,h=>by rw[sS h];rfl
 |x::l,k,h=>by
  obtain⟨y,f,hd,hl⟩:=sR h;rw[hd,mW];simp only[A0,Option.bind_none,Mz,N0,Bool.cond_decide,qC,iv,pk,pg,MH,MQ,D7,f,BC N c l (k+1) hl,Hh];obtain⟨g,i,j,m,n⟩:=x;obtain⟨o,p,q,r,s⟩:=y;by_cases e1:g=o
  ·by_cases a:i=p
   ·by_cases b:j=q
    ·by_cases d:m=r
     ·by_cases e:n=s<;>simp[e1,a,b,d,e]
     ·simp[e1,a,b,d]
    ·simp[e1,a,b]
   ·simp[e1,a]
  ·simp[e1]
theorem BE (N:Nat) (b:Wd):∀(l:List Cl) (k:Nat),l.length=(b.a7.drop k).length->mY N b l k=some (if l=b.a7.drop k then .next () else .ret false)
 |[],k,h=>by rw[sS h];rfl
 |x::l,k,h=>by
  obtain⟨y,p,hd,hl⟩:=sR h;rw[hd,mY];simp only[A0,Option.bind_none,Mz,N0,Bool.cond_decide,qC,iv,pk,pg,MH,MQ,D7,p,BE N b l (k+1) hl];obtain⟨q,r,s,c⟩:=x;obtain⟨m,n,o,d⟩:=y;by_cases e1:q=m
  ·by_cases a:r=n
   ·by_cases f:s=o
    ·by_cases i:c.length=d.length
     ·have:=BC N ⟨m,n,o,d⟩ c 0 (by simpa using i);simp only[List.drop_zero] at this;by_cases g:c=d
      ·subst g;simp[e1,a,f,this]
      ·simp[e1,a,f,i,g,this]
     ·have g:c≠d:=fun e=>i (by rw[e]);have j:¬((c.length:Int)=d.length):=d9;simp[e1,a,f,j,g]
    ·simp[e1,a,f]
   ·simp[e1,a]
  ·simp[e1]
def HU (N:Nat) (a b:Wd):rD N a b=some (decide (a=b)):=by
 unfold rD;obtain⟨g,h,q⟩:=a;obtain⟨c,d,m⟩:=b;by_cases f:q=m
 ·by_cases j:g.length=c.length
  ·by_cases k:h.length=d.length
   ·have l:=BE N ⟨c,d,m⟩ g 0 (by simpa using j);have p:=B8 N ⟨c,d,m⟩ h 0 (by simpa using k);simp only[List.drop_zero] at l p;by_cases e1:g=c
    ·subst e1;by_cases i:h=d
     ·subst i;simp[f,l,p]
     ·simp[i,f,k,l,p]
    ·simp[e1,f,j,k,l]
   ·have i:h≠d:=fun e=>k (by rw[e]);have o:¬((h.length:Int)=d.length):=d9;simp[i,f,j,o]
  ·have e1:g≠c:=fun e=>j (by rw[e]);have n:¬((g.length:Int)=c.length):=d9;simp[e1,f,n]
 ·simp[f]
def F6 {a b:Nat} (h:a<=b):IN a b=true:=by rw[Nat.ble_eq];exact h
def yB {a:Type} {l:List a} {i:Int} (h:¬(i<l.length)):l[i.toNat]?=none:=Md d9
def fB {a:Type} {l:List a} {i:Int} (h:0<=i):j4 l i=l[i.toNat]?:=by
 unfold j4;rw[N6 h];rfl
def db {a:Type} {l:List a} {i:Int} (h:0<=i) (b:i<l.length):∃x,l[i.toNat]?=some x/\j4 l i=some x:=by
 have hl:i.toNat<l.length:=d9;exact⟨l[i.toNat],IS hl,by rw[fB h,IS hl]⟩
def cc (v:V) (n:Int):Int :=
 if v.k=0\/v.k=1\/v.k=2 then(if v.n=0 then 0 else 2)
 else if v.k=3 then(if v.n < -1073741824\/1073741824<v.n then 3 else 0)
 else if v.k=4 then(if v.n<0\/n<=v.n then 6 else 0) else 1
def Ai (N:Nat) (v:V) (n:Int):pD N v n=some (cc v n):=by
 unfold pD cc;by_cases b:v.k=0
 ·by_cases h:v.n=0<;>simp[b,h]
 by_cases c:v.k=1
 ·by_cases h:v.n=0<;>simp[c,h]
 by_cases d:v.k=2
 ·by_cases h:v.n=0<;>simp[d,h]
 by_cases e:v.k=3
 ·by_cases h:v.n < -1073741824<;>by_cases a:1073741824<v.n<;>simp[e,h,a]
 by_cases f:v.k=4
 ·by_cases h:v.n<0<;>by_cases a:n<=v.n<;>simp[f,h,a]
 simp[b,c,d,e,f]
def wS (N:Nat) (v:V) (n:Int):rU N v n=some (cc v n):=by
 unfold rU cc;by_cases b:v.k=0
 ·by_cases h:v.n=0<;>simp[b,h]
 by_cases c:v.k=1
 ·by_cases h:v.n=0<;>simp[c,h]
 by_cases d:v.k=2
 ·by_cases h:v.n=0<;>simp[d,h]
 by_cases e:v.k=3
 ·by_cases h:v.n < -1073741824<;>by_cases a:1073741824<v.n<;>simp[e,h,a]
 by_cases f:v.k=4
 ·by_cases h:v.n<0<;>by_cases a:n<=v.n<;>simp[f,h,a]
 by_cases g:v.k<0
 ·simp[b,c,d,e,f,g]
 ·have i:4<v.k:=d9;simp[b,c,d,e,f,g,i]
def G7 (h:List Ob) (v:V):Int :=
 if v.k=0 then 1 else if v.k=1\/v.k=2 then 2 else if v.k=3 then 3
 else if v.k=4/\0<=v.n then(match h[v.n.toNat]? with|some o=>o.cls|none=>0) else 0
def rH (N:Nat) (h:List Ob) (v:V):kC N h v=some (G7 h v):=by
 unfold kC G7;by_cases d:v.k=0
 ·simp[d]
 by_cases e:v.k=1
 ·simp[e]
 by_cases f:v.k=2
 ·simp[f]
 by_cases g:v.k=3
 ·simp[g]
 by_cases a:v.k=4
 ·by_cases b:0<=v.n
  ·by_cases c:v.n<h.length
   ·obtain⟨x,i,j⟩:=db b c;simp[a,b,c,j];exact(congrArg Ob.cls (ME.1 i).2).symm
   ·simp[a,b,c]
  ·simp[a,b]
 ·simp[d,e,f,g,a]
def lZ (h:List Ob) (v:V) (n:Int):V :=
 if v.k=4/\0<=v.n/\0<=n then(match h[v.n.toNat]? with|some o=>o.aG.getD n.toNat ⟨0,0⟩|none=>⟨0,0⟩) else⟨0,0⟩
def Au (N:Nat) (h:List Ob) (v:V) (n:Int):pO N h v n=some (lZ h v n):=by
 unfold pO lZ;by_cases e:v.k=4
 ·by_cases f:0<=v.n
  ·have a:¬v.n<0:=d9;by_cases o:v.n<h.length
   ·have b:¬((h.length:Int)<=v.n):=d9;obtain⟨x,l,m⟩:=db f o;by_cases g:0<=n
    ·have c:¬n<0:=d9;by_cases p:n<x.aG.length
     ·have d:¬((x.aG.length:Int)<=n):=d9;obtain⟨y,i,j⟩:=db g p;simp[e,f,a,b,g,c,l,m,d,i,j,List.getD_eq_getElem?_getD]
     ·have d:((x.aG.length:Int)<=n):=d9;simp[e,f,a,b,g,c,l,m,d,List.getD_eq_getElem?_getD]
    ·have c:n<0:=d9;simp[e,f,a,b,g,c]
   ·have b:((h.length:Int)<=v.n):=d9;simp[e,f,a,b]
  ·have a:v.n<0:=d9;simp[e,f,a]
 ·simp[e]
def wa (N:Nat) (b:Bool):pT N b=some (if b=true then⟨2,0⟩ else⟨1,0⟩):=by cases b<;>rfl
def uH (N:Nat) {l:List V} (h:l.length<=1048576):mr N l=some l:=by
 unfold mr;rw[F6 d9];rfl
theorem zh (N:Nat):∀(l:List Ob) (k:Nat) (a:List Ob),(∀o∈l,o.aG.length<=1048576)->a.length+l.length<=1048576->lN N l k a=some (a++l)
 |[],k,a,_,_=>by simp[lN]
 |x::l,k,a,h,hl=>by
  rw[lN,uH N (h x l9)];simp only[A0];rw[F6 (by simp at hl⊢;omega)];simp only[Mz];rw[zh N l (k+1) _ (fun o b=>h o (by simp[b])) (by simp at hl⊢;omega)];simp
def rP (N:Nat) {l:List Ob} (h:∀o∈l,o.aG.length<=1048576) (hl:l.length<=1048576):lU N l=some l:=by
 unfold lU;rw[zh N l 0 [] h (by simpa using hl)];rfl
def HC (N:Nat) {l:List Ob} (c s:Int) (h:∀o∈l,o.aG.length<=1048576) (hl:l.length<=1048575) (e:0<=s) (f:s<=1000) :
  ja N l c s=some (if 60<=l.length then([],⟨0,0⟩,15) else(l++[⟨c,MI s.toNat ⟨0,0⟩⟩],⟨4,(l.length:Int)⟩,0)):=by
 unfold ja;have d:max s 0=s:=d9;by_cases b:60<=l.length
 ·have a:(60:Int)<=l.length:=d9;simp[b,a]
 ·have a:¬(60:Int)<=l.length:=d9;rw[rP N h d9,d];have e1:(decide (0<=s) && decide (s<=140737488355328) && decide (s*16<=140737488355328))=true:=by
   simp only[IT,NA];omega
  rw[e1];simp only[A0,Mz];rw[F6 L6];simp[b,a]
def qU (n:Int):V:=⟨3,n.tmod 1073741825⟩
def ef (p:Int) (a b:V):V×Int :=
 if a.k≠3\/b.k≠3 then(⟨0,0⟩,12)
 else if p=1 then(qU (a.n+b.n),0) else if p=2 then(qU (a.n-b.n),0) else if p=3 then(qU (a.n*b.n),0)
 else if p=4 then(if a.n<b.n then⟨2,0⟩ else⟨1,0⟩,0) else if p=5 then(if a.n=b.n then⟨2,0⟩ else⟨1,0⟩,0) else(⟨0,0⟩,1)
def Ka (n:Int):I5 (n.tmod 1073741825):=by
 have a:=Int.tmod_lt_of_pos n (show(0:Int)<1073741825 by omega);have b:-1073741825<n.tmod 1073741825:=by
  rcases Int.le_total 0 n with h|h
  ·have:=Int.tmod_nonneg (1073741825:Int) h;omega
  ·have:=Int.tmod_lt_of_pos (-n) (show(0:Int)<1073741825 by omega);rw[Int.neg_tmod] at this;omega
 exact⟨d9,d9⟩
def FD (N:Nat) (n:Int):nJ N n=some (qU n):=by
 first
  |rfl
  |(unfold nJ qU
    have:=Ka n;simp[this])
def gK (n:Int):Prop:=-1073741824<=n/\n<=1073741824
def Ji {a b:Int} (c:gK a) (d:gK b):-1152921504606846976<=a*b/\a*b<=1152921504606846976:=by
 have h:(a*b).natAbs<=1073741824*1073741824:=by
  rw[Int.natAbs_mul];exact Nat.mul_le_mul (by have:=c.1;have:=c.2;omega) (by have:=d.1;have:=d.2;omega)
 omega
def Gg (N:Nat) (p:Int) (a b:V) (c:a.k=3->gK a.n) (d:b.k=3->gK b.n):rr N p a b=some (ef p a b):=by
 unfold rr ef;by_cases e:a.k=3
 ·by_cases f:b.k=3
  ·have c:=c e;have d:=d f;have o:=Ji c d;have l:wr (a.n+b.n)=a.n+b.n:=q9 (by unfold I5;unfold gK at c d;omega);have m:wr (a.n-b.n)=a.n-b.n:=q9 (by unfold I5;unfold gK at c d;omega);have w3:wr (a.n*b.n)=a.n*b.n:=q9 ino;simp only[e,f,l,m,w3,FD,wa,A0,Option.bind_none,Mz,N0,Bool.cond_decide,qC,iv,pk,pg,MH,MQ,D7,N3,NA,ne_eq,not_true_eq_false,or_self,if_false];by_cases e1:p=1
   ·simp[e1]
   by_cases g:p=2
   ·simp[g]
   by_cases h:p=3
   ·simp[h]
   by_cases i:p=4
   ·simp[i]
   by_cases j:p=5
   ·simp[j]
   simp[e1,g,h,i,j]
  ·simp[e,f]
 ·simp[e]
theorem d88 : ∀a:List UInt8,Op.bytesLess a a=false
 |[]=>rfl
 |a::x=>by simp[Op.bytesLess,d88 x]
theorem Cw : ∀a b c:List UInt8,Op.bytesLess a b=true->Op.bytesLess b c=true->Op.bytesLess a c=true
 |_,[],_,h,_=>by simp[Op.bytesLess] at h
 |_,_::_,[],_,h=>by simp[Op.bytesLess] at h
 |[],_::_,_::_,_,_=>rfl
 |a::x,b::y,c::z,h,d=>by
  simp only[Op.bytesLess,Bool.or_eq_true,IT,NA,beq_iff_eq] at h d⊢;rcases h with h|⟨rfl,h⟩
  ·rcases d with d|⟨rfl,_⟩
   ·exact MF (UInt8.lt_trans h d)
   ·exact MF h
  ·rcases d with d|⟨rfl,d⟩
   ·exact MF d
   ·exact Or.inr ⟨rfl,Cw x y z h d⟩
theorem Dh : ∀a b:List UInt8,Op.bytesLess a b=false->Op.bytesLess b a=false->a=b
 |[],[],_,_=>rfl
 |[],_::_,h,_=>by simp[Op.bytesLess] at h
 |_::_,[],_,h=>by simp[Op.bytesLess] at h
 |a::x,b::y,h,h'=>by
  simp only[Op.bytesLess,Bool.or_eq_false_iff,decide_eq_false_iff_not,Bool.and_eq_false_iff,beq_eq_false_iff_ne,ne_eq] at h h';have e:a=b:=by
   rcases h with⟨c,_⟩
   rcases h' with⟨d,_⟩
   exact UInt8.le_antisymm (UInt8.not_lt.1 d) (UInt8.not_lt.1 c)
  subst e;have c:Op.bytesLess x y=false:=h.2.resolve_left (fun h=>h rfl);have d:Op.bytesLess y x=false:=h'.2.resolve_left (fun h=>h rfl);rw[Dh x y c d]
def C4 (b:ByteArray):b.toList=b.data.toList:=by
 have:∀(n i:Nat) (r:List UInt8),n=b.size-i->ByteArray.toList.loop b i r=r.reverse++b.data.toList.drop i:=by
  intro n
  induction n with
  |zero =>
   intro i r h;unfold ByteArray.toList.loop;rw[N1 d9];have:b.data.toList.length<=i:=by simpa using(show b.size<=i by omega)
   rw[List.drop_eq_nil_of_le this];simp
  |succ n ih =>
   intro i r h;have hi:i<b.size:=d9;have a:i<b.data.toList.length:=by simpa using hi
   unfold ByteArray.toList.loop;rw[N2 hi,ih (i+1) _ d9,List.drop_eq_getElem_cons a];have e:b.get! i=b.data.toList[i]:=by
    show b.data[i]! = _;rw[getElem!_pos b.data i hi,Array.getElem_toList]
   simp[e]
 have:=this b.size 0 [] d9;simpa[ByteArray.toList] using this
def toList_inj {a b:ByteArray} (h:a.toList=b.toList):a=b:=by
 rw[C4,C4] at h;cases a;cases b;congr;exact Array.toList_inj.1 h
def jl (a:ByteArray):Y4 a a=false:=d88 _
def lt_trans {a b c:ByteArray} (h:Y4 a b=true) (d:Y4 b c=true):Y4 a c=true:=Cw _ _ _ h d
def d64 {a b:ByteArray} (h:Y4 a b=false) (c:Y4 b a=false):a=b:=toList_inj (Dh _ _ h c)
def LP {a b:ByteArray} (h:Y4 a b=true):a≠b:=fun e=>by rw[e,jl] at h;cases h
def DA {a b:ByteArray} (h:Y4 a b=true):Y4 b a=false:=by
 cases e:Y4 b a with
 |false=>rfl
 |true=>have:=lt_trans h e;rw[jl] at this;cases this
def dL (ms:List Me):Prop:=ms.Pairwise fun a b=>Y4 a.name b.name=true
def bI (s:ByteArray):List Me->Option Nat
 |[]=>none
 |m::r=>if m.name=s then some 0 else(bI s r).map (·+1)
theorem jb {s:ByteArray}:∀{ms:List Me} {i:Nat},bI s ms=some i->∃m,ms[i]?=some m/\m.name=s
 |m::r,i,h=>by
  unfold bI at h;by_cases e:m.name=s
  ·rw[N2 e] at h;cases h;exact⟨m,rfl,e⟩
  ·rw[N1 e] at h;cases a:bI s r with
   |none=>rw[a] at h;cases h
   |some j=>rw[a] at h;cases h;obtain⟨d,b,c⟩:=jb a;exact⟨d,b,c⟩
theorem Ch {s:ByteArray}:∀{ms:List Me},bI s ms=none->∀m∈ms,m.name≠s
 |[],_=>fun m c=>by cases c
 |m::r,h=>by
  unfold bI at h;by_cases e:m.name=s
  ·rw[N2 e] at h;cases h
  ·rw[N1 e] at h;cases b:bI s r with
   |some j=>rw[b] at h;cases h
   |none =>
    intro x a;rcases MG.1 a with rfl|a
    ·exact e
    ·exact Ch b x a
def ln {ms:List Me} (h:dL ms) {i j:Nat} {a b:Me} (hi:ms[i]?=some a) (f:ms[j]?=some b) (d:i<j):Y4 a.name b.name=true:=by
 obtain⟨c,rfl⟩:=ME.1 hi;obtain⟨e,rfl⟩:=ME.1 f;exact List.pairwise_iff_getElem.1 h i j c e d
def DK {ms:List Me} (h:dL ms) {i:Nat} {m:Me} (b:ms[i]?=some m):bI m.name ms=some i:=by
 cases e:bI m.name ms with
 |none=>exact absurd rfl (Ch e m (MP b))
 |some j =>
  obtain⟨f,c,d⟩:=jb e;rcases Nat.lt_trichotomy i j with a|a|a
  ·have:=ln h b c a;rw[d,jl] at this;cases this
  ·rw[a]
  ·have:=ln h c b a;rw[d,jl] at this;cases this
def KI {ms:List Me} (h:∀i m p,0<i->ms[i]?=some m->ms[i-1]?=some p->Y4 p.name m.name=true):dL ms:=by
 have key:∀(d i:Nat) (a b:Me),ms[i]?=some a->ms[i+d+1]?=some b->Y4 a.name b.name=true:=by
  intro d
  induction d with
  |zero=>intro i a b e c;exact h (i+1) b a d9 c (by simpa using e)
  |succ d ih =>
   intro i a b e c;have l:=(ME.1 c).1;obtain⟨x,f⟩:∃x,ms[i+d+1]?=some x:=⟨_,IS d9⟩;exact lt_trans (ih i a x e f) (h (i+(d+1)+1) b x d9 c (by rw[show i+(d+1)+1-1=i+d+1 by omega];exact f))
 refine List.pairwise_iff_getElem.2 fun i j hi k g=>?_;refine key (j-i-1) i _ _ (IS hi) ?_;rw[show i+(j-i-1)+1=j by omega];exact IS k
def zn (N:Nat) (m:Me) (s:ByteArray):jY N m s=some (if Y4 m.name s=true then -1 else if m.name=s then 0 else 1):=by
 unfold jY uG cmp_isNaN_string;cases h:Y4 m.name s
 ·by_cases e:m.name=s<;>simp[e]
 ·simp
theorem x8 (N:Nat) (ms:List Me) (s:ByteArray) (hl:ms.length<=1048576) (l:dL ms):∀(n:Nat) (a b:Nat),a<=b->b<=ms.length->b-a<n ->
  (∀i m,i<a->ms[i]?=some m->Y4 m.name s=true)->(∀i m,b<=i->ms[i]?=some m->Y4 m.name s=false) ->
  ∃v:Nat,u6 N ms s (fun o p=>jY N o p) n (a:Int) (b:Int)=some (v:Int)/\v<=ms.length /\
   (∀i m,i<v->ms[i]?=some m->Y4 m.name s=true)/\(∀i m,v<=i->ms[i]?=some m->Y4 m.name s=false)
 |0,a,b,_,_,h,_,_=>d9
 |n+1,a,b,t,r,D,q,f=>by
  rw[u6];by_cases u:a<b
  ·have c:(a:Int)<(b:Int):=d9;have A:wr ((a:Int)+(b:Int))=((a+b:Nat):Int):=by rw[q9 ino];omega
   have B:((a+b:Nat):Int) / 2=(((a+b) / 2:Nat):Int):=d9;have w3:decide (I5 ((((a+b) / 2:Nat):Int)))=true:=N6 ino;have C:wr ((((a+b) / 2:Nat):Int)+1)=(((a+b) / 2+1:Nat):Int):=by rw[q9 ino];omega
   have g:(a+b) / 2<ms.length:=d9;obtain⟨x,j⟩:∃x,ms[(a+b) / 2]?=some x:=⟨_,IS g⟩;have w5:(0:Int)<=((a+b:Nat):Int):=d9;have w:=zn N x s;simp only[A,B,w3,C,w5,c,D7,j,w,N3,Mz,A0];cases k:Y4 x.name s with
   |true =>
    simp only[if_true,show((-1:Int)<0)=True by simp,N3,Mz,A0];refine x8 N ms s hl l n _ b d9 r d9 (fun i m hi d=>?_) f;rcases Nat.lt_or_ge i ((a+b) / 2) with h|h
    ·exact lt_trans (ln l d j h) k
    ·have e:i=(a+b) / 2:=d9;subst e;rw[j] at d;cases d;exact k
   |false =>
    have hd:∀i m,(a+b) / 2<=i->ms[i]?=some m->Y4 m.name s=false:=by
     intro i m hi d;rcases Nat.lt_or_ge ((a+b) / 2) i with h|h
     ·cases y:Y4 m.name s with
      |false=>rfl
      |true=>have:=lt_trans (ln l j d h) y;rw[k] at this;cases this
     ·have e:i=(a+b) / 2:=d9;subst e;rw[j] at d;cases d;exact k
    have z:decide ((if false=true then(-1:Int) else if x.name=s then 0 else 1)<0)=false:=by
     by_cases e:x.name=s<;>simp[e]
    rw[z];simp only[N0,A0];exact x8 N ms s hl l n a _ d9 d9 d9 q hd
  ·have c:¬(a:Int)<(b:Int):=d9;simp only[c,N4,N0];have e:a=b:=d9;subst e;exact⟨a,rfl,r,q,f⟩
def AS (N:Nat) (ms:List Me) (s:ByteArray) (y:1048577<=N) (hl:ms.length<=1048576) (l:dL ms) :
  ∃v:Nat,y7 N ms s (fun f g=>jY N f g)=some ((v:Int),(bI s ms).isSome)/\(∀i:Nat,bI s ms=some i->(v:Int)=i)/\v<=ms.length /\
   (∀i m,i<v->ms[i]?=some m->Y4 m.name s=true)/\(∀i m,v<=i->ms[i]?=some m->Y4 m.name s=false):=by
 obtain⟨v,w,o,k,n⟩:=x8 N ms s hl l N 0 ms.length d9 d9 d9 (fun i m h=>absurd h d9) (fun i m h u=>by
  have:=(ME.1 u).1;omega)
 refine⟨v,?_,?_,o,k,n⟩
 ·unfold y7;have q:u6 N ms s (fun f g=>jY N f g) N (0:Int) (ms.length:Int)=some (v:Int):=w;rw[q];simp only[A0];by_cases p:v<ms.length
  ·have c:(v:Int)<(ms.length:Int):=d9;obtain⟨x,d⟩:∃x,ms[v]?=some x:=⟨_,IS p⟩;have r:=n v x (It _) d;simp only[c,N3,Mz,D7,d,A0,zn,r];by_cases e:x.name=s
   ·have:=DK l d;rw[e] at this;simp[e,this]
   ·cases hi:bI s ms with
    |none=>simp[e]
    |some i =>
     obtain⟨j,a,b⟩:=jb hi;rcases Nat.lt_trichotomy i v with h|h|h
     ·have:=k i j h a;rw[b,jl] at this;cases this
     ·subst h;rw[d] at a;cases a;exact absurd b e
     ·have:=ln l d a h;rw[b] at this;rw[r] at this;cases this
  ·have c:¬(v:Int)<(ms.length:Int):=d9;simp only[c,N4,N0,A0];cases hi:bI s ms with
   |none=>rfl
   |some i =>
    obtain⟨j,a,b⟩:=jb hi;have:=(ME.1 a).1;have:=k i j d9 a;rw[b,jl] at this;cases this
 ·intro i hi;obtain⟨j,a,b⟩:=jb hi;have t:=(ME.1 a).1;rcases Nat.lt_trichotomy i v with h|h|h
  ·have:=k i j h a;rw[b,jl] at this;cases this
  ·rw[h]
  ·obtain⟨x,d⟩:∃x,ms[v]?=some x:=⟨ms[v]' d9,IS d9⟩;have:=ln l d a h;rw[b] at this;rw[n v x (It _) d] at this;cases this
def fi (N:Nat) (ms:List Me) (s:ByteArray) (e:1048577<=N) (hl:ms.length<=1048576) (f:dL ms) :
  ∃v:Int,y7 N ms s (fun a b=>jY N a b)=some (v,(bI s ms).isSome)/\∀i:Nat,bI s ms=some i->v=i:=by
 obtain⟨v,c,d,_⟩:=AS N ms s e hl f;exact⟨_,c,d⟩
def X3 (w:Wd) (s:ByteArray):Nat->Int->Option (Int×Int)
 |0,_=>none
 |n+1,c=>if 0<=c then(match w.a7[c.toNat]? with
  |some x=>(match bI s x.aB with|some i=>some (c,(i:Int))|none=>X3 w s n x.aQ)
  |none=>none) else none
def l7 (w:Wd) (s:ByteArray) (c:Int):Int×Int:=(X3 w s (w.a7.length+1) c).getD (-1,-1)
def dS (w:Wd):Prop:=∀x∈w.a7,dL x.aB
def D6 (w:Wd):Prop:=w.a7.length<=1048576/\w.heap.length<=1048576/\(∀x∈w.a7,x.aB.length<=1048576/\∀m∈x.aB,m.code.length<=1048576)/\∀o∈w.heap,o.aG.length<=1048576
def EH {a:Type} (o:Option (Int×Int)) (s:a):H9 (Int×Int) a:=match o with|some p=>.ret p|none=>.next s
theorem zZ (N:Nat) (w:Wd) (s:ByteArray) (m:1048577<=N) (o:dS w) (j:D6 w):∀(n:Nat) (k:Nat) (c:Int),k<=w.a7.length+1->w.a7.length+1-k<n ->
  n9 N w s n c (k:Int)=some (EH (X3 w s (w.a7.length+1-k) c) ())
 |0,k,c,_,h=>d9
 |n+1,k,c,t,u=>by
  rw[n9];by_cases a:0<=c
  ·by_cases d:c<w.a7.length
   ·obtain⟨x,p,f⟩:=db a d;by_cases r:k<=w.a7.length
    ·have b:(k:Int)<=(w.a7.length:Int):=d9;have g:=MP p;obtain⟨v,q,l⟩:=fi N x.aB s m (j.2.2.1 x g).1 (o x g);have e:w.a7.length+1-k=(w.a7.length+1-(k+1))+1:=d9;have wk:wr ((k:Int)+1)=((k+1:Nat):Int):=by rw[q9 (by have:=j.1;unfold I5;omega)];omega
     rw[e,X3];simp only[a,d,b,N3,Mz,A0,f,q,p,if_true,wk];cases hi:bI s x.aB with
     |some i=>have:=l i hi;subst this;rfl
     |none =>
      simp only[Option.isSome_none,N0];exact zZ N w s m o j n (k+1) x.aQ d9 d9
    ·have b:¬(k:Int)<=(w.a7.length:Int):=d9;have e:w.a7.length+1-k=0:=d9;simp only[a,d,b,N3,N4,Mz,N0,A0,e];rfl
   ·have:X3 w s (w.a7.length+1-k) c=none:=by
     cases w.a7.length+1-k with
     |zero=>rfl
     |succ n=>rw[X3,N2 a,yB d]
    simp only[a,d,N3,N4,Mz,N0,A0,this];rfl
  ·have:X3 w s (w.a7.length+1-k) c=none:=by
    cases w.a7.length+1-k with
    |zero=>rfl
    |succ n=>rw[X3,N1 a]
   simp only[a,N4,N0,A0,this];rfl
def lH (N:Nat) (w:Wd) (c:Int) (s:ByteArray) (e:1048578<=N) (d:dS w) (a:D6 w):fR N w c s=some (l7 w s c):=by
 unfold fR l7;have h:=zZ N w s d9 d a N 0 c d9 (by have:=a.1;omega);have b:n9 N w s N c (0:Int)=some (EH (X3 w s (w.a7.length+1) c) ()):=h;rw[b];cases X3 w s (w.a7.length+1) c<;>rfl
def bf (w:Wd):Nat->Int->List Int
 |0,_=>[]
 |n+1,c=>if 0<=c then(match w.a7[c.toNat]? with|some x=>c::bf w n x.aQ|none=>[]) else[]
theorem vL (w:Wd):∀(n:Nat) (c:Int),(bf w n c).length<=n
 |0,_=>It _
 |n+1,c=>by
  rw[bf];split
  ·split
   ·have:=vL w n;simp only[ML];exact Nat.succ_le_succ (this _)
   ·simp
  ·simp
theorem wu (w:Wd):∀(n:Nat) (c:Int),∀k∈bf w n c,0<=k/\k<w.a7.length
 |0,_,k,h=>by cases h
 |n+1,c,k,h=>by
  rw[bf] at h;split at h
  ·split at h
   ·rename_i a _ x b;rcases MG.1 h with rfl|h
    ·exact⟨a,by have:=(ME.1 b).1;omega⟩
    ·exact wu w n _ k h
   ·cases h
  ·cases h
theorem AH (N:Nat) (w:Wd) (j:w.a7.length<=1048576):∀(n:Nat) (c:Int) (a:List Int),a.length<=w.a7.length+1->w.a7.length+1-a.length<n ->
  oy N w n c a=some (a++bf w (w.a7.length+1-a.length) c)
 |0,c,a,_,h=>d9
 |n+1,c,a,m,o=>by
  rw[oy];by_cases b:0<=c
  ·by_cases f:c<w.a7.length
   ·obtain⟨x,k,g⟩:=db b f;by_cases l:a.length<=w.a7.length
    ·have d:(a.length:Int)<=(w.a7.length:Int):=d9;have e:w.a7.length+1-a.length=(w.a7.length+1-(a++[c]).length)+1:=L6;have i:IN ((a.length+[c].length)*8) 140737488355328=true:=F6 L6;rw[e,bf];simp only[b,f,d,N3,Mz,A0,g,k,if_true,i];rw[AH N w j n x.aQ (a++[c]) L6 L6];simp
    ·have d:¬(a.length:Int)<=(w.a7.length:Int):=d9;have e:w.a7.length+1-a.length=0:=d9;simp[b,f,d,e,bf]
   ·have:bf w (w.a7.length+1-a.length) c=[]:=by
     cases w.a7.length+1-a.length with
     |zero=>rfl
     |succ n=>rw[bf,N2 b,yB f]
    simp[b,f,this]
  ·have:bf w (w.a7.length+1-a.length) c=[]:=by
    cases w.a7.length+1-a.length with
    |zero=>rfl
    |succ n=>rw[bf,N1 b]
   simp[b,this]
def Gm (N:Nat) (w:Wd) (c:Int) (b:1048578<=N) (a:w.a7.length<=1048576):rz N w c=some (bf w (w.a7.length+1) c):=by
 unfold rz;rw[AH N w a N c [] l9 L6];rfl
def p8 (w:Wd) (c:Int):Int:=(bf w (w.a7.length+1) c).foldl (fun n k=>match w.a7[k.toNat]? with|some x=>wr (n+x.aG)|none=>n) 0
theorem zz (N:Nat) (w:Wd) (L:List Int) (d:∀k∈L,0<=k/\k<w.a7.length):∀(l:List Int) (k:Nat) (n:Int),l=L.drop k ->
  ml N w L l k n=some (l.foldl (fun n k=>match w.a7[k.toNat]? with|some x=>wr (n+x.aG)|none=>n) n)
 |[],k,n,_=>rfl
 |c::l,k,n,h=>by
  obtain⟨b,g,_⟩:=eE h;obtain⟨e,f⟩:=d c (MP b);obtain⟨x,i,a⟩:=db e f;rw[ml];simp only[D7,b,A0,a,List.foldl_cons,i];exact zz N w L d l (k+1) _ g
def kx (N:Nat) (w:Wd) (c:Int) (a:1048578<=N) (b:w.a7.length<=1048576):lL N w c=some (p8 w c):=by
 unfold lL p8;rw[Gm N w c a b];simp only[A0];rw[zz N w _ (wu w _ c) (bf w (w.a7.length+1) c) 0 0 rfl];rfl
theorem CM (w:Wd) (s:ByteArray):∀(n:Nat) (c:Int) (p:Int×Int),X3 w s n c=some p->0<=p.1/\0<=p.2/\∃x m,w.a7[p.1.toNat]?=some x/\x.aB[p.2.toNat]?=some m/\m.name=s
 |0,c,p,h=>by cases h
 |n+1,c,p,h=>by
  rw[X3] at h;by_cases a:0<=c
  ·rw[N2 a] at h;cases b:w.a7[c.toNat]? with
   |none=>rw[b] at h;cases h
   |some x =>
    rw[b] at h;simp only at h;cases hi:bI s x.aB with
    |none=>rw[hi] at h;exact CM w s n _ p h
    |some i =>
     rw[hi] at h;cases h;obtain⟨m,d,e⟩:=jb hi;exact⟨a,Int.natCast_nonneg _,x,m,b,d,e⟩
  ·rw[N1 a] at h;cases h
def sX {w:Wd} {s:ByteArray} {c:Int} (h:0<=(l7 w s c).2):∃x m,j4 w.a7 (l7 w s c).1=some x/\j4 x.aB (l7 w s c).2=some m/\m.name=s:=by
 unfold l7 at h⊢;cases a:X3 w s (w.a7.length+1) c with
 |none=>rw[a] at h;exact absurd h G8
 |some p =>
  obtain⟨b,d,x,m,g,e,f⟩:=CM w s _ c p a;exact⟨x,m,by rw[Option.getD_some,fB b,g],by rw[Option.getD_some,fB d,e],f⟩
def vk (p:Int×Int) (x:Ln):Int×Int:=if p.2<x.found\/(x.found=p.2/\0<p.2/\x.cls<p.1) then(x.cls,x.found) else p
def j9 (s:St) (l:List Tl):Int×Int:=l.foldl (fun p t=>if t.site=s then t.a7.foldl vk p else p) (-1,0)
def nQ (n:Int) (x:Ln):Int:=wr (n+x.found)
def tR (s:St) (l:List Tl):Int:=l.foldl (fun n t=>if t.site=s then t.a7.foldl nQ n else n) 0
theorem AG (N:Nat):∀(l:List Ln) (k:Nat) (p:Int×Int),nD N l k p.1 p.2=some (l.foldl vk p)
 |[],k,p=>rfl
 |x::l,k,p=>by
  rw[nD,List.foldl_cons,<-AG N l (k+1)];unfold vk;by_cases b:p.2<x.found
  ·simp[b]
  ·by_cases a:x.found=p.2
   ·by_cases c:0<p.2
    ·by_cases d:x.cls<p.1<;>simp[a,c,d]
    ·simp[a,c]
   ·simp[b,a]
theorem zW (N:Nat) (s:St):∀(l:List Tl) (k:Nat) (p:Int×Int),mz N s l k p.1 p.2=some (l.foldl (fun p t=>if t.site=s then t.a7.foldl vk p else p) p)
 |[],k,p=>rfl
 |t::l,k,p=>by
  rw[mz,List.foldl_cons,<-zW N s l (k+1)];by_cases h:t.site=s
  ·simp[h,iv,AG]
  ·simp[h,iv]
def Gt (N:Nat) (l:List Tl) (s:St):sB N l s=some (j9 s l):=by
 unfold sB;rw[zW N s l 0 (-1,0)];rfl
theorem zb (N:Nat):∀(l:List Ln) (k:Nat) (n:Int),nL N l k n=some (l.foldl nQ n)
 |[],k,n=>rfl
 |x::l,k,n=>by rw[nL,List.foldl_cons,zb N l (k+1)];rfl
theorem zk (N:Nat) (s:St):∀(l:List Tl) (k:Nat) (n:Int),nK N s l k n=some (l.foldl (fun n t=>if t.site=s then t.a7.foldl nQ n else n) n)
 |[],k,n=>rfl
 |t::l,k,n=>by
  rw[nK,List.foldl_cons,<-zk N s l (k+1)];by_cases h:t.site=s
  ·simp[h,iv,zb]
  ·simp[h,iv]
def HK (N:Nat) (l:List Tl) (s:St):sL N l s=some (tR s l):=by
 unfold sL;rw[zk N s l 0 0];rfl
def sends (i:Ins):Bool:=decide (i.op=14) || decide (i.op=13)
def fP (m:Me):Bool:=decide (m.aV=0) && !m.code.any sends
def G3 (N:Nat) (i:Ins):ox N i=some (sends i):=by
 unfold ox sends;by_cases h:i.op=14<;>simp[h]
theorem DL (N:Nat):∀(l:List Ins) (k:Nat),∃o,F9 N (fun a=>ox N a) l k=some o/\(match o with|.ret r=>0<=r/\l.any sends=true|.next ()=>l.any sends=false)
 |[],k=>⟨_,rfl,rfl⟩
 |x::l,k=>by
  rw[F9,G3];cases h:sends x with
  |true=>exact⟨_,rfl,by simp[h]⟩
  |false =>
   obtain⟨o,c,b⟩:=DL N l (k+1);refine⟨o,c,?_⟩;cases o with
   |ret r=>simpa[h] using b
   |next u=>simpa[h] using b
def wW (N:Nat) (m:Me):pF N m=some (fP m):=by
 unfold pF fP U5 X8;by_cases h:m.aV=0
 ·obtain⟨o,b,a⟩:=DL N m.code 0;rw[b];cases o with
  |ret r=>simp[h,a.1,a.2]
  |next u =>
   have a:m.code.any sends=false:=a;simp only[h,N3,Mz,A0,a];rfl
 ·simp[h]
def EE (w:Wd) (f:Int×Int) (args:Int):Bool:=match j4 w.a7 f.1 with
 |some x=>(match j4 x.aB f.2 with|some m=>fP m && decide (m.args=args)|none=>false)
 |none=>false
def E0 (w:Wd) (t:List Tl) (s:St) (name:ByteArray) (args:Int):Int :=
 if(j9 s t).1<0\/tR s t<2\/wr (2*(j9 s t).2)<=tR s t then -1
 else if 0<=(l7 w name (j9 s t).1).2/\EE w (l7 w name (j9 s t).1) args=true then(j9 s t).1 else -1
def FM (N:Nat) (w:Wd) (t:List Tl) (s:St) (name:ByteArray) (args:Int) (g:1048578<=N) (j:dS w) (i:D6 w):rj N w t s name args=some (E0 w t s name args):=by
 unfold rj E0;rw[Gt,HK];simp only[A0];by_cases b:(j9 s t).1<0
 ·simp[b]
 by_cases c:tR s t<2
 ·simp[c]
 by_cases e:wr (2*(j9 s t).2)<=tR s t
 ·simp[b,c,e]
 simp only[b,c,e,N4,N0,A0,or_self,if_false];rw[lH N w _ name g j i];simp only[A0];by_cases d:0<=(l7 w name (j9 s t).1).2
 ·obtain⟨x,m,k,h,_⟩:=sX d;have a:¬(l7 w name (j9 s t).1).2<0:=d9;simp only[d,a,N4,N0,k,h,A0,wW,EE,true_and];cases l:fP m
  ·simp
  ·by_cases f:m.args=args<;>simp[f]
 ·have a:(l7 w name (j9 s t).1).2<0:=d9;simp[d,a]
theorem wP (N:Nat) (w:Wd) (t:List Tl) (c:Int) (m:Me) (b:1048578<=N) (e:dS w) (d:D6 w):∀(l:List Ins) (k:Nat) (a:List Int),a.length+l.length<=1048576 ->
  ∃r,mn N w t c m l k a=some r
 |[],k,a,_=>⟨_,rfl⟩
 |x::l,k,a,h=>by
  simp only[ML] at h;rw[mn,FM N w t _ _ _ b e d];simp only[A0];have g:∀n:Int,IN ((a.length+[n].length)*8) 140737488355328=true:=fun n=>F6 L6;by_cases f:x.op=14
  ·simp only[f,N3,Mz,A0,g];exact wP N w t c m b e d l (k+1) _ L6
  ·simp only[f,N4,N0,A0,g,Mz];exact wP N w t c m b e d l (k+1) _ L6
def Fq (N:Nat) (w:Wd) (t:List Tl) (c k:Int) (j:1048578<=N) (p:dS w) (h:D6 w):∃r,nN N w t c k=some r:=by
 unfold nN;by_cases a:c<0
 ·simp[a]
 by_cases b:(w.a7.length:Int)<=c
 ·simp[a,b]
 by_cases d:k<0
 ·simp[a,b,d]
 obtain⟨x,q,g⟩:=db (l:=w.a7) (i:=c) d9 d9;by_cases f:(x.aB.length:Int)<=k
 ·simp[a,b,d,f,g]
 obtain⟨m,n,e⟩:=db (l:=x.aB) (i:=k) d9 d9;simp only[a,b,d,f,g,e,N4,N0,A0];obtain⟨r,o⟩:=wP N w t c m j p h m.code 0 [] (by
  have:=(h.2.2.1 x (MP q)).2 m (MP n);simpa using this)
 rw[o];exact⟨r,rfl⟩
def kK {d:Type} {b:Bool} {x y:Option d} (a:b=true->∃r,x=some r) (c:b=false->∃r,y=some r):∃r,(bif b then x else y)=some r:=by
 cases b
 ·exact c rfl
 ·exact a rfl
def vI {b e:Type} {x:Option b} {f:b->Option e} (d:∃a,x=some a) (c:∀a,x=some a->∃r,f a=some r):∃r,x.bind f=some r:=by
 obtain⟨a,rfl⟩:=d;exact c a rfl
def en (u:UInt8):Bool:=!decide ((u.toNat:Int)<33) && !decide (126<(u.toNat:Int))
def Y1 (s:ByteArray):Bool:=s.data.toList.all en && (decide (0<s.size) && decide (s.size<=12))
def DM (s:ByteArray) (k:Nat):mA s (k:Int)=s.data.toList[k]?:=by
 unfold mA;rw[N6 (Int.natCast_nonneg k)];show s[k]?=_;by_cases h:k<s.size
 ·rw[getElem?_pos s k h,IS (by simpa using h)];rfl
 ·rw[getElem?_neg s k h,Md (by simpa using h)]
theorem A7 (N:Nat) (s:ByteArray):∀(n k:Nat),n+k=s.size->mv N s n k=some (if(s.data.toList.drop k).all en=true then .next () else .ret false)
 |0,k,h=>by
  rw[List.drop_eq_nil_of_le (by rw[show s.data.toList.length=s.size from rfl];omega)];rfl
 |n+1,k,h=>by
  have d:k<s.data.toList.length:=by rw[show s.data.toList.length=s.size from rfl];omega
  rw[mv,List.drop_eq_getElem_cons d,DM,IS d,A7 N s n (k+1) d9];simp only[A0,List.all_cons];generalize s.data.toList[k]=u;generalize s.data.toList.drop (k+1)=b;by_cases a:(u.toNat:Int)<33
  ·have e:en u=false:=(by simp[en,a]);simp only[a,e,N3,Mz,A0,Bool.false_and];rfl
  ·by_cases c:126<(u.toNat:Int)
   ·have e:en u=false:=(by simp only[en,a,c,N3,N4,MH,Bool.and_false]);simp only[a,c,e,N3,N4,Mz,N0,A0,Bool.false_and];rfl
   ·have e:en u=true:=(by simp only[en,a,c,N4,MQ,Bool.and_true]);simp only[a,c,e,N4,N0,A0,Bool.true_and]
def kA (N:Nat) (s:ByteArray):nO N s=some (Y1 s):=by
 unfold nO Y1;have e:((s.size:Int)-((0:Nat):Int)).toNat=s.size:=d9;rw[e,A7 N s s.size 0 d9,List.drop_zero];cases h:s.data.toList.all en
 ·simp
 ·by_cases c:0<s.size
  ·by_cases d:s.size<=12
   ·have b:(0:Int)<(s.size:Int):=d9;have a:(s.size:Int)<=12:=d9;simp[c,d,a]
   ·have a:¬(s.size:Int)<=12:=d9;have b:(0:Int)<(s.size:Int):=d9;simp[d,a]
  ·have b:¬(0:Int)<(s.size:Int):=d9;simp[c]
def zu (N:Nat) (w:Wd) (c:Int) (m:Me) (i:Ins) (b:1048578<=N) (d:w.a7.length<=1048576):∃r,J5 N w c m i=some r:=by
 unfold J5;simp only[kx N w c b d,kA]
 repeat (first|exact⟨_,rfl⟩|refine kK (fun _=>?_) (fun _=>?_)|refine vI ?_ (fun a _=>?_)|split)
def FY (N:Nat) (w:Wd) (c:Int) (m:Me) (i:Ins) (h:J5 N w c m i=some 0) (e:i.op=14):0<=i.a/\i.a<=4:=by
 unfold J5 at h;simp only[e,kA,show((14:Int)=1)=False by decide,show((14:Int)=2)=False by decide,show((14:Int)=3)=False by decide,show((14:Int)=4)=False by decide,show((14:Int)=5)=False by decide,show((14:Int)=6)=False by decide,show((14:Int)=7)=False by decide,show((14:Int)=8)=False by decide,show((14:Int)=9)=False by decide,show((14:Int)=10)=False by decide,show((14:Int)=11)=False by decide,show((14:Int)=12)=False by decide,show((14:Int)=13)=False by decide,show((14:Int)=17)=False by decide,N3,N4,Mz,N0,A0] at h;by_cases b:i.a<0
 ·simp[b] at h
 ·by_cases d:4<i.a
  ·simp[b,d] at h
  ·omega
def lg (m:Me):Prop:=∀i∈m.code,i.op=14->0<=i.a/\i.a<=4
def R8 (i:Ins) (p:Int):Int×Int×List Int :=
 if i.op=9\/i.op=11\/i.op=12 then(1,-1,[wr (p+1)]) else if i.op=10 then(1,1,[wr (p+1)])
 else if i.op=14 then(wr (i.a+1),-i.a,[wr (p+1)]) else if i.op=15 then(0,0,[i.a])
 else if i.op=16 then(1,-1,[wr (p+1),i.a]) else if i.op=17 then(1,-1,[]) else(0,1,[wr (p+1)])
def yT (i:Ins) (p:Int):(R8 i p).2.2.length<=2:=by
 unfold R8
 (repeat' split)<;>simp
def GS (N:Nat) (i:Ins) (p:Int) (h:i.op=14->0<=i.a/\i.a<=4):ra N i p=some (R8 i p):=by
 unfold ra R8;by_cases c:i.op=9
 ·simp[c]
 by_cases d:i.op=11
 ·simp[d]
 by_cases f:i.op=12
 ·simp[f]
 by_cases g:i.op=10
 ·simp[g]
 by_cases b:i.op=14
 ·have:=h b;have e:decide (I5 (-i.a))=true:=N6 ino;simp only[b,e,N3,Mz,show((14:Int)=9)=False by decide,show((14:Int)=11)=False by decide,show((14:Int)=12)=False by decide,show((14:Int)=10)=False by decide,N4,N0,A0,or_self,if_false,if_true]
 by_cases j:i.op=15
 ·simp[j]
 by_cases k:i.op=16
 ·simp[k]
 by_cases l:i.op=17
 ·simp[l]
 simp[c,d,f,g,b,j,k,l]
def uX {i:Ins} {p:Int} {x:Int} (l:0<=x) (k:x<=12) (c:¬x<(R8 i p).1) (b:¬12<wr (x+(R8 i p).2.1)) (hi:i.op=14->0<=i.a/\i.a<=4) :
  0<=wr (x+(R8 i p).2.1)/\wr (x+(R8 i p).2.1)<=12/\wr (x+(R8 i p).2.1)=x+(R8 i p).2.1:=by
 unfold R8 at c b⊢;split at c
 ·rename_i e;simp only[e,if_true] at b⊢;rw[q9 ino];omega
 ·rename_i e;simp only[e,if_false] at b⊢;split at c
  ·rename_i f;simp only[f,if_true] at b⊢;rw[q9 ino] at b⊢;omega
  ·rename_i f;simp only[f,if_false] at b⊢;split at c
   ·rename_i d;have hi:=hi d;simp only[d,if_true] at b⊢;simp only at c;rw[q9 ino] at c b⊢;omega
   ·rename_i d;simp only[d,if_false] at b⊢;split at c
    ·rename_i g;simp only[g,if_true] at b⊢;rw[q9 ino] at b⊢;omega
    ·rename_i g;simp only[g,if_false] at b⊢;split at c
     ·rename_i h;simp only[h,if_true] at b⊢;rw[q9 ino] at b⊢;omega
     ·rename_i h;simp only[h,if_false] at b⊢;split at c
      ·rename_i j;simp only[j,if_true] at b⊢;rw[q9 ino] at b⊢;omega
      ·rename_i j;simp only[j,if_false] at b⊢;rw[q9 ino] at b⊢;omega
theorem zs (N:Nat):∀(n k:Nat) (v:List Int),n+k=v.length->ko N n k v=some (v.take k++MI n (-1))
 |0,k,v,h=>by rw[ko,List.take_of_length_le d9];simp
 |n+1,k,v,h=>by
  have a:k<v.length:=d9;rw[ko,D7,IS a];simp only[A0,Mg];rw[zs N n (k+1) _ L6];congr 1;rw[List.take_add_one,List.take_set_of_le (It _),List.getElem?_set_self a,List.replicate_succ];simp
theorem zt (N:Nat) (x:Int) (r:Int×Int×List Int):∀(l:List Int) (k:Nat) (a b:List Int),l=r.2.2.drop k->a.length+l.length<=17592186044416->b.length+l.length<=17592186044416 ->
  kq N x r l k a b=some (a++l,b++MI l.length (wr (x+r.2.1)))
 |[],k,a,b,_,_,_=>by simp[kq]
 |y::l,k,a,b,h,ha,hb=>by
  obtain⟨d,e,_⟩:=eE h;simp only[ML] at ha hb;rw[kq];have e1:IN ((a.length+[y].length)*8) 140737488355328=true:=F6 L6;have c:IN ((b.length+[wr (x+r.2.1)].length)*8) 140737488355328=true:=F6 L6;simp only[D7,d,A0,e1,c,Mz];rw[zt N x r l (k+1) _ _ e L6 L6];simp[List.replicate_succ]
def kS (h:List Int):Nat:=h.countP fun x=>decide (x<0)
def xQ {h:List Int} {i:Nat} {x y:Int} (hi:h[i]?=some x) (b:x<0) (c:0<=y):kS (h.set i y)+1=kS h:=by
 induction h generalizing i with
 |nil=>simp at hi
 |cons a h ih =>
  cases i with
  |zero =>
   simp only[My,Option.some.injEq] at hi;subst hi;have:¬y<0:=d9;simp[kS,b,this]
  |succ i =>
   have:=ih (i:=i) (by simpa using hi);simp only[kS,List.set_cons_succ,List.countP_cons] at this⊢;omega
def bw (m:Me):Nat->List Int->List (Int×Int)->Option (H9 (List Int×cr) (List Int))
 |0,_,_=>none
 |_+1,h,[]=>some (.next h)
 |n+1,h,(p,x)::r =>
  if(m.code.length:Int)<=p\/p<0 then some (.ret ([],⟨9,m.code.length⟩)) else
  match h[p.toNat]?,m.code[p.toNat]? with
  |some y,some i =>
   if 0<=y then(if y=x then bw m n h r else some (.ret ([],⟨8,p⟩)))
   else if x<(R8 i p).1\/(i.op=17/\x≠1) then some (.ret ([],⟨8,p⟩))
   else if 12<wr (x+(R8 i p).2.1) then some (.ret ([],⟨4,p⟩))
   else bw m n (h.set p.toNat x) (r++(R8 i p).2.2.map fun q=>(q,wr (x+(R8 i p).2.1)))
  |_,_=>none
def ke (l:List (Int×Int)):Prop:=∀q∈l,0<=q.2/\q.2<=12
theorem vF (m:Me) (d:lg m):∀(n:Nat) (h:List Int) (l:List (Int×Int)),h.length=m.code.length->ke l->l.length+3*kS h<n->∃r,bw m n h l=some r
 |0,h,l,_,_,o=>d9
 |n+1,h,[],_,_,_=>⟨_,rfl⟩
 |n+1,h,(p,x)::r,hh,hl,o=>by
  rw[bw];simp only[ML] at o;have e:=hl (p,x) l9;have t:ke r:=fun q a=>hl q (by simp[a]);by_cases g:(m.code.length:Int)<=p\/p<0
  ·rw[N2 g];exact⟨_,rfl⟩
  rw[N1 g];have s:p.toNat<m.code.length:=d9;have e1:h[p.toNat]?=some (h[p.toNat]' d9):=IS d9;have f:m.code[p.toNat]?=some m.code[p.toNat]:=IS s;generalize h[p.toNat]' d9=y at e1;have hi:=d _ (List.getElem_mem s);generalize m.code[p.toNat]=i at f hi;rw[e1,f];simp only;by_cases j:0<=y
  ·rw[N2 j];by_cases b:y=x
   ·rw[N2 b];exact vF m d n h r hh t d9
   ·rw[N1 b];exact⟨_,rfl⟩
  rw[N1 j];by_cases b:x<(R8 i p).1\/(i.op=17/\x≠1)
  ·rw[N2 b];exact⟨_,rfl⟩
  rw[N1 b];by_cases c:12<wr (x+(R8 i p).2.1)
  ·rw[N2 c];exact⟨_,rfl⟩
  rw[N1 c];have k:=uX e.1 e.2 (fun h=>b (MF h)) c hi;have v:=xQ (y:=x) e1 d9 e.1;have u:=yT i p;refine vF m d n _ _ (by simpa using hh) (fun q a=>?_) L6;rcases MT.1 a with a|a
  ·exact t q a
  ·obtain⟨z,_,rfl⟩:=MU.1 a;exact⟨k.1,k.2.1⟩
theorem vy (N:Nat) (m:Me) (C:lg m) (I:m.code.length<=1048576):∀(n:Nat) (h:List Int) (b c:List Int) (k:Nat),b.length=c.length->k<=b.length->b.length+2*kS h<=4194304->h.length=m.code.length ->
  ke ((b.drop k).zip (c.drop k))->mg N m n h b c (k:Int)=bw m n h ((b.drop k).zip (c.drop k))
 |0,_,_,_,_,_,_,_,_,_=>rfl
 |n+1,h,b,c,k,hl,T,O,J,K=>by
  rw[mg];by_cases s:k<b.length
  ·have d:(k:Int)<(b.length:Int):=d9;have f:k<c.length:=d9;have D:b[k]?=some b[k]:=IS s;have E:c[k]?=some c[k]:=IS f;have l:(b.drop k).zip (c.drop k)=(b[k],c[k])::(b.drop (k+1)).zip (c.drop (k+1)):=by
    rw[List.drop_eq_getElem_cons s,List.drop_eq_getElem_cons f];rfl
   have v:=K (b[k],c[k]) (by rw[l];simp);have M:ke ((b.drop (k+1)).zip (c.drop (k+1))):=fun q e=>K q (by rw[l];simp[e]);have wk:wr ((k:Int)+1)=((k+1:Nat):Int):=by rw[q9 ino];omega
   rw[l,bw];generalize U:b[k]=p at D v;generalize Q:c[k]=x at E v;simp only[d,N3,Mz,D7,D,E,A0,wk];by_cases B:(m.code.length:Int)<=p
   ·simp only[B,N3,Mz,A0,true_or,if_true]
   by_cases o:p<0
   ·simp only[B,o,N3,N4,Mz,N0,A0,or_true,if_true]
   simp only[B,o,N4,N0,A0,or_self,if_false];have u:p.toNat<m.code.length:=d9;have t:0<=p:=d9;have e1:h[p.toNat]?=some (h[p.toNat]' d9):=IS d9;have A:m.code[p.toNat]?=some m.code[p.toNat]:=IS u;generalize h[p.toNat]' d9=y at e1;have hi:=C _ (List.getElem_mem u);generalize m.code[p.toNat]=i at A hi;have R:j4 h p=some y:=by rw[fB t,e1]
   have S:j4 m.code p=some i:=(by rw[fB t,A]);simp only[R,S,e1,A,A0,GS N i p hi];by_cases G:0<=y
   ·simp only[G,N3,Mz,if_true];by_cases g:y=x
    ·simp only[g,N3,MH,N0,A0,if_true];exact vy N m C I n h b c (k+1) hl d9 O J M
    ·simp only[g,N4,MQ,Mz,A0,if_false]
   simp only[G,N4,N0,if_false];by_cases g:x<(R8 i p).1
   ·simp only[g,N3,Mz,A0,true_or,if_true]
   by_cases w:i.op=17/\x≠1
   ·simp only[g,w.1,w.2,N3,N4,Mz,N0,A0,MQ,or_true,if_true,ne_eq,not_false_eq_true,and_self]
   have e:((bif decide (i.op=(17:Int)) then some ((!decide (x=(1:Int)))) else some (false)):Option Bool)=some false:=by
    by_cases j:i.op=17
    ·by_cases H:x=1
     ·simp[H]
     ·exact absurd ⟨j,H⟩ w
    ·simp[j]
   simp only[g,w,e,N4,N0,A0,or_self,if_false];by_cases j:12<wr (x+(R8 i p).2.1)
   ·simp only[j,N3,Mz,A0,if_true]
   simp only[j,N4,N0,if_false];have r:=uX v.1 v.2 g j hi;have V:=xQ (y:=x) e1 d9 v.1;have P:=yT i p;rw[zt N x (R8 i p) (R8 i p).2.2 0 b c rfl d9 d9];simp only[A0];have F:((b++(R8 i p).2.2).drop (k+1)).zip ((c++MI (R8 i p).2.2.length (wr (x+(R8 i p).2.1))).drop (k+1)) =
     (b.drop (k+1)).zip (c.drop (k+1))++(R8 i p).2.2.map fun q=>(q,wr (x+(R8 i p).2.1)):=by
    rw[List.drop_append_of_le_length d9,List.drop_append_of_le_length d9,List.zip_append L6];congr 1;generalize (R8 i p).2.2=L
    induction L with
    |nil=>rfl
    |cons a L ih=>simp[List.replicate_succ,ih]
   rw[vy N m C I n _ _ _ (k+1) L6 L6 L6 (by simpa using J) (by
    rw[F];intro q e;rcases MT.1 e with e|e
    ·exact M q e
    ·obtain⟨z,_,rfl⟩:=MU.1 e;exact⟨r.1,r.2.1⟩),F]
  ·have d:¬(k:Int)<(b.length:Int):=d9;have l:(b.drop k).zip (c.drop k)=[]:=by rw[List.drop_eq_nil_of_le d9];rfl
   rw[l,bw];simp only[d,N4,N0]
def qW (o:H9 (List Int×cr) (List Int)):List Int×cr:=match o with|.ret r=>r|.next h=>(h,⟨0,0⟩)
def uV (n:Nat):kS (MI n (-1))=n:=by
 induction n with
 |zero=>rfl
 |succ n ih=>simp only[kS,List.replicate_succ,List.countP_cons] at ih⊢;rw[ih];rfl
def AB (N:Nat) (m:Me) (d:lg m) (c:m.code.length<=1048576):ov N m=(bw m N (MI m.code.length (-1)) [(0,0)]).map qW:=by
 unfold ov;have e0:(decide (0<=(m.code.length:Int)) && decide ((m.code.length:Int)<=140737488355328) && decide ((m.code.length:Int)*8<=140737488355328))=true:=by
  simp only[IT,NA];omega
 have e1:(((MI (m.code.length:Int).toNat (0:Int)).length:Int)-((0:Nat):Int)).toNat=m.code.length:=l9;rw[e0,e1,zs N _ 0 _ l9];simp only[Mz,A0,List.take_zero,List.nil_append];have h:=vy N m d c N (MI m.code.length (-1)) [0] [0] 0 rfl l9 (by rw[uV];simp;omega) l9 (by
  intro q a;simp only[List.drop_zero,List.zip_cons_cons,List.zip_nil_right,MG,List.not_mem_nil,or_false] at a;subst a;decide)
 have b:mg N m N (MI m.code.length (-1)) [(0:Int)] [(0:Int)] (0:Int)=bw m N (MI m.code.length (-1)) [(0,0)]:=h;rw[b];cases bw m N (MI m.code.length (-1)) [(0,0)] with
 |none=>rfl
 |some o=>cases o<;>rfl
def Fb (N:Nat) (m:Me) (e:4194304<=N) (a:lg m) (c:m.code.length<=1048576):∃r,ov N m=some r:=by
 rw[AB N m a c];obtain⟨o,d⟩:=vF m a N (MI m.code.length (-1)) [(0,0)] l9 (by
  intro q b;simp only[MG,List.not_mem_nil,or_false] at b;subst b;decide) (by rw[uV];simp;omega)
 rw[d];exact⟨_,rfl⟩
theorem vz (N:Nat) (w:Wd) (c:Int) (m:Me) (a:1048578<=N) (d:w.a7.length<=1048576):∀(l:List Ins) (k:Nat),∃o,U6 N w c m l k=some o/\(o=.next ()->∀i∈l,J5 N w c m i=some 0)
 |[],k=>⟨_,rfl,fun _ i hi=>by cases hi⟩
 |x::l,k=>by
  obtain⟨r,b⟩:=zu N w c m x a d;rw[U6,b];simp only[A0];by_cases h:r=0
  ·subst h;simp only[N3,MH,N0];obtain⟨o,f,g⟩:=vz N w c m a d l (k+1);refine⟨o,f,fun e i hi=>?_⟩;rcases MG.1 hi with rfl|hi
   ·exact b
   ·exact g e i hi
  ·simp only[h,N4,MQ,Mz];exact⟨_,rfl,fun e=>by cases e⟩
def AA (N:Nat) (w:Wd) (c:Int) (m:Me) (e:4194304<=N) (k:w.a7.length<=1048576) (g:m.code.length<=1048576):∃f,ic N w c m=some f:=by
 unfold ic;simp only[kA,A0];refine vI ?_ fun a _=>?_
 ·repeat (first|exact⟨_,rfl⟩|refine kK (fun _=>?_) (fun _=>?_))
 refine kK (fun _=>⟨_,rfl⟩) fun _=>?_;refine kK (fun _=>⟨_,rfl⟩) fun _=>?_;refine vI ?_ fun a _=>?_
 ·repeat (first|exact⟨_,rfl⟩|refine kK (fun _=>?_) (fun _=>?_))
 refine kK (fun _=>⟨_,rfl⟩) fun _=>?_;refine kK (fun _=>⟨_,rfl⟩) fun _=>?_;refine vI ?_ fun a _=>?_
 ·repeat (first|exact⟨_,rfl⟩|refine kK (fun _=>?_) (fun _=>?_))
 refine kK (fun _=>⟨_,rfl⟩) fun _=>?_;obtain⟨o,b,d⟩:=vz N w c m d9 k m.code 0;rw[b];simp only[A0];cases o with
 |ret r=>exact⟨_,rfl⟩
 |next u =>
  obtain⟨r,j⟩:=Fb N m e (fun i hi h=>FY N w c m i (d rfl i hi) h) g;simp only[j,A0];exact⟨_,rfl⟩
def Good (x:Option (H9 Int Unit)) (P:Prop):Prop:=∃o,x=some o/\(∀r,o=.ret r->r≠0)/\(o=.next ()->P)
theorem Good.ret {r:Int} {P:Prop} (h:r≠0):Good (some (.ret r)) P:=⟨.ret r,rfl,(fun r e=>by cases e;exact h),fun e=>by cases e⟩
theorem Good.next {P:Prop} (h:P):Good (some (.next ())) P:=⟨.next (),rfl,(fun r e=>by cases e),fun _=>h⟩
theorem Good.bind {x:Option (H9 Int Unit)} {P Q:Prop} {y:Option (H9 Int Unit)} (h:Good x P) (c:P->Good y Q):Good (x.bind fun o=>match o with|.ret r=>some (.ret r)|.next ()=>y) Q:=by
 obtain⟨o,rfl,a,b⟩:=h;cases o with
 |ret r=>exact Good.ret (a r rfl)
 |next u=>exact c (b rfl)
theorem Good.imp {x:Option (H9 Int Unit)} {P Q:Prop} (h:Good x P) (d:P->Q):Good x Q:=by
 obtain⟨o,a,b,c⟩:=h;exact⟨o,a,b,fun e=>d (c e)⟩
theorem Ao (N:Nat) (x:Cl):∀(l:List Cl) (k:Nat),Good (T9 N x l k) (∀d∈l,d.name≠x.name)
 |[],k=>Good.next fun d hd=>by cases hd
 |d::l,k=>by
  rw[T9];by_cases h:d.name=x.name
  ·simp only[h,N3,Mz];exact Good.ret G8
  ·simp only[h,N4,N0];exact(Ao N x l (k+1)).imp fun hl e a=>by
    rcases MG.1 a with rfl|a
    ·exact h
    ·exact hl e a
def lY (w:Wd) (k:Nat) (c:Cl):Prop:=Y1 c.name=true/\(∀d∈w.a7.take k,d.name≠c.name) /\
 (k<4->∃f,N9.a7[k]?=some f/\c.name=f.name/\c.aQ=f.aQ/\c.aG=0) /\
 (4<=k->0<=c.aQ/\c.aQ<k/\(0<c.aQ->4<=c.aQ))/\0<=c.aG/\c.aG<=6
theorem Az (N:Nat) (w:Wd):∀(l:List Cl) (k:Nat),l=w.a7.drop k->Good (O9 N w N9 l k) (∀j c,k<=j->w.a7[j]?=some c->lY w j c)
 |[],k,h=>Good.next fun j c p q=>by
   have D:=(ME.1 q).1;have E:=List.drop_eq_nil_iff.1 h.symm;omega
 |c::l,k,h=>by
  obtain⟨q,hl,n⟩:=eE h;have n:=of_decide_eq_true n;rw[O9,kA];simp only[A0];cases v:Y1 c.name with
  |false=>simp only[MQ,Mz,A0];exact Good.ret G8
  |true =>
   simp only[MH,N0];have z:(decide (0<=(k:Int)) && decide ((k:Int)<=(w.a7.length:Int)))=true:=by simp only[IT,NA];omega
   have step:∀(P:Prop) (y:Option (H9 Int Unit)),((∀d∈w.a7.take k,d.name≠c.name)->Good y P) ->
     Good ((bif (decide (0<=(k:Int)) && decide ((k:Int)<=(w.a7.length:Int))) then((T9 N c (w.a7.take (k:Int).toNat) 0).bind fun o=>match o with|.ret r=>some (.ret r)|.next ()=>y) else none)) P:=by
    intro P y C;rw[z];exact(Ao N c _ 0).bind fun hd=>C (by simpa using hd)
   have g:∀(P:Prop),lY w k c->Good (O9 N w N9 l (k+1)) (∀j c,k<=j->w.a7[j]?=some c->lY w j c):=fun _ A =>
    (Az N w l (k+1) hl).imp fun ih j d p hd=>by
     rcases Nat.eq_or_lt_of_le p with rfl|p
     ·rw[q] at hd;cases hd;exact A
     ·exact ih j d p hd
   by_cases x:k<4
   ·have i:(k:Int)<4:=d9;obtain⟨f,u⟩:∃f,N9.a7[k]?=some f:=⟨_,IS (by simpa[N9] using x)⟩;simp only[i,N3,Mz,D7,u,A0];by_cases s:c.name=f.name
    ·simp only[s,N3,MH,N0];refine step _ _ fun hd=>?_;by_cases b:c.aQ=f.aQ
     ·simp only[b,N3,MH,N0,A0];by_cases e:c.aG<0
      ·simp only[e,N3,Mz,A0];exact Good.ret G8
      ·by_cases a:0<c.aG
       ·simp only[e,a,N3,N4,Mz,N0,A0];exact Good.ret G8
       ·simp only[e,a,N4,N0,A0];exact g True ⟨v,hd,fun _=>⟨f,u,s,b,d9⟩,fun h=>d9,d9,d9⟩
     ·simp only[b,N4,MQ,Mz,A0];exact Good.ret G8
    ·simp only[s,N4,MQ,Mz];exact Good.ret G8
   ·have i:¬(k:Int)<4:=d9;simp only[i,N4,N0,A0];refine step _ _ fun hd=>?_;by_cases b:c.aQ<0
    ·simp only[b,N3,Mz,A0];exact Good.ret G8
    by_cases e:(k:Int)<=c.aQ
    ·simp only[b,e,N3,N4,Mz,N0,A0];exact Good.ret G8
    have tail:(0<c.aQ->4<=c.aQ)->Good (((bif decide (c.aG<(0:Int)) then some (true) else some (decide ((6:Int)<c.aG))):Option Bool).bind fun t=>(bif t then some (.ret (3:Int)) else O9 N w N9 l (k+1))) (∀j c,k<=j->w.a7[j]?=some c->lY w j c):=by
     intro B;by_cases a:c.aG<0
     ·simp only[a,N3,Mz,A0];exact Good.ret G8
     ·by_cases m:6<c.aG
      ·simp only[a,m,N3,N4,Mz,N0,A0];exact Good.ret G8
      ·simp only[a,m,N4,N0,A0];exact g True ⟨v,hd,fun h=>d9,fun _=>⟨d9,d9,B⟩,d9,d9⟩
    by_cases a:0<c.aQ
    ·by_cases m:c.aQ<4
     ·simp only[b,e,a,m,N3,N4,Mz,N0,A0];exact Good.ret G8
     ·simp only[b,e,a,m,N3,N4,Mz,N0,A0];exact tail fun _=>d9
    ·simp only[b,e,a,N4,N0,A0];exact tail fun h=>absurd h a
def o0 (k:Nat) (m:Me):Prop:=k=3/\∃p∈U0,p.name=m.name/\p.aV=m.aV/\m.args=1/\m.a8=0/\m.code=[]
theorem wc (N:Nat) (k:Nat) (m:Me):∀(l:List Me) (j:Nat) (b:Bool),(∀p∈l,p∈U0)->(b=true->o0 k m)->∃t,J4 N k m l j b=some t/\(t=true->o0 k m)
 |[],j,b,_,s=>⟨b,rfl,s⟩
 |p::l,j,b,hl,s=>by
  rw[J4];have go:=wc N k m l (j+1);have d:∀p∈l,p∈U0:=fun q u=>hl q (by simp[u]);cases b with
  |true=>simp only[Mz,A0];exact go true d (fun _=>s rfl)
  |false =>
   have f:=go false d (fun h=>by cases h);simp only[N0];by_cases a:(k:Int)=3
   ·by_cases c:p.name=m.name
    ·by_cases g:p.aV=m.aV
     ·by_cases i:m.args=1
      ·by_cases n:m.a8=0
       ·by_cases o:m.code=[]
        ·simp only[a,c,g,i,n,o,N3,Mz,A0];exact go _ d fun _=>⟨d9,p,hl p l9,c,g,i,n,o⟩
        ·have r:¬(m.code.length:Int)=0:=fun e=>o (Mk d9);simp only[a,c,g,i,n,r,N3,N4,Mz,A0];exact f
       ·simp only[a,c,g,i,n,N3,N4,Mz,N0,A0];exact f
      ·simp only[a,c,g,i,N3,N4,Mz,N0,A0];exact f
     ·simp only[a,c,g,N3,N4,Mz,N0,A0];exact f
    ·simp only[a,c,N3,N4,Mz,N0,A0];exact f
   ·simp only[a,N4,N0,A0];exact f
def mE (N:Nat) (w:Wd) (k:Nat) (m:Me):Prop:=o0 k m\/∃f,ic N w (k:Int) m=some f/\f.err=0
theorem Ak (N:Nat) (w:Wd) (k:Nat) (c:Cl) (D:4194304<=N) (y:D6 w) (B:c∈w.a7):∀(l:List Me) (j:Nat),l=c.aB.drop j ->
  Good (P6 N w N9 k c l j) (∀i m,j<=i->c.aB[i]?=some m->mE N w k m/\∀p,0<i->c.aB[i-1]?=some p->Y4 p.name m.name=true)
 |[],j,h=>Good.next fun i m v x=>by
   have K:=(ME.1 x).1;have L:=List.drop_eq_nil_iff.1 h.symm;omega
 |m::l,j,h=>by
  obtain⟨x,hl,o⟩:=eE h;have o:=of_decide_eq_true o;have I:=(y.2.2.1 c B).1;rw[P6];have G:j4 N9.a7 3=some ⟨⟨#[73,110,116]⟩,0,0,U0⟩:=rfl;have C:=(y.2.2.1 c B).2 m (MP x);obtain⟨b,z,A⟩:=wc N k m U0 0 false (fun p a=>a) (fun h=>by cases h);obtain⟨f,E⟩:=AA N w (k:Int) m D y.1 C;have tail:(∀p,0<j->c.aB[j-1]?=some p->Y4 p.name m.name=true)->Good ((j4 N9.a7 (3:Int)).bind fun t=>((J4 N k m t.aB 0 false).bind fun r=>((ic N w (k:Int) m).bind fun e=>(((bif (!r) then some ((!decide (e.err=(0:Int)))) else some (false)):Option Bool).bind fun s=>(bif s then some (.ret e.err) else P6 N w N9 k c l (j+1))))))
    (∀i m,j<=i->c.aB[i]?=some m->mE N w k m/\∀p,0<i->c.aB[i-1]?=some p->Y4 p.name m.name=true):=by
   intro a;have g:mE N w k m->Good (P6 N w N9 k c l (j+1)) (∀i m,j<=i->c.aB[i]?=some m->mE N w k m/\∀p,0<i->c.aB[i-1]?=some p->Y4 p.name m.name=true):=fun H =>
    (Ak N w k c D y B l (j+1) hl).imp fun ih i d v hd=>by
     rcases Nat.eq_or_lt_of_le v with rfl|v
     ·rw[x] at hd;cases hd;exact⟨H,a⟩
     ·exact ih i d v hd
   rw[G];simp only[A0,z,E];cases b with
   |true=>simp only[MH,N0,A0];exact g (MF (A rfl))
   |false =>
    simp only[MQ,Mz,A0];by_cases u:f.err=0
    ·simp only[u,N3,MH,N0];exact g (Or.inr ⟨f,E,u⟩)
    ·simp only[u,N4,MQ,Mz];exact Good.ret u
  by_cases F:0<j
  ·have n:(0:Int)<(j:Int):=d9;have wk:wr ((j:Int)-1)=((j-1:Nat):Int):=by rw[q9 ino];omega
   obtain⟨p,a⟩:∃p,c.aB[j-1]?=some p:=⟨_,IS d9⟩;simp only[n,N3,Mz,wk,D7,a,A0];cases J:Y4 p.name m.name with
   |true=>simp only[MH,N0];exact tail fun M _ q=>by rw[a] at q;cases q;exact J
   |false=>simp only[MQ,Mz];exact Good.ret G8
  ·have n:¬(0:Int)<(j:Int):=d9;simp only[n,N4,N0,A0];exact tail fun p a=>absurd a F
theorem B0 (N:Nat) (w:Wd) (r:4194304<=N) (q:D6 w):∀(l:List Cl) (k:Nat),l=w.a7.drop k ->
  Good (X5 N w N9 l k) (∀j c,k<=j->w.a7[j]?=some c->p8 w (j:Int)<=6/\c.aB.length<=8/\dL c.aB/\∀m∈c.aB,mE N w j m)
 |[],k,h=>Good.next fun j c e b=>by
   have a:=(ME.1 b).1;have f:=List.drop_eq_nil_iff.1 h.symm;omega
 |c::l,k,h=>by
  obtain⟨b,hl,t⟩:=eE h;rw[X5,kx N w _ d9 q.1];simp only[A0];by_cases a:6<p8 w (k:Int)
  ·simp only[a,N3,Mz];exact Good.ret G8
  by_cases f:(8:Int)<(c.aB.length:Int)
  ·simp only[a,f,N3,N4,Mz,N0];exact Good.ret G8
  simp only[a,f,N4,N0];refine(Ak N w k c r q (MP b) c.aB 0 rfl).bind fun s=>?_;refine(B0 N w r q l (k+1) hl).imp fun ih j d e hd=>?_;rcases Nat.eq_or_lt_of_le e with rfl|e
  ·rw[b] at hd;cases hd;refine⟨d9,d9,KI fun i m p hi g o=>(s i m d9 g).2 p hi o,fun m n=>?_⟩;obtain⟨i,hi⟩:=Mv.1 n;exact(s i m d9 hi).1
  ·exact ih j d e hd
theorem B1 (N:Nat) (w:Wd):∀(l:List V) (k:Nat),Good (U3 N w l k) (∀v∈l,cc v (w.heap.length:Int)=0)
 |[],k=>Good.next fun v b=>by cases b
 |v::l,k=>by
  rw[U3,wS];simp only[A0];by_cases h:cc v (w.heap.length:Int)=0
  ·simp only[h,N3,MH,N0];exact(B1 N w l (k+1)).imp fun ih u a=>by
    rcases MG.1 a with rfl|a
    ·exact h
    ·exact ih u a
  ·simp only[h,N4,MQ,Mz];exact Good.ret h
def tQ (w:Wd) (o:Ob):Prop:=0<=o.cls/\(0<o.cls->4<=o.cls)/\o.cls<w.a7.length/\(o.aG.length:Int)=p8 w o.cls/\∀v∈o.aG,cc v (w.heap.length:Int)=0
theorem At (N:Nat) (w:Wd) (m:4194304<=N) (j:D6 w):∀(l:List Ob) (k:Nat),Good (U2 N w l k) (∀o∈l,tQ w o)
 |[],k=>Good.next fun o n=>by cases n
 |o::l,k=>by
  rw[U2];have d:(0<=o.cls/\(0<o.cls->4<=o.cls)/\o.cls<w.a7.length/\(o.aG.length:Int)=p8 w o.cls)->Good ((U3 N w o.aG 0).bind fun o=>match o with|.ret r=>some (.ret r)|.next ()=>U2 N w l (k+1)) (∀x∈o::l,tQ w x):=fun h =>
   (B1 N w o.aG 0).bind fun p=>(At N w m j l (k+1)).imp fun ih x i=>by
    rcases MG.1 i with rfl|i
    ·exact⟨h.1,h.2.1,h.2.2.1,h.2.2.2,p⟩
    ·exact ih x i
  by_cases b:o.cls<0
  ·simp only[b,N3,Mz,A0];exact Good.ret G8
  have a:=kx N w o.cls d9 j.1;by_cases c:0<o.cls
  ·by_cases g:o.cls<4
   ·simp only[b,c,g,N3,N4,Mz,N0,A0];exact Good.ret G8
   ·by_cases e:(w.a7.length:Int)<=o.cls
    ·simp only[b,c,g,e,N3,N4,Mz,N0,A0];exact Good.ret G8
    ·by_cases f:(o.aG.length:Int)=p8 w o.cls
     ·simp only[b,c,g,e,a,f,N3,N4,Mz,N0,A0,MH];exact d ⟨d9,fun _=>d9,d9,f⟩
     ·simp only[b,c,g,e,a,f,N3,N4,Mz,N0,A0,MQ];exact Good.ret G8
  ·by_cases e:(w.a7.length:Int)<=o.cls
   ·simp only[b,c,e,N3,N4,Mz,N0,A0];exact Good.ret G8
   ·by_cases f:(o.aG.length:Int)=p8 w o.cls
    ·simp only[b,c,e,a,f,N3,N4,N0,A0,MH];exact d ⟨d9,fun h=>absurd h c,d9,f⟩
    ·simp only[b,c,e,a,f,N4,Mz,N0,A0,MQ];exact Good.ret G8
structure I6 (N:Nat) (w:Wd):Prop where
 many:4<=w.a7.length/\w.a7.length<=12/\w.heap.length<=60
 aC:0<=w.aC/\w.aC<=1073741824
 cls:∀(j:Nat) c,w.a7[j]?=some c->lY w j c
 al:∀(j:Nat) c,w.a7[j]?=some c->p8 w (j:Int)<=6/\c.aB.length<=8/\dL c.aB/\∀m∈c.aB,mE N w j m
 obj:∀o∈w.heap,tQ w o
theorem Good.end_ {x:Option (H9 Int Unit)} {P:Prop} {y:Option Int} {Q:Prop} (h:Good x P) (c:P->∃r,y=some r/\(r=0->Q)):∃r,(x.bind fun o=>match o with|.ret r=>some r|.next ()=>y)=some r/\(r=0->Q):=by
 obtain⟨o,rfl,a,b⟩:=h;cases o with
 |ret r=>exact⟨r,rfl,fun e=>absurd e (a r rfl)⟩
 |next u=>exact c (b rfl)
def d28 (N:Nat) (w:Wd) (i:4194304<=N) (k:D6 w):∃r,jX N w=some r/\(r=0->I6 N w):=by
 unfold jX s8;simp only[A0];by_cases a:(w.a7.length:Int)<4
 ·exact⟨5,by simp[a],fun h=>by cases h⟩
 by_cases b:(12:Int)<(w.a7.length:Int)
 ·exact⟨5,by simp[a,b],fun h=>by cases h⟩
 by_cases d:(60:Int)<(w.heap.length:Int)
 ·exact⟨5,by simp[a,b,d],fun h=>by cases h⟩
 by_cases e:w.aC<0
 ·exact⟨3,by simp[a,b,d,e],fun h=>by cases h⟩
 by_cases g:1073741824<w.aC
 ·exact⟨3,by simp[a,b,d,e,g],fun h=>by cases h⟩
 simp only[a,b,d,e,g,N4,N0,A0];refine(Az N w w.a7 0 rfl).end_ fun l=>?_;refine(B0 N w i k w.a7 0 rfl).end_ fun c3=>?_;refine(At N w i k w.heap 0).end_ fun m=>?_;exact⟨0,rfl,fun _=>⟨d9,d9,fun j c f=>l j c d9 f,fun j c f=>c3 j c d9 f,m⟩⟩
theorem I6.cq {N:Nat} {w:Wd} (h:I6 N w):dS w:=fun c a=>by
 obtain⟨i,hi⟩:=Mv.1 a;exact(h.al i c hi).2.2.1

def gr (c:Int):List Ln->List Ln×Bool
 |[]=>([],false)
 |x::l=>if x.cls=c then(⟨x.cls,wr (x.found+1)⟩::l,true) else(x::(gr c l).1,(gr c l).2)
def qS (c:Int) (l:List Ln):List Ln:=if(gr c l).2=true then(gr c l).1 else(gr c l).1++[⟨c,1⟩]
def fO (s:St) (c:Int):List Tl->List Tl×Bool
 |[]=>([],false)
 |x::l=>if x.site=s then(⟨x.site,qS c x.a7⟩::l,true) else(x::(fO s c l).1,(fO s c l).2)
def ns (s:St) (c:Int) (l:List Tl):List Tl:=if(fO s c l).2=true then(fO s c l).1 else(fO s c l).1++[⟨s,[⟨c,1⟩]⟩]
theorem Bz (c:Int):∀l,(gr c l).1.length=l.length
 |[]=>rfl
 |x::l=>by
  unfold gr;split
  ·rfl
  ·simp[Bz c l]
def d65 (c:Int) (l:List Ln):(qS c l).length<=l.length+1:=by
 unfold qS;have:=Bz c l;split<;>simp<;>omega
theorem Bg (s:St) (c:Int):∀l,(fO s c l).1.length=l.length
 |[]=>rfl
 |x::l=>by
  unfold fO;split
  ·rfl
  ·simp[Bg s c l]
def Db (c:Int) (l:List Ln):fg c l=qS c l:=by
 unfold fg qS bb;have key:∀l:List Ln,(match l.findIdx? (fun x=>decide (x.cls=c)) with|some k=>(gr c l).2=true/\l.modify k (fun x=>⟨x.cls,wr (x.found+1)⟩)=(gr c l).1|none=>(gr c l).2=false/\(gr c l).1=l):=by
  intro l
  induction l with
  |nil=>exact⟨rfl,rfl⟩
  |cons x l ih =>
   rw[List.findIdx?_cons];by_cases d:x.cls=c
   ·simp[d,gr]
   ·simp only[d,N4,Ml,if_false,gr];cases b:l.findIdx? (fun x=>decide (x.cls=c)) with
    |none=>rw[b] at ih;exact⟨ih.1,by rw[ih.2]⟩
    |some k=>rw[b] at ih;exact⟨ih.1,by simp only[List.modify_succ_cons];rw[ih.2]⟩
 have:=key l;cases b:l.findIdx? (fun x=>decide (x.cls=c)) with
 |some k=>rw[b] at this;simp only[this.1,if_true];exact this.2
 |none =>
  rw[b] at this;have g:wr ((0:Int)+1)=1:=G8;simp only[this.1,this.2,if_false,Ml];have e:∀(l:List Ln) (y:Ln) (f:Ln->Ln),(l++[y]).modify l.length f=l++[f y]:=by
   intro l y f
   induction l with
   |nil=>rfl
   |cons a l ih=>simp only[List.cons_append,ML,List.modify_succ_cons,ih]
  rw[e,g]
def Jq (s:St) (c:Int) (l:List Tl):tO s c l=ns s c l:=by
 unfold tO ns bb;have key:∀l:List Tl,(match l.findIdx? (fun x=>decide (x.site=s)) with|some k=>(fO s c l).2=true/\l.modify k (fun x=>⟨x.site,fg c x.a7⟩)=(fO s c l).1|none=>(fO s c l).2=false/\(fO s c l).1=l):=by
  intro l
  induction l with
  |nil=>exact⟨rfl,rfl⟩
  |cons x l ih =>
   rw[List.findIdx?_cons];by_cases d:x.site=s
   ·simp[d,fO,Db]
   ·simp only[d,N4,Ml,if_false,fO];cases b:l.findIdx? (fun x=>decide (x.site=s)) with
    |none=>rw[b] at ih;exact⟨ih.1,by rw[ih.2]⟩
    |some k=>rw[b] at ih;exact⟨ih.1,by simp only[List.modify_succ_cons];rw[ih.2]⟩
 have:=key l;cases b:l.findIdx? (fun x=>decide (x.site=s)) with
 |some k=>rw[b] at this;simp only[this.1,if_true];exact this.2
 |none =>
  rw[b] at this;simp only[this.1,this.2,if_false,Ml];have e:∀(l:List Tl) (y:Tl) (f:Tl->Tl),(l++[y]).modify l.length f=l++[f y]:=by
   intro l y f
   induction l with
   |nil=>rfl
   |cons a l ih=>simp only[List.cons_append,ML,List.modify_succ_cons,ih]
  rw[e,Db];rfl
def HT (N:Nat) (l:List Tl) (s:St) (c:Int) (hl:∀t∈l,t.a7.length<=1099511627776) (h:l.length<=1099511627776):sJ N l s c=some (ns s c l):=by
 unfold sJ;have e:(IN ((l.length+1)*56) 140737488355328 && l.all fun t=>IN ((t.a7.length+1)*16) 140737488355328)=true:=by
  rw[IT,MR];exact⟨F6 d9,fun t a=>F6 (by have:=hl t a;omega)⟩
 rw[e,Jq];rfl
def Fm (N:Nat) {l:List Ln} (h:l.length<=1099511627776):X7 N l=some l:=by
 unfold X7;rw[F6 d9];rfl
theorem zc (N:Nat):∀(l:List Tl) (k:Nat) (a:List Tl),(∀t∈l,t.a7.length<=1099511627776)->a.length+l.length<=1099511627776->lP N l k a=some (a++l)
 |[],k,a,_,_=>by simp[lP]
 |x::l,k,a,h,hl=>by
  rw[lP,Fm N (h x l9)];simp only[A0];rw[F6 (by simp at hl⊢;omega)];simp only[Mz];rw[zc N l (k+1) _ (fun o b=>h o (by simp[b])) (by simp at hl⊢;omega)];simp
def BB (N:Nat) {l:List Tl} (h:∀t∈l,t.a7.length<=1099511627776) (hl:l.length<=1099511627776):pX N l=some l:=by
 unfold pX;rw[zc N l 0 [] h (by simpa using hl)];rfl
def kQ (c:Int):List Ln->Int
 |[]=>-1
 |y::l=>if y.cls=c then y.found else kQ c l
def dq (s:St) (e c:Int):List Ce->Int
 |[]=>-1
 |x::l=>if x.site=s then(if x.aC=e then kQ c x.lines else -1) else dq s e c l
theorem Dl (N:Nat) (s:St):∀(l:List Ce) (k:Nat),y9 N (fun x=>nA N x s) l k=some (match l.findIdx? (fun t=>decide (t.site=s)) with|some i=>.ret ((k+i:Nat):Int)|none=>.next ())
 |[],k=>rfl
 |x::l,k=>by
  rw[y9,nY,Dl N s l (k+1)];unfold nA;rw[iv];by_cases e:x.site=s
  ·simp[e]
  ·cases l.findIdx? (fun t=>decide (t.site=s))<;>simp[e];omega
def GR (N:Nat) (l:List Ce) (s:St):nP N l s=some (fk (fun t=>decide (t.site=s)) l):=by
 unfold nP O0 fk;rw[Dl];cases l.findIdx? (fun t=>decide (t.site=s))<;>simp
theorem ze (N:Nat) (c:Int):∀(l:List Ln) (k:Nat),∃o,nI N c l k=some o/\(match o with|.ret r=>r|.next ()=>-1)=kQ c l
 |[],k=>⟨.next (),rfl,rfl⟩
 |y::l,k=>by
  rw[nI,kQ];by_cases h:y.cls=c
  ·exact⟨.ret y.found,by simp[h],by simp[h]⟩
  ·obtain⟨o,a,b⟩:=ze N c l (k+1);exact⟨o,by simp[h,a],by rw[N1 h];exact b⟩
theorem Cm (s:St) (e c:Int):∀l:List Ce,dq s e c l=match l.findIdx? (fun t=>decide (t.site=s)) with
   |some i=>(match l[i]? with|some x=>(if x.aC=e then kQ c x.lines else -1)|none=>-1)|none=>-1
 |[]=>rfl
 |x::l=>by
  rw[dq,nY];by_cases h:x.site=s
  ·simp[h]
  ·simp only[h,N4,Ml,if_false];rw[Cm s e c l];cases l.findIdx? (fun t=>decide (t.site=s))<;>simp
def HS (N:Nat) (l:List Ce) (s:St) (e c:Int):sH N l s e c=some (dq s e c l):=by
 unfold sH;rw[GR,Cm];simp only[A0];rcases vX (fun t:Ce=>decide (t.site=s)) l with⟨k,x,e1,a,i,d⟩|⟨e1,a⟩
 ·rw[e1,d];have f:¬((k:Int)<0):=d9;simp only[f,N4,N0,D7,a,A0];by_cases b:x.aC=e
  ·obtain⟨o,g,h⟩:=ze N c x.lines 0;simp only[b,N3,MH,N0,g,A0,if_true,<-h];cases o<;>rfl
  ·simp[b]
 ·rw[e1,a];simp
def yh (l:List Ce):Prop:=l.length<=1099511627776/\∀x∈l,x.lines.length<=1099511627776
def iR (s:St) (e c f:Int):List Ce->List Ce
 |[]=>[iP e c f ⟨s,e,false,[]⟩]
 |x::l=>if x.site=s then iP e c f x::l else x::iR s e c f l
def HI (N:Nat) (l:List Ce) (s:St) (e c f:Int) (h:yh l):sI N l s e c f=some (iR s e c f l):=by
 unfold sI;have a:(IN ((l.length+1)*72) 140737488355328 && l.all fun t=>IN ((t.lines.length+1)*16) 140737488355328)=true:=by
  rw[IT,MR];exact⟨F6 (by have:=h.1;omega),fun t d=>F6 (by have:=h.2 t d;omega)⟩
 rw[a];simp only[Mz];congr 1;clear a h;unfold bb
 induction l with
 |nil=>rfl
 |cons x l ih =>
  rw[nY,iR];by_cases b:x.site=s
  ·simp[b]
  ·simp only[b,N4,Ml,if_false];rw[<-ih];cases l.findIdx? (fun t=>decide (t.site=s)) with
   |none=>simp
   |some i=>simp
def Ff (N:Nat) {l:List Ln} (h:l.length<=1099511627776):X7 N l=some l:=by
 unfold X7;rw[F6 d9];rfl
theorem zf (N:Nat):∀(l:List Ce) (k:Nat) (a:List Ce),(∀t∈l,t.lines.length<=1099511627776)->a.length+l.length<=1099511627776->lK N l k a=some (a++l)
 |[],k,a,_,_=>by simp[lK]
 |x::l,k,a,h,hl=>by
  rw[lK,Ff N (h x l9)];simp only[A0];rw[F6 (by simp at hl⊢;omega)];simp only[Mz];rw[zf N l (k+1) _ (fun o b=>h o (by simp[b])) (by simp at hl⊢;omega)];simp
def wh (N:Nat) {l:List Ce} (h:yh l):lV N l=some l:=by
 unfold lV;rw[zf N l 0 [] h.2 (by simpa using h.1)];rfl
def iG (w:Wd) (s:St) (c:Int) (name:ByteArray) (l:List Ce):List Ce×Int×Int×Bool :=
 if 0<=dq s w.aC c l/\dq s w.aC c l<w.a7.length then(l,(l7 w name (dq s w.aC c l)).1,(l7 w name (dq s w.aC c l)).2,true)
 else if(l7 w name c).2<0 then(l,(l7 w name c).1,(l7 w name c).2,false)
 else(iR s w.aC c (l7 w name c).1 l,(l7 w name c).1,(l7 w name c).2,false)
def Gq (N:Nat) (l:List Ce) (w:Wd) (s:St) (c:Int) (name:ByteArray) (e:1048578<=N) (g:dS w) (f:D6 w) (hl:yh l):rq N l w s c name=some (iG w s c name l):=by
 unfold rq iG;rw[HS];simp only[A0,lH N w _ name e g f,wh N hl,HI N l s _ _ _ hl];by_cases a:0<=dq s w.aC c l
 ·by_cases d:dq s w.aC c l<w.a7.length
  ·simp[a,d]
  ·by_cases b:(l7 w name c).2<0<;>simp[a,d,b]
 ·by_cases b:(l7 w name c).2<0<;>simp[a,b]
theorem BN {w:Wd} {s:ByteArray}:∀{n:Nat} {c:Int} {p:Int×Int},X3 w s n c=some p->∀m,X3 w s (m+1) p.1=some p
 |0,c,p,h,m=>by cases h
 |n+1,c,p,h,m=>by
  rw[X3] at h;by_cases a:0<=c
  ·rw[N2 a] at h;cases b:w.a7[c.toNat]? with
   |none=>rw[b] at h;cases h
   |some x =>
    rw[b] at h;simp only at h;cases hi:bI s x.aB with
    |none=>rw[hi] at h;exact BN h m
    |some i =>
     rw[hi] at h;cases h;rw[X3,N2 a,b];simp only[hi]
  ·rw[N1 a] at h;cases h
def HZ {w:Wd} {s:ByteArray} {c:Int} (h:0<=(l7 w s c).2):l7 w s (l7 w s c).1=l7 w s c:=by
 unfold l7 at h⊢;cases a:X3 w s (w.a7.length+1) c with
 |none=>rw[a] at h;exact absurd h G8
 |some p =>
  rw[Option.getD_some,BN a (w.a7.length),Option.getD_some]

def d56 (N:Nat) (w:Wd) (c:Int) (m:Me) (i:Ins) (v:1048578<=N) (x:w.a7.length<=1048576) (h:J5 N w c m i=some 0):1<=i.op/\i.op<=17:=by
 by_cases l:1<=i.op/\i.op<=17
 ·exact l
 ·exfalso;unfold J5 at h;have n:¬i.op=1:=d9;have o:¬i.op=2:=d9;have p:¬i.op=3:=d9;have q:¬i.op=4:=d9;have r:¬i.op=5:=d9;have n6:¬i.op=6:=d9;have s:¬i.op=7:=d9;have t:¬i.op=8:=d9;have u:¬i.op=9:=d9;have a:¬i.op=10:=d9;have b:¬i.op=11:=d9;have d:¬i.op=12:=d9;have e:¬i.op=13:=d9;have f:¬i.op=14:=d9;have g:¬i.op=15:=d9;have j:¬i.op=16:=d9;have k:¬i.op=17:=d9;simp only[n,o,p,q,r,n6,s,t,u,a,b,d,e,f,g,j,k,N4,N0,A0] at h;cases h
def HG (N:Nat) (w:Wd) (c:Int) (m:Me) (i:Ins) (B:m.code.length<=1048576) (h:J5 N w c m i=some 0) (b:i.op=15\/i.op=16):0<=i.a/\i.a<m.code.length:=by
 have r:wr ((m.code.length:Int)-1)=(m.code.length:Int)-1:=q9 ino;have key:∀o:Int,(o=15\/o=16)->i.op=o->0<=i.a/\i.a<m.code.length:=by
  intro o b p;unfold J5 at h;have s:¬o=1:=d9;have t:¬o=2:=d9;have u:¬o=3:=d9;have v:¬o=4:=d9;have x:¬o=5:=d9;have n6:¬o=6:=d9;have y:¬o=7:=d9;have z:¬o=8:=d9;have A:¬o=9:=d9;have d:¬o=10:=d9;have e:¬o=11:=d9;have f:¬o=12:=d9;have g:¬o=13:=d9;have j:¬o=14:=d9;have k:¬o=17:=d9;have q:((bif decide (o=(15:Int)) then some (decide (o=(15:Int))) else some (decide (o=(16:Int)))):Option Bool)=some true:=by
   rcases b with rfl|rfl<;>rfl
  simp only[p,s,t,u,v,x,n6,y,z,A,d,e,f,g,j,k,q,N4,N0,Mz,A0,r] at h;by_cases l:i.a<0
  ·simp only[l,N3,Mz,A0] at h;cases h
  ·by_cases n:(m.code.length:Int)-1<i.a
   ·simp only[l,n,N3,N4,Mz,N0,A0] at h;cases h
   ·omega
 exact key i.op b rfl
structure zQ (N:Nat) (w:Wd) (k:Int) (m:Me):Prop where
 args:0<=m.args/\m.args<=4
 a8:0<=m.a8/\m.a8<=6
 len:m.code.length<=60
 num:∀i∈m.code,J5 N w k m i=some 0
def JK (N:Nat) (w:Wd) (k:Int) (m:Me) (f:cr) (y:1048578<=N) (A:w.a7.length<=1048576) (h:ic N w k m=some f) (a:f.err=0):zQ N w k m:=by
 unfold ic at h;simp only[kA,A0] at h;by_cases d:k<0
 ·simp only[d,N3,Mz,A0] at h;cases h;cases a
 by_cases n:(w.a7.length:Int)<=k
 ·simp only[d,n,N3,N4,Mz,N0,A0] at h;cases h;cases a
 simp only[d,n,N4,N0,A0] at h;cases z:Y1 m.name with
 |false=>rw[z] at h;simp only[MQ,Mz] at h;cases h;cases a
 |true =>
  rw[z] at h;simp only[MH,N0] at h;by_cases b:m.args<0
  ·simp only[b,N3,Mz,A0] at h;cases h;cases a
  by_cases c:4<m.args
  ·simp only[b,c,N3,N4,Mz,N0,A0] at h;cases h;cases a
  by_cases e:m.a8<0
  ·simp only[b,c,e,N3,N4,Mz,N0,A0] at h;cases h;cases a
  by_cases p:6<m.a8
  ·simp only[b,c,e,p,N3,N4,Mz,N0,A0] at h;cases h;cases a
  simp only[b,c,e,p,N4,N0,A0] at h;by_cases s:m.aV=0
  ·simp only[s,N3,MH,N0] at h;by_cases g:(m.code.length:Int)=0
   ·simp only[g,N3,Mz,A0] at h;cases h;cases a
   by_cases t:(60:Int)<(m.code.length:Int)
   ·simp only[g,t,N3,N4,Mz,N0,A0] at h;cases h;cases a
   simp only[g,t,N4,N0,A0] at h;obtain⟨o,v,B⟩:=vz N w k m y A m.code 0;rw[v] at h;simp only[A0] at h;cases o with
   |next u=>exact⟨d9,d9,d9,B rfl⟩
   |ret r =>
    have h:some r=some f:=h;cases h;exfalso;have key:∀(l:List Ins) (j:Nat) (r:cr),U6 N w k m l j=some (.ret r)->r.err≠0:=by
     intro l
     induction l with
     |nil=>intro j r h;rw[U6] at h;cases h
     |cons x l ih =>
      intro j r h;obtain⟨q,C⟩:=zu N w k m x y A;rw[U6,C] at h;simp only[A0] at h;by_cases i:q=0
      ·simp only[i,N3,MH,N0] at h;exact ih _ _ h
      ·simp only[i,N4,MQ,Mz] at h;cases h;exact i
    exact key _ _ _ v a
  ·simp only[s,N4,MQ,Mz] at h;cases h;cases a
def d66 {N:Nat} {w:Wd} (e:1048578<=N) (l:w.a7.length<=1048576) (h:I6 N w) {k:Nat} {c:Cl} (g:w.a7[k]?=some c) {m:Me} (j:m∈c.aB):zQ N w (k:Int) m:=by
 rcases(h.al k c g).2.2.2 m j with⟨_,p,_,_,_,a,b,d⟩|⟨f,a,b⟩
 ·exact⟨d9,d9,by rw[d];simp,by rw[d];intro i hi;cases hi⟩
 ·exact JK N w k m f e l a b
structure Leafy (x:Me):Prop where
 args:0<=x.args/\x.args<=4
 a8:0<=x.a8/\x.a8<=6
 len:x.code.length<=60
 op:∀i∈x.code,1<=i.op/\i.op<=17
 jump:∀i∈x.code,(i.op=15\/i.op=16)->0<=i.a/\i.a<x.code.length
def put_eq (N:Nat) (w:Wd) (m:Me) (out:List Ins) (t:Int) (aH fix:List Int) (op a b c:Int) (h:out.length<=1000000) :
  G5 N (⟨w,m,out,t,aH,fix⟩:fV) op a b c=some ⟨w,m,out++[⟨op,a,b,c,BY⟩],t,aH,fix⟩:=by
 unfold G5;rw[F6 L6];rfl
def Q7 (y:Me):Nat:=3+y.args.toNat+2*y.a8.toNat+y.code.length
def size_eq (N:Nat) (y:Me) (a:Leafy y):pJ N y=some ((Q7 y:Nat):Int):=by
 unfold pJ Q7;have e:=a.args;have f:=a.a8;have g:=a.len;have e1:wr (3+y.args)=3+y.args:=q9 ino;have b:wr (2*y.a8)=2*y.a8:=q9 ino;have c:wr (3+y.args+2*y.a8)=3+y.args+2*y.a8:=q9 ino;have d:wr (3+y.args+2*y.a8+(y.code.length:Int))=3+y.args+2*y.a8+y.code.length:=q9 ino;rw[e1,b,c,d];congr 1;omega
theorem A5 (N:Nat) (w:Wd) (l:w.a7.length<=1048576):∀(n:Nat) (k:Nat) (c a:Int),k<=w.a7.length+1->w.a7.length+1-k<n ->
  ow N w n c a (k:Int)=some ((bf w (w.a7.length+1-k) c).foldl (fun n k=>match w.a7[k.toNat]? with|some x=>wr (n+x.aG)|none=>n) a)
 |0,k,c,a,_,h=>d9
 |n+1,k,c,a,p,q=>by
  rw[ow];by_cases b:0<=c
  ·by_cases f:c<w.a7.length
   ·obtain⟨x,i,g⟩:=db b f;by_cases o:k<=w.a7.length
    ·have d:(k:Int)<=(w.a7.length:Int):=d9;have e:w.a7.length+1-k=(w.a7.length-k)+1:=d9;have wk:wr ((k:Int)+1)=((k+1:Nat):Int):=by rw[q9 ino];omega
     simp only[b,f,d,N3,Mz,A0,g,wk];rw[A5 N w l n (k+1) _ _ d9 d9,e,bf,N2 b,i];simp only[List.foldl_cons,i];rw[show w.a7.length+1-(k+1)=w.a7.length-k by omega]
    ·have d:¬(k:Int)<=(w.a7.length:Int):=d9;have e:w.a7.length+1-k=0:=d9;simp only[b,f,d,N3,N4,Mz,N0,A0,e];rfl
   ·have i:w.a7[c.toNat]?=none:=yB f;simp only[b,f,N3,N4,Mz,N0,A0];cases j:w.a7.length+1-k with
    |zero=>rfl
    |succ m=>rw[bf,N2 b,i];rfl
  ·simp only[b,N4,N0,A0];cases j:w.a7.length+1-k with
   |zero=>rfl
   |succ m=>rw[bf,N1 b];rfl
def ou (N:Nat) (w:Wd) (c:Int) (b:1048578<=N) (a:w.a7.length<=1048576):iI N w c=some (p8 w c):=by
 unfold iI p8;have h:=A5 N w a N 0 c 0 d9 d9;simp only[Nat.sub_zero,Int.ofNat_zero] at h;rw[h];rfl
theorem zY (N:Nat) (s:ByteArray):∀(n k:Nat),n+k=s.size->nF N s n k=some (if(s.data.toList.drop k).all en=true then .next () else .ret false)
 |0,k,h=>by
  rw[List.drop_eq_nil_of_le (by rw[show s.data.toList.length=s.size from rfl];omega)];rfl
 |n+1,k,h=>by
  have f:k<s.data.toList.length:=by rw[show s.data.toList.length=s.size from rfl];omega
  rw[nF,List.drop_eq_getElem_cons f,DM,IS f,zY N s n (k+1) d9];simp only[A0,List.all_cons];generalize s.data.toList[k]=u;generalize s.data.toList.drop (k+1)=b;by_cases d:(u.toNat:Int)<=32
  ·have a:(u.toNat:Int)<33:=d9;have e:en u=false:=by simp[en,a]
   simp only[d,e,N3,Mz,A0,Bool.false_and];rfl
  ·have a:¬(u.toNat:Int)<33:=d9;by_cases c:126<(u.toNat:Int)
   ·have e:en u=false:=(by simp only[en,a,c,N3,N4,MH,Bool.and_false]);simp only[d,c,e,N3,N4,Mz,N0,A0,Bool.false_and];rfl
   ·have e:en u=true:=(by simp only[en,a,c,N4,MQ,Bool.and_true]);simp only[d,c,e,N4,N0,A0,Bool.true_and]
def qu (N:Nat) (s:ByteArray):kE N s=some (Y1 s):=by
 unfold kE Y1;have e:((s.size:Int)-((0:Nat):Int)).toNat=s.size:=d9;rw[e,zY N s s.size 0 d9,List.drop_zero];by_cases c:(s.size:Int)<1
 ·have a:¬0<s.size:=d9;simp[c,a]
 ·have a:0<s.size:=d9;by_cases d:(12:Int)<(s.size:Int)
  ·have b:¬s.size<=12:=d9;simp[c,d,b]
  ·have b:s.size<=12:=d9;cases h:s.data.toList.all en<;>simp[c,d,a,b]
theorem ur {w:Wd} (c:∀x∈w.a7,0<=x.aG/\x.aG<=6):∀(l:List Int) (a:Int),0<=a->a+6*l.length<=100000000 ->
  0<=l.foldl (fun n k=>match w.a7[k.toNat]? with|some x=>wr (n+x.aG)|none=>n) a/\l.foldl (fun n k=>match w.a7[k.toNat]? with|some x=>wr (n+x.aG)|none=>n) a<=a+6*l.length
 |[],a,b,d=>⟨by simpa using b,l9⟩
 |k::l,a,b,d=>by
  simp only[List.foldl_cons,ML] at d⊢;cases e:w.a7[k.toNat]? with
  |none =>
   have:=ur c l a b d9;simp only;omega
  |some x =>
   have:=c x (MP e);simp only;rw[q9 ino];have:=ur c l (a+x.aG) d9 d9;omega
def kH {w:Wd} (a:∀x∈w.a7,0<=x.aG/\x.aG<=6) (b:w.a7.length<=1048576) (c:Int):0<=p8 w c/\p8 w c<=1000000000:=by
 have hl:=vL w (w.a7.length+1) c;have:=ur a (bf w (w.a7.length+1) c) 0 d9 d9;unfold p8;exact⟨this.1,Int.le_trans this.2 d9⟩
def fW (w:Wd) (c:Int) (m:Me) (i:Ins):Option Bool :=
 if i.op=1\/i.op=6\/i.op=7\/i.op=8\/i.op=9\/i.op=10\/i.op=17 then some (decide (i.a=0))
 else if i.op=2 then some (decide (0<=i.a) && decide (i.a<m.args))
 else if i.op=3\/i.op=11 then some (decide (0<=i.a) && decide (i.a<m.a8))
 else if i.op=4\/i.op=12 then some (decide (0<=i.a) && decide (i.a<p8 w c))
 else if i.op=5 then some (decide (-1073741824<=i.a) && decide (i.a<=1073741824))
 else if i.op=13 then some (decide (i.a=0) || (decide (4<=i.a) && decide (i.a<w.a7.length)))
 else if i.op=14 then some (decide (0<=i.a) && decide (i.a<5))
 else if i.op=15\/i.op=16 then some (decide (0<=i.a) && decide (i.a<m.code.length))
 else none
def jq (i:Ins):Bool:=(decide (i.op=14) && !Y1 i.name) || (!decide (i.op=14) && !decide (i.name=(⟨#[]⟩:ByteArray))) || !decide (i.b=0) || !decide (i.c=0)
def bp (w:Wd) (c:Int) (m:Me) (i:Ins):Int:=match fW w c m i with
 |none=>1
 |some ok=>if ok=true then(if jq i=true then 2 else 0) else 3
def Fv (N:Nat) (a b:Int):kB N a b=some (decide (0<=a) && decide (a<b)):=by
 unfold kB;by_cases h:0<=a<;>simp[h]
def Ez (N:Nat) (w:Wd) (c:Int) (m:Me) (i:Ins) (L:1048578<=N) (O:w.a7.length<=1048576):rR N w c m i=some (bp w c m i):=by
 unfold rR bp fW jq;simp only[ou N w c L O,qu,Fv,A0];generalize decide (i.b=0)=B;generalize decide (i.c=0)=C;generalize decide (i.name=(⟨#[]⟩:ByteArray))=E;generalize decide (i.a=0)=d;generalize decide (0<=i.a)=e;generalize decide (i.a<m.args)=F;generalize decide (i.a<m.a8)=q;generalize decide (i.a<p8 w c)=r;generalize decide (-1073741824<=i.a)=G;generalize decide (i.a<=1073741824)=H;generalize decide (4<=i.a)=I;generalize decide (i.a<(w.a7.length:Int))=J;generalize decide (i.a<5)=K;generalize decide (i.a<(m.code.length:Int))=f;generalize Y1 i.name=M;by_cases s:i.op=1
 ·simp only[s];cases d<;>cases B<;>cases C<;>cases E<;>simp
 by_cases y:i.op=6
 ·simp only[y];cases d<;>cases B<;>cases C<;>cases E<;>simp
 by_cases z:i.op=7
 ·simp only[z];cases d<;>cases B<;>cases C<;>cases E<;>simp
 by_cases A:i.op=8
 ·simp only[A];cases d<;>cases B<;>cases C<;>cases E<;>simp
 by_cases D:i.op=9
 ·simp only[D];cases d<;>cases B<;>cases C<;>cases E<;>simp
 by_cases g:i.op=10
 ·simp only[g];cases d<;>cases B<;>cases C<;>cases E<;>simp
 by_cases p:i.op=17
 ·simp only[p];cases d<;>cases B<;>cases C<;>cases E<;>simp
 by_cases t:i.op=2
 ·simp only[t];cases e<;>cases F<;>cases B<;>cases C<;>cases E<;>simp
 by_cases u:i.op=3
 ·simp only[u];cases e<;>cases q<;>cases B<;>cases C<;>cases E<;>simp
 by_cases h:i.op=11
 ·simp only[h];cases e<;>cases q<;>cases B<;>cases C<;>cases E<;>simp
 by_cases v:i.op=4
 ·simp only[v];cases e<;>cases r<;>cases B<;>cases C<;>cases E<;>simp
 by_cases j:i.op=12
 ·simp only[j];cases e<;>cases r<;>cases B<;>cases C<;>cases E<;>simp
 by_cases x:i.op=5
 ·simp only[x];cases G<;>cases H<;>cases B<;>cases C<;>cases E<;>simp
 by_cases k:i.op=13
 ·simp only[k];cases d<;>cases I<;>cases J<;>cases B<;>cases C<;>cases E<;>simp
 by_cases l:i.op=14
 ·simp only[l];cases e<;>cases K<;>cases B<;>cases C<;>cases M<;>simp
 by_cases n:i.op=15
 ·simp only[n];cases e<;>cases f<;>cases B<;>cases C<;>cases E<;>simp
 by_cases o:i.op=16
 ·simp only[o];cases e<;>cases f<;>cases B<;>cases C<;>cases E<;>simp
 simp[s,y,z,A,D,g,p,t,u,h,v,j,x,k,l,n,o]
def AD (N:Nat) (w:Wd) (c:Int) (m:Me) (i:Ins) (I:1048578<=N) (J:w.a7.length<=1048576) (hl:1<=w.a7.length) (O:0<=m.args/\m.args<=1000) (Q:0<=m.a8/\m.a8<=1000)
  (K:0<=p8 w c/\p8 w c<=1000000000) (P:m.code.length<=1048576):J5 N w c m i=some (bp w c m i):=by
 unfold J5 bp fW jq;simp only[kx N w c I J,kA,A0,q9 (show I5 (m.args-1) by unfold I5;omega),q9 (show I5 (m.a8-1) by unfold I5;omega),q9 (show I5 (p8 w c-1) by unfold I5;omega),
  q9 (show I5 ((w.a7.length:Int)-1) by unfold I5;omega),q9 (show I5 ((m.code.length:Int)-1) by unfold I5;omega)]
 by_cases o:i.op=13
 ·have L:(!decide (i.op=14))=true:=by rw[o];rfl
  simp only[o];rcases(by omega:i.a<0\/i.a=0\/(0<i.a/\i.a<4)\/4<=i.a) with h|h|h|h
  ·simp[h,show¬i.a=0 by omega,show¬0<i.a by omega,show¬4<=i.a by omega]
  ·have G:¬((w.a7.length:Int)-1<0):=d9;have q:¬((w.a7.length:Int)<1):=d9;generalize decide (i.b=0)=B;generalize decide (i.c=0)=C;generalize decide (i.name=(⟨#[]⟩:ByteArray))=E;simp only[h];cases B<;>cases C<;>cases E<;>simp[G]
  ·simp[h.1,h.2,show¬i.a=0 by omega,show¬4<=i.a by omega]
  ·have G:¬i.a<4:=d9;have q:¬i.a<0:=d9;have r:¬i.a=0:=d9;have s:0<i.a:=d9;generalize decide (i.b=0)=B;generalize decide (i.c=0)=C;generalize decide (i.name=(⟨#[]⟩:ByteArray))=E;by_cases H:i.a<(w.a7.length:Int)
   ·have p:¬((w.a7.length:Int)-1<i.a):=d9;cases B<;>cases C<;>cases E<;>simp[G,q,r,s,h,H,p]
   ·have p:((w.a7.length:Int)-1<i.a):=d9;simp[G,q,r,s,h,H,p]
 generalize decide (i.b=0)=B;generalize decide (i.c=0)=C;generalize decide (i.name=(⟨#[]⟩:ByteArray))=E;generalize Y1 i.name=M;by_cases t:i.op=1
 ·rcases Int.lt_trichotomy i.a 0 with h|h|h
  ·simp[t,h,show¬i.a=0 by omega]
  ·cases B<;>cases C<;>cases E<;>simp[t,h]
  ·simp[t,h,show¬i.a<0 by omega,show¬i.a=0 by omega]
 by_cases z:i.op=6
 ·rcases Int.lt_trichotomy i.a 0 with h|h|h
  ·simp[z,h,show¬i.a=0 by omega]
  ·cases B<;>cases C<;>cases E<;>simp[z,h]
  ·simp[z,h,show¬i.a<0 by omega,show¬i.a=0 by omega]
 by_cases A:i.op=7
 ·rcases Int.lt_trichotomy i.a 0 with h|h|h
  ·simp[A,h,show¬i.a=0 by omega]
  ·cases B<;>cases C<;>cases E<;>simp[A,h]
  ·simp[A,h,show¬i.a<0 by omega,show¬i.a=0 by omega]
 by_cases D:i.op=8
 ·rcases Int.lt_trichotomy i.a 0 with h|h|h
  ·simp[D,h,show¬i.a=0 by omega]
  ·cases B<;>cases C<;>cases E<;>simp[D,h]
  ·simp[D,h,show¬i.a<0 by omega,show¬i.a=0 by omega]
 by_cases F:i.op=9
 ·rcases Int.lt_trichotomy i.a 0 with h|h|h
  ·simp[F,h,show¬i.a=0 by omega]
  ·cases B<;>cases C<;>cases E<;>simp[F,h]
  ·simp[F,h,show¬i.a<0 by omega,show¬i.a=0 by omega]
 by_cases e:i.op=10
 ·rcases Int.lt_trichotomy i.a 0 with h|h|h
  ·simp[e,h,show¬i.a=0 by omega]
  ·cases B<;>cases C<;>cases E<;>simp[e,h]
  ·simp[e,h,show¬i.a<0 by omega,show¬i.a=0 by omega]
 by_cases n:i.op=17
 ·rcases Int.lt_trichotomy i.a 0 with h|h|h
  ·simp[n,h,show¬i.a=0 by omega]
  ·cases B<;>cases C<;>cases E<;>simp[n,h]
  ·simp[n,h,show¬i.a<0 by omega,show¬i.a=0 by omega]
 by_cases u:i.op=2
 ·by_cases h:0<=i.a
  ·by_cases d:i.a<m.args
   ·cases B<;>cases C<;>cases E<;>simp[u,h,d,show¬i.a<0 by omega,show¬(m.args-1<i.a) by omega]
   ·simp[u,h,d,show¬i.a<0 by omega,show(m.args-1<i.a) by omega]
  ·simp[u,h,show i.a<0 by omega]
 by_cases v:i.op=3
 ·by_cases h:0<=i.a
  ·by_cases d:i.a<m.a8
   ·cases B<;>cases C<;>cases E<;>simp[v,h,d,show¬i.a<0 by omega,show¬(m.a8-1<i.a) by omega]
   ·simp[v,h,d,show¬i.a<0 by omega,show(m.a8-1<i.a) by omega]
  ·simp[v,h,show i.a<0 by omega]
 by_cases f:i.op=11
 ·by_cases h:0<=i.a
  ·by_cases d:i.a<m.a8
   ·cases B<;>cases C<;>cases E<;>simp[f,h,d,show¬i.a<0 by omega,show¬(m.a8-1<i.a) by omega]
   ·simp[f,h,d,show¬i.a<0 by omega,show(m.a8-1<i.a) by omega]
  ·simp[f,h,show i.a<0 by omega]
 by_cases x:i.op=4
 ·by_cases h:0<=i.a
  ·by_cases d:i.a<p8 w c
   ·cases B<;>cases C<;>cases E<;>simp[x,h,d,show¬i.a<0 by omega,show¬(p8 w c-1<i.a) by omega]
   ·simp[x,h,d,show¬i.a<0 by omega,show(p8 w c-1<i.a) by omega]
  ·simp[x,h,show i.a<0 by omega]
 by_cases g:i.op=12
 ·by_cases h:0<=i.a
  ·by_cases d:i.a<p8 w c
   ·cases B<;>cases C<;>cases E<;>simp[g,h,d,show¬i.a<0 by omega,show¬(p8 w c-1<i.a) by omega]
   ·simp[g,h,d,show¬i.a<0 by omega,show(p8 w c-1<i.a) by omega]
  ·simp[g,h,show i.a<0 by omega]
 by_cases y:i.op=5
 ·by_cases h:-1073741824<=i.a
  ·by_cases d:i.a<=1073741824
   ·cases B<;>cases C<;>cases E<;>simp[y,h,d,show¬i.a < -1073741824 by omega,show¬(1073741824<i.a) by omega]
   ·simp[y,h,d,show¬i.a < -1073741824 by omega,show(1073741824<i.a) by omega]
  ·simp[y,h,show i.a < -1073741824 by omega]
 by_cases j:i.op=14
 ·by_cases h:0<=i.a
  ·by_cases d:i.a<5
   ·cases B<;>cases C<;>cases M<;>simp[j,h,d,show¬i.a<0 by omega,show¬(4<i.a) by omega]
   ·simp[j,h,d,show¬i.a<0 by omega,show(4<i.a) by omega]
  ·simp[j,h,show i.a<0 by omega]
 by_cases k:i.op=15
 ·by_cases h:0<=i.a
  ·by_cases d:i.a<(m.code.length:Int)
   ·cases B<;>cases C<;>cases E<;>simp[k,h,d,show¬i.a<0 by omega,show¬((m.code.length:Int)-1<i.a) by omega]
   ·simp[k,h,d,show¬i.a<0 by omega,show((m.code.length:Int)-1<i.a) by omega]
  ·simp[k,h,show i.a<0 by omega]
 by_cases l:i.op=16
 ·by_cases h:0<=i.a
  ·by_cases d:i.a<(m.code.length:Int)
   ·cases B<;>cases C<;>cases E<;>simp[l,h,d,show¬i.a<0 by omega,show¬((m.code.length:Int)-1<i.a) by omega]
   ·simp[l,h,d,show¬i.a<0 by omega,show((m.code.length:Int)-1<i.a) by omega]
  ·simp[l,h,show i.a<0 by omega]
 simp[t,u,v,x,y,z,A,D,F,e,f,g,o,j,k,l,n]
def I3 (N:Nat) (i:Ins) (p:Int) (h:i.op=14->0<=i.a/\i.a<=4):∃g,rZ N i=some ((R8 i p).1,g)/\wr (g-(R8 i p).1)=(R8 i p).2.1:=by
 unfold rZ R8;by_cases l:i.op=9
 ·exact⟨0,by simp[l],by simp[l];rw[q9 ino]⟩
 by_cases d:i.op=11
 ·exact⟨0,by simp[d],by simp[d];rw[q9 ino]⟩
 by_cases e:i.op=12
 ·exact⟨0,by simp[e],by simp[e];rw[q9 ino]⟩
 by_cases j:i.op=16
 ·exact⟨0,by simp[j],by simp[j];rw[q9 ino]⟩
 by_cases k:i.op=17
 ·exact⟨0,by simp[k],by simp[k];rw[q9 ino]⟩
 by_cases c:i.op=10
 ·exact⟨2,by simp[c],by simp[c];rw[q9 ino]⟩
 by_cases b:i.op=14
 ·have:=h b;exact⟨1,by simp[b],by simp[b];rw[q9 (show I5 (i.a+1) by unfold I5;omega),q9 ino];omega⟩
 by_cases f:i.op=15
 ·exact⟨0,by simp[f],by simp[f];rw[q9 ino]⟩
 exact⟨1,by simp[l,c,d,e,b,f,j,k],by simp[l,c,d,e,b,f,j,k];rw[q9 ino]⟩
theorem zx (N:Nat):∀(n k:Nat) (v:List Int),n+k=v.length->ky N n k v=some (v.take k++MI n (-1))
 |0,k,v,h=>by rw[ky,List.take_of_length_le d9];simp
 |n+1,k,v,h=>by
  have a:k<v.length:=d9;rw[ky,D7,IS a];simp only[A0,Mg];rw[zx N n (k+1) _ L6];congr 1;rw[List.take_add_one,List.take_set_of_le (It _),List.getElem?_set_self a,List.replicate_succ];simp
def eu (a:dp):Int×Int:=(a.f0,a.f1)
def gu (i:Ins) (p h:Int) (q:List dp):List dp :=
 let b:=if i.op=15\/i.op=17 then q else q++[⟨wr (p+1),h⟩]
 if i.op=15\/i.op=16 then b++[⟨i.a,h⟩] else b
def yC (i:Ins) (p h:Int) (q:List dp):(gu i p h q).map eu=q.map eu++(R8 i p).2.2.map fun x=>(x,h):=by
 unfold gu R8;by_cases e:i.op=15
 ·simp[e,eu]
 by_cases f:i.op=16
 ·simp[f,eu]
 by_cases g:i.op=17
 ·simp[g]
 by_cases j:i.op=9
 ·simp[j,eu]
 by_cases b:i.op=11
 ·simp[b,eu]
 by_cases c:i.op=12
 ·simp[c,eu]
 by_cases a:i.op=10
 ·simp[a,eu]
 by_cases d:i.op=14
 ·simp[d,eu]
 simp[e,f,g,j,b,c,a,d,eu]
theorem wO (N:Nat) (m:Me) (B:lg m) (I:m.code.length<=1048576):∀(n:Nat) (h:List Int) (q:List dp),q.length+2*kS h<=4194304->h.length=m.code.length ->
  ke (q.map eu)->mo N m n h q=bw m n h (q.map eu)
 |0,_,_,_,_,_=>rfl
 |n+1,h,[],_,_,_=>by
  rw[mo];simp[bw]
 |n+1,h,⟨p,x⟩::q,hb,hh,ho=>by
  rw[mo];have D:=ho (p,x) (by simp[eu]);have J:ke (q.map eu):=fun z c=>ho z (by rw[MS];exact Mr _ c);have l:(0:Int)<(((⟨p,x⟩:dp)::q).length:Int):=by simp only[ML];omega
  have K:(decide (0<=(1:Int)) && decide ((1:Int)<=(((⟨p,x⟩:dp)::q).length:Int)))=true:=by simp only[IT,NA,ML];omega
  have C:j4 ((⟨p,x⟩:dp)::q) (0:Int)=some ⟨p,x⟩:=rfl;have hd:((⟨p,x⟩:dp)::q).drop (1:Int).toNat=q:=rfl;simp only[ML] at hb;rw[MS,show eu ⟨p,x⟩=(p,x) from rfl,bw];simp only[l,N3,Mz,C,A0,K,hd];by_cases a:p<0
  ·simp only[a,N3,Mz,A0,or_true,if_true]
  by_cases E:(m.code.length:Int)<=p
  ·simp only[E,a,N3,N4,Mz,N0,A0,true_or,if_true]
  simp only[E,a,N4,N0,A0,or_self,if_false];have r:p.toNat<m.code.length:=d9;have o:0<=p:=d9;have e1:h[p.toNat]?=some (h[p.toNat]' d9):=IS d9;have u:m.code[p.toNat]?=some m.code[p.toNat]:=IS r;generalize h[p.toNat]' d9=y at e1;have hi:=B _ (List.getElem_mem r);generalize m.code[p.toNat]=i at u hi;have O:j4 h p=some y:=by rw[fB o,e1]
  have P:j4 m.code p=some i:=by rw[fB o,u]
  obtain⟨g,v,w⟩:=I3 N i p hi;simp only[O,P,e1,u,A0,v,w];by_cases F:0<=y
  ·simp only[F,N3,Mz,if_true];by_cases b:y=x
   ·simp only[b,N3,MH,N0,A0,if_true];exact wO N m B I n h q d9 hh J
   ·simp only[b,N4,MQ,Mz,A0,if_false]
  simp only[F,N4,N0,if_false];by_cases b:x<(R8 i p).1
  ·simp only[b,N3,Mz,A0,true_or,if_true]
  by_cases s:i.op=17/\x≠1
  ·simp only[b,s.1,s.2,N3,N4,Mz,N0,A0,MQ,or_true,if_true,ne_eq,not_false_eq_true,and_self]
  have M:((bif decide (i.op=(17:Int)) then some ((!decide (x=(1:Int)))) else some (false)):Option Bool)=some false:=by
   by_cases d:i.op=17
   ·by_cases G:x=1
    ·simp[G]
    ·exact absurd ⟨d,G⟩ s
   ·simp[d]
  simp only[b,s,M,N4,N0,A0,or_self,if_false];by_cases d:12<wr (x+(R8 i p).2.1)
  ·simp only[d,N3,Mz,A0,if_true]
  simp only[d,N4,N0,if_false];have k:=uX D.1 D.2 b d hi;have Q:=xQ (y:=x) e1 d9 D.1;have L:=yT i p;have A:=congrArg List.length (yC i p (wr (x+(R8 i p).2.1)) q);simp only[MW,MK] at A;have go:=wO N m B I n (h.set p.toNat x) (gu i p (wr (x+(R8 i p).2.1)) q) d9 (by simpa using hh) (by
   rw[yC];intro z c;rcases MT.1 c with c|c
   ·exact J z c
   ·obtain⟨z,_,rfl⟩:=MU.1 c;exact⟨k.1,k.2.1⟩)
  rw[yC] at go;rw[<-go];generalize wr (x+(R8 i p).2.1)=H;have t:IN ((q.length+1)*16) 140737488355328=true:=F6 d9;have c3:IN ((q.length+1+1)*16) 140737488355328=true:=F6 d9;unfold gu;by_cases e:i.op=15
  ·simp[e,t]
  by_cases f:i.op=16
  ·simp[f,t,c3]
  by_cases j:i.op=17
  ·simp[j]
  simp[e,f,j,t]
def FE (N:Nat) (m:Me) (c:lg m) (b:m.code.length<=1048576):rS N m=(bw m N (MI m.code.length (-1)) [(0,0)]).map qW:=by
 unfold rS;have e0:(decide (0<=(m.code.length:Int)) && decide ((m.code.length:Int)<=140737488355328) && decide ((m.code.length:Int)*8<=140737488355328))=true:=by
  simp only[IT,NA];omega
 have e1:(((MI (m.code.length:Int).toNat (0:Int)).length:Int)-((0:Nat):Int)).toNat=m.code.length:=l9;rw[e0,e1,zx N _ 0 _ l9];simp only[Mz,A0,List.take_zero,List.nil_append];have h:=wO N m c b N (MI m.code.length (-1)) [⟨0,0⟩] (by rw[uV];simp;omega) l9 (by
  intro q a;simp only[MS,List.map_nil,eu,MG,List.not_mem_nil,or_false] at a;subst a;decide)
 rw[h];show _=(bw m N (MI m.code.length (-1)) [(0,0)]).map qW;rw[show([(⟨0,0⟩:dp)].map eu)=[((0:Int),(0:Int))] from rfl];cases bw m N (MI m.code.length (-1)) [(0,0)] with
 |none=>rfl
 |some o=>cases o<;>rfl
structure tS (m:Me) (h:List Int) (q:List (Int×Int)):Prop where
 len:h.length=m.code.length
 aH:∀(k:Nat) (y:Int) (i:Ins),h[k]?=some y->0<=y->m.code[k]?=some i->(R8 i k).1<=y/\y<=12/\(i.op=17->y=1)/\0<=wr (y+(R8 i k).2.1) /\
  ∀to∈(R8 i k).2.2,(to,wr (y+(R8 i k).2.1))∈q\/(0<=to/\h[to.toNat]?=some (wr (y+(R8 i k).2.1)))
theorem yO (m:Me) (P:lg m):∀(n:Nat) (h:List Int) (q:List (Int×Int)) (l:List Int),bw m n h q=some (.next l)->tS m h q->ke q ->
  tS m l []/\(∀(k:Nat) y,h[k]?=some y->0<=y->l[k]?=some y)/\∀z∈q,0<=z.1/\l[z.1.toNat]?=some z.2
 |0,h,q,l,e,_,_=>by cases e
 |n+1,h,[],l,e,hi,_=>by
  rw[bw] at e;cases e;exact⟨hi,fun _ _ h _=>h,fun z a=>by cases a⟩
 |n+1,h,(p,x)::r,l,e,hi,ho=>by
  rw[bw] at e;have D:=ho (p,x) l9;have T:ke r:=fun z a=>ho z (by simp[a]);by_cases R:(m.code.length:Int)<=p\/p<0
  ·rw[N2 R] at e;cases e
  rw[N1 R] at e;have hl:=hi.len;have S:p.toNat<m.code.length:=d9;have B:0<=p:=d9;have e1:h[p.toNat]?=some (h[p.toNat]' d9):=IS d9;have L:m.code[p.toNat]?=some m.code[p.toNat]:=IS S;generalize h[p.toNat]' d9=y at e1;have v:=P _ (List.getElem_mem S);generalize m.code[p.toNat]=i at L v;rw[e1,L] at e;simp only at e;by_cases C:0<=y
  ·rw[N2 C] at e;by_cases o:y=x
   ·rw[N2 o] at e;subst o;obtain⟨E,s,F⟩:=yO m P n h r l e ⟨hl,fun k z j g a A=>by
     obtain⟨G,H,I,J,K⟩:=hi.aH k z j g a A;refine⟨G,H,I,J,fun to f=>?_⟩;rcases K to f with c|c
     ·rcases MG.1 c with c|c
      ·have t:=congrArg Prod.fst c;have u:=congrArg Prod.snd c;simp only at t u;exact .inr ⟨d9,by rw[t,u];exact e1⟩
      ·exact .inl c
     ·exact .inr c⟩ T
    exact⟨E,s,fun z a=>by
     rcases MG.1 a with rfl|a
     ·exact⟨B,s _ _ e1 C⟩
     ·exact F z a⟩
   ·rw[N1 o] at e;cases e
  rw[N1 C] at e;by_cases o:x<(R8 i p).1\/(i.op=17/\x≠1)
  ·rw[N2 o] at e;cases e
  rw[N1 o] at e;by_cases N:12<wr (x+(R8 i p).2.1)
  ·rw[N2 N] at e;cases e
  rw[N1 N] at e;have O:=uX D.1 D.2 (fun h=>o (MF h)) N v;have Q:((p.toNat:Nat):Int)=p:=d9;have d:(h.set p.toNat x)[p.toNat]?=some x:=List.getElem?_set_self d9;obtain⟨E,s,F⟩:=yO m P n (h.set p.toNat x) _ l e ⟨by simpa using hl,fun k z j g a A=>by
   by_cases b:k=p.toNat
   ·subst b;rw[d] at g;cases g;rw[L] at A;cases A;rw[Q];refine⟨by have:¬x<(R8 i p).1:=fun h=>o (MF h);omega,D.2,fun M=>Decidable.byContradiction fun h=>o (Or.inr ⟨M,h⟩),O.1,fun to f=>.inl ?_⟩;exact List.mem_append_right _ (MU.2 ⟨to,f,rfl⟩)
   ·rw[List.getElem?_set_ne (fun h=>b h.symm)] at g;obtain⟨G,H,I,J,K⟩:=hi.aH k z j g a A;refine⟨G,H,I,J,fun to f=>?_⟩;rcases K to f with c|c
    ·rcases MG.1 c with c|c
     ·have t:=congrArg Prod.fst c;have u:=congrArg Prod.snd c;simp only at t u;exact .inr ⟨d9,by rw[t,u];exact d⟩
     ·exact .inl (List.mem_append_left _ c)
    ·refine .inr ⟨c.1,?_⟩;by_cases U:to.toNat=p.toNat
     ·rw[U,e1] at c;have:=Option.some.inj c.2;omega
     ·rw[List.getElem?_set_ne (fun h=>U h.symm)];exact c.2⟩ (fun z a=>by
   rcases MT.1 a with a|a
   ·exact T z a
   ·obtain⟨w,_,rfl⟩:=MU.1 a;exact⟨O.1,O.2.1⟩)
  refine⟨E,fun k z g a=>?_,fun z a=>?_⟩
  ·by_cases b:k=p.toNat
   ·subst b;rw[e1] at g;cases g;exact absurd a C
   ·exact s k z (by rw[List.getElem?_set_ne (fun h=>b h.symm)];exact g) a
  ·rcases MG.1 a with rfl|a
   ·exact⟨B,s _ _ d D.1⟩
   ·exact F z (List.mem_append_left _ a)
theorem DT (m:Me):∀(n:Nat) (h:List Int) (q:List (Int×Int)) (r:List Int×cr),bw m n h q=some (.ret r)->r.2.err≠0
 |0,h,q,r,e=>by cases e
 |n+1,h,[],r,e=>by rw[bw] at e;cases e
 |n+1,h,(p,x)::l,r,e=>by
  rw[bw] at e
  (repeat' split at e)<;>first|(cases e;done)|(cases e;simp;done)|exact DT m n _ _ r e
def KJ (m:Me):tS m (MI m.code.length (-1)) [(0,0)] :=
 ⟨l9,fun k y i a b _=>by
  rw[List.getElem?_replicate] at a;split at a
  ·cases a;omega
  ·cases a⟩
def DB : ke [(0,0)]:=by
 intro q a;simp only[MG,List.not_mem_nil,or_false] at a;subst a;decide
def dK (w:Wd) (c:Int) (m:Me):List Ins->Nat->H9 cr Unit
 |[],_=>.next ()
 |i::l,k=>if bp w c m i=0 then dK w c m l (k+1) else .ret ⟨bp w c m i,k⟩
theorem pa {w:Wd} {c:Int} {m:Me}:∀{l:List Ins} {k:Nat},dK w c m l k=.next ()->∀i∈l,bp w c m i=0
 |[],_,_,i,hi=>by cases hi
 |x::l,k,h,i,hi=>by
  rw[dK] at h;split at h
  ·rename_i a;rcases MG.1 hi with rfl|hi
   ·exact a
   ·exact pa h i hi
  ·cases h
theorem Ck {w:Wd} {c:Int} {m:Me}:∀{l:List Ins} {k:Nat} {r:cr},dK w c m l k=.ret r->r.err≠0
 |[],_,_,h=>by cases h
 |x::l,k,r,h=>by
  rw[dK] at h;split at h
  ·exact Ck h
  ·rename_i a;cases h;exact a
def uK {w:Wd} {c:Int} {m:Me} {i:Ins} (h:bp w c m i=0) (e:i.op=14):0<=i.a/\i.a<=4:=by
 unfold bp fW at h;simp only[e] at h;by_cases b:0<=i.a
 ·by_cases d:i.a<5
  ·omega
  ·simp[b,d] at h
 ·simp[b] at h
def aj (N:Nat) (w:Wd) (c:Int) (m:Me):Option cr :=
 if c<0\/(w.a7.length:Int)<=c then some ⟨6,0⟩ else if Y1 m.name=false then some ⟨7,0⟩
 else if m.args<0\/4<m.args\/m.a8<0\/6<m.a8 then some ⟨3,0⟩ else if m.aV≠0 then some ⟨1,0⟩
 else if m.code.length<1\/60<m.code.length then some ⟨5,0⟩ else match dK w c m m.code 0 with
  |.ret r=>some r
  |.next ()=>((bw m N (MI m.code.length (-1)) [(0,0)]).map qW).map (·.2)
theorem zX (N:Nat) (w:Wd) (c:Int) (m:Me) (a:1048578<=N) (b:w.a7.length<=1048576):∀(l:List Ins) (k:Nat),nC N w c m l k=some (dK w c m l k)
 |[],k=>rfl
 |x::l,k=>by
  rw[nC,dK,Ez N w c m x a b];simp only[A0];by_cases h:bp w c m x=0
  ·simp only[h,N3,MH,N0,if_true];exact zX N w c m a b l (k+1)
  ·simp only[h,N4,MQ,Mz,if_false]
def Ap (N:Nat) (w:Wd) (c:Int) (m:Me) (p:1048578<=N) (t:w.a7.length<=1048576):pU N w c m=aj N w c m:=by
 unfold pU aj;simp only[qu,A0,zX N w c m p t];by_cases a:c<0
 ·simp[a]
 by_cases d:(w.a7.length:Int)<=c
 ·simp[a,d]
 cases v:Y1 m.name with
 |false=>simp[a,d]
 |true =>
  by_cases f:m.args<0
  ·simp[a,d,f]
  by_cases g:4<m.args
  ·simp[a,d,f,g]
  by_cases h:m.a8<0
  ·simp[a,d,f,g,h]
  by_cases k:6<m.a8
  ·simp[a,d,f,g,h,k]
  by_cases l:m.aV=0
  ·by_cases n:m.code.length<1
   ·have e:(m.code.length:Int)<1:=d9;simp only[a,d,f,g,h,k,l,n,e,N3,N4,Mz,N0,A0,or_self,if_false,MH,MQ,or_true,true_or,if_true,ne_eq,not_true,not_false_eq_true,Bool.true_eq_false]
   ·have e:¬(m.code.length:Int)<1:=d9;by_cases j:60<m.code.length
    ·have b:(60:Int)<(m.code.length:Int):=d9;simp only[a,d,f,g,h,k,l,n,e,j,b,N3,N4,Mz,N0,A0,or_self,if_false,MH,MQ,or_true,true_or,if_true,ne_eq,not_true,not_false_eq_true,Bool.true_eq_false]
    ·have b:¬(60:Int)<(m.code.length:Int):=d9;simp only[a,d,f,g,h,k,l,n,e,j,b,N3,N4,Mz,N0,A0,or_self,if_false,MH,MQ,ne_eq,not_true,not_false_eq_true,Bool.true_eq_false];cases q:dK w c m m.code 0 with
     |ret r=>rfl
     |next u =>
      simp only[FE N m (fun i hi s=>uK (pa q i hi) s) d9];generalize (bw m N (MI m.code.length (-1)) [(0,0)]).map qW=o;cases o<;>rfl
  ·simp[a,d,f,g,h,k,l]
structure yv (N:Nat) (w:Wd) (c:Int) (m:Me):Prop where
 cls:0<=c/\c<w.a7.length
 name:Y1 m.name=true
 args:0<=m.args/\m.args<=4
 a8:0<=m.a8/\m.a8<=6
 aV:m.aV=0
 len:1<=m.code.length/\m.code.length<=60
 num:∀i∈m.code,bp w c m i=0
 neg:lg m
 bw:∃h,bw m N (MI m.code.length (-1)) [(0,0)]=some (.next h)
def Bo {N:Nat} {w:Wd} {c:Int} {m:Me} {f:cr} (h:aj N w c m=some f) (a:f.err=0):yv N w c m:=by
 unfold aj at h;by_cases g:c<0\/(w.a7.length:Int)<=c
 ·rw[N2 g] at h;cases h;cases a
 rw[N1 g] at h;by_cases j:Y1 m.name=false
 ·rw[N2 j] at h;cases h;cases a
 rw[N1 j] at h;by_cases k:m.args<0\/4<m.args\/m.a8<0\/6<m.a8
 ·rw[N2 k] at h;cases h;cases a
 rw[N1 k] at h;by_cases e:m.aV≠0
 ·rw[N2 e] at h;cases h;cases a
 rw[N1 e] at h;by_cases l:m.code.length<1\/60<m.code.length
 ·rw[N2 l] at h;cases h;cases a
 rw[N1 l] at h;cases b:dK w c m m.code 0 with
 |ret r=>rw[b] at h;cases h;exact absurd a (Ck b)
 |next u =>
  rw[b] at h;simp only at h;refine⟨d9,by cases p:Y1 m.name<;>simp_all,d9,d9,Decidable.byContradiction e,d9,fun i hi=>pa b i hi,fun i hi d=>uK (pa b i hi) d,?_⟩;cases d:Go.Proofs.YtibjcppjfkamhaaGreatDoor.bw m N (MI m.code.length (-1)) [(0,0)] with
  |none=>rw[d] at h;cases h
  |some o =>
   rw[d] at h;cases o with
   |ret r=>cases h;exact absurd a (DT m _ _ _ _ d)
   |next n=>exact⟨n,rfl⟩
def wJ (N:Nat) (w:Wd) (c:Int) (m:Me) (e:4194304<=N):∃f,aj N w c m=some f:=by
 unfold aj
 (repeat' split)<;>first|exact⟨_,rfl⟩|skip
 rename_i d _ _ b;obtain⟨o,a⟩:=vF m (fun i hi a=>uK (pa b i hi) a) N (MI m.code.length (-1)) [(0,0)] l9 DB (by rw[uV];simp;omega);rw[a];exact⟨_,rfl⟩
theorem zy (N:Nat) (w:Wd) (c:Int) (m:Me) (a:∀i,J5 N w c m i=some (bp w c m i)):∀(l:List Ins) (k:Nat),U6 N w c m l k=some (dK w c m l k)
 |[],k=>rfl
 |x::l,k=>by
  rw[U6,dK,a x];simp only[A0];by_cases h:bp w c m x=0
  ·simp only[h,N3,MH,N0,if_true];exact zy N w c m a l (k+1)
  ·simp only[h,N4,MQ,Mz,if_false]
def oq (N:Nat) (w:Wd) (c:Int) (m:Me) (q:1048578<=N) (x:w.a7.length<=1048576) (p:0<=p8 w c/\p8 w c<=1000000000):ic N w c m=aj N w c m:=by
 unfold ic aj;simp only[kA,A0];by_cases a:c<0
 ·simp[a]
 by_cases d:(w.a7.length:Int)<=c
 ·simp[a,d]
 cases y:Y1 m.name with
 |false=>simp[a,d]
 |true =>
  by_cases f:m.args<0
  ·simp[a,d,f]
  by_cases g:4<m.args
  ·simp[a,d,f,g]
  by_cases h:m.a8<0
  ·simp[a,d,f,g,h]
  by_cases k:6<m.a8
  ·simp[a,d,f,g,h,k]
  by_cases l:m.aV=0
  ·by_cases n:m.code.length<1
   ·have e:(m.code.length:Int)=0:=d9;simp only[a,d,f,g,h,k,l,n,e,N3,N4,Mz,N0,A0,or_self,if_false,MH,MQ,or_true,true_or,if_true,ne_eq,not_true,not_false_eq_true,Bool.true_eq_false]
   ·have e:¬(m.code.length:Int)=0:=d9;by_cases j:60<m.code.length
    ·have b:(60:Int)<(m.code.length:Int):=d9;simp only[a,d,f,g,h,k,l,n,e,j,b,N3,N4,Mz,N0,A0,or_self,if_false,MH,MQ,or_true,true_or,if_true,ne_eq,not_true,not_false_eq_true,Bool.true_eq_false]
    ·have b:¬(60:Int)<(m.code.length:Int):=d9;have t:∀i,J5 N w c m i=some (bp w c m i):=fun i=>AD N w c m i q x d9 d9 d9 p d9;simp only[a,d,f,g,h,k,l,n,e,j,b,N3,N4,N0,A0,or_self,if_false,MH,ne_eq,not_true,Bool.true_eq_false,zy N w c m t];cases s:dK w c m m.code 0 with
     |ret r=>rfl
     |next u =>
      simp only[AB N m (fun i hi v=>uK (pa s i hi) v) d9];generalize (bw m N (MI m.code.length (-1)) [(0,0)]).map qW=o;cases o<;>rfl
  ·simp[a,d,f,g,h,k,l]
def Fi (N:Nat) {l:List Ins} (h:l.length<=1048576):u9 N l=some l:=by
 unfold u9;rw[F6 d9];rfl
def ua (N:Nat) (m:Me) (h:m.code.length<=1048576):lJ N m=some m:=by
 unfold lJ;rw[Fi N h];rfl
theorem zg (N:Nat):∀(l:List Me) (k:Nat) (a:List Me),(∀m∈l,m.code.length<=1048576)->a.length+l.length<=1048576->lO N l k a=some (a++l)
 |[],k,a,_,_=>by simp[lO]
 |x::l,k,a,h,hl=>by
  rw[lO,ua N x (h x l9)];simp only[A0];rw[F6 (by simp at hl⊢;omega)];simp only[Mz];rw[zg N l (k+1) _ (fun o b=>h o (by simp[b])) (by simp at hl⊢;omega)];simp
theorem zi (N:Nat):∀(l:List Cl) (k:Nat) (a:List Cl),(∀x∈l,x.aB.length<=1048576/\∀m∈x.aB,m.code.length<=1048576)->a.length+l.length<=1048576->lM N l k a=some (a++l)
 |[],k,a,_,_=>by simp[lM]
 |x::l,k,a,h,hl=>by
  have b:=h x l9;rw[lM,zg N x.aB 0 [] b.2 (by simpa using b.1)];simp only[A0,List.nil_append];rw[F6 (by simp at hl⊢;omega)];simp only[Mz];rw[zi N l (k+1) _ (fun o c=>h o (by simp[c])) (by simp at hl⊢;omega)];simp
def ib (N:Nat) (w:Wd) (h:D6 w):gd N w=some w:=by
 unfold gd;rw[rP N h.2.2.2 h.2.1];simp only[A0];rw[zi N w.a7 0 [] h.2.2.1 (by simpa using h.1)];rfl
theorem AE (N:Nat):∀(l:List Me) (k:Nat) (a:List Me),(∀m∈l,m.code.length<=1048576)->a.length+l.length<=1048576->kz N l k a=some (a++l)
 |[],k,a,_,_=>by simp[kz]
 |x::l,k,a,h,hl=>by
  rw[kz,ua N x (h x l9)];simp only[A0];rw[F6 (by simp at hl⊢;omega)];simp only[Mz];rw[AE N l (k+1) _ (fun o b=>h o (by simp[b])) (by simp at hl⊢;omega)];simp
theorem A9 (N:Nat):∀(l:List Cl) (k:Nat) (a:List Cl),(∀x∈l,x.aB.length<=1048576/\∀m∈x.aB,m.code.length<=1048576)->a.length+l.length<=1048576->lB N l k a=some (a++l)
 |[],k,a,_,_=>by simp[lB]
 |x::l,k,a,h,hl=>by
  have b:=h x l9;rw[lB,AE N x.aB 0 [] b.2 (by simpa using b.1)];simp only[A0,List.nil_append];rw[F6 (by simp at hl⊢;omega)];simp only[Mz];rw[A9 N l (k+1) _ (fun o c=>h o (by simp[c])) (by simp at hl⊢;omega)];simp
def FH (N:Nat) (w:Wd) (h:D6 w):rX N w=some w:=by
 unfold rX;rw[rP N h.2.2.2 h.2.1];simp only[A0];rw[A9 N w.a7 0 [] h.2.2.1 (by simpa using h.1)];rfl
theorem A8 (N:Nat):∀(l:List Me) (k:Nat) (a:List Me),(∀m∈l,m.code.length<=1048576)->a.length+l.length<=1048576->lA N l k a=some (a++l)
 |[],k,a,_,_=>by simp[lA]
 |x::l,k,a,h,hl=>by
  rw[lA,ua N x (h x l9)];simp only[A0];rw[F6 (by simp at hl⊢;omega)];simp only[Mz];rw[A8 N l (k+1) _ (fun o b=>h o (by simp[b])) (by simp at hl⊢;omega)];simp
theorem A6 (N:Nat):∀(l:List Cl) (k:Nat) (a:List Cl),(∀x∈l,x.aB.length<=1048576/\∀m∈x.aB,m.code.length<=1048576)->a.length+l.length<=1048576->lC N l k a=some (a++l)
 |[],k,a,_,_=>by simp[lC]
 |x::l,k,a,h,hl=>by
  have b:=h x l9;rw[lC,A8 N x.aB 0 [] b.2 (by simpa using b.1)];simp only[A0,List.nil_append];rw[F6 (by simp at hl⊢;omega)];simp only[Mz];rw[A6 N l (k+1) _ (fun o c=>h o (by simp[c])) (by simp at hl⊢;omega)];simp
def FP (N:Nat) (w:Wd) (h:D6 w):rb N w=some w:=by
 unfold rb;rw[rP N h.2.2.2 h.2.1];simp only[A0];rw[A6 N w.a7 0 [] h.2.2.1 (by simpa using h.1)];rfl
structure Cf where
 heap:List Ob
 sends:Int
 turns:Int
 fs:List j3
 back:V
 err:Int
 ev:List (St×Int)
def cC (f:j3) (v:V):j3:={ f with aA:=f.aA++[v] }
def cN (f:j3):Option (V×j3):=f.aA.getLast?.map fun v=>(v,{ f with aA:=f.aA.dropLast })
def V4 (c:Cf) (e:Int):Cf:={ c with err:=e }
def dG (c:Cf) (v:V):Cf:=match c.fs with
 |[]=>{ c with back:=v }
 |f::F=>{ c with fs:=cC f v::F }
def fh (Q:Int->Int->Fs×Bool) (k j:Int) (m:Me) (self:V) (args:List V):j3 :=
 if(Q k j).2=true then⟨k,j,true,(Q k j).1.code,self,args,MI (Q k j).1.a8.toNat ⟨0,0⟩,[],0⟩
 else⟨k,j,false,m.code,self,args,MI m.a8.toNat ⟨0,0⟩,[],0⟩
def fX (w:Wd) (fuel:Int) (Q:Int->Int->Fs×Bool) (c:Cf) (k j:Int) (self:V) (args:List V):Option Cf :=
 (j4 w.a7 k).bind fun x=>(j4 x.aB j).bind fun m =>
  if m.args≠args.length then some (V4 c 8)
  else if m.aV≠0 then
   if fuel<=c.sends then some (V4 c 13) else(j4 args 0).bind fun a =>
    if(ef m.aV self a).2≠0 then some (V4 { c with sends:=c.sends+1 } (ef m.aV self a).2) else some (dG { c with sends:=c.sends+1 } (ef m.aV self a).1)
  else if fuel<=c.sends then some (V4 c 13)
  else if 20<=c.fs.length then some (V4 c 14)
  else some { c with sends:=c.sends+1,fs:=fh Q k j m self args::c.fs }
def cS (c:Cf) (f:j3) (F:List j3) (to:Int):Cf :=
 if to<f.aH then { c with turns:=c.turns+1,fs:={ f with aH:=to }::F,err:=if 300<c.turns+1 then 16 else c.err } else { c with fs:={ f with aH:=to }::F }
def R6 (f:j3) (m:Me) (i:Ins) (p:Int):St:=⟨f.aI,m.name,if f.aY=true then i.c else p⟩
def kU (w:Wd) (fuel:Int) (L:St->Int->ByteArray->Int×Int) (Q:Int->Int->Fs×Bool) (c:Cf) (f:j3) (F:List j3) (i:Ins) (p:Int):Option Cf :=
 if 0<=i.a/\i.a<f.aA.length then
  (f.aA[f.aA.length-i.a.toNat-1]?).bind fun x=>(j4 w.a7 f.aI).bind fun cl=>(j4 cl.aB f.aL).bind fun m =>
   if(L (R6 f m i p) (G7 c.heap x) i.name).2<0 then
    some (V4 { c with fs:=f::F,ev:=c.ev++[((R6 f m i p),G7 c.heap x)] } 10)
   else fX w fuel Q { c with fs:={ f with aA:=f.aA.take (f.aA.length-i.a.toNat-1) }::F,ev:=c.ev++[((R6 f m i p),G7 c.heap x)] }
    (L (R6 f m i p) (G7 c.heap x) i.name).1 (L (R6 f m i p) (G7 c.heap x) i.name).2 x (f.aA.drop (f.aA.length-i.a.toNat))
 else none
def lr (w:Wd) (c:Cf) (f:j3) (F:List j3) (i:Ins):Option Cf :=
 if 0<=i.b/\i.b<f.aA.length then
  (f.aA[f.aA.length-1-i.b.toNat]?).bind fun x=>if G7 c.heap x=i.a then some { c with fs:=f::F } else
   (j4 w.a7 f.aI).bind fun cl=>(j4 cl.aB f.aL).bind fun m =>
    if 0<=m.a8/\m.a8<=f.a8.length then some { c with fs:={ f with aY:=false,code:=m.code,a8:=f.a8.take m.a8.toNat,aH:=i.c }::F } else none
 else none
def jf (h:List Ob) (o:V) (n:Int) (v:V):Option (List Ob) :=
 if o.k=4 then(if 0<=o.n then(match h[o.n.toNat]? with
  |none=>some h
  |some b=>if n<b.aG.length then(if 0<=n then some (h.set o.n.toNat ⟨b.cls,b.aG.set n.toNat v⟩) else none) else some h) else none) else some h
def kO (w:Wd) (c:Cf) (f:j3) (F:List j3) (i:Ins):Option Cf :=
 if i.op=1 then some { c with fs:=cC f f.aR::F }
 else if i.op=2 then(j4 f.args i.a).map fun v=>{ c with fs:=cC f v::F }
 else if i.op=3 then(j4 f.a8 i.a).map fun v=>{ c with fs:=cC f v::F }
 else if i.op=4 then some { c with fs:=cC f (lZ c.heap f.aR i.a)::F }
 else if i.op=5 then some { c with fs:=cC f ⟨3,i.a⟩::F }
 else if i.op=6 then some { c with fs:=cC f ⟨0,0⟩::F }
 else if i.op=7 then some { c with fs:=cC f ⟨1,0⟩::F }
 else if i.op=8 then some { c with fs:=cC f ⟨2,0⟩::F }
 else if i.op=9 then(cN f).map fun p=>{ c with fs:=p.2::F }
 else if i.op=10 then f.aA.getLast?.map fun v=>{ c with fs:=cC f v::F }
 else if i.op=11 then(cN f).bind fun p=>if 0<=i.a/\i.a<f.a8.length then some { c with fs:={ p.2 with a8:=f.a8.set i.a.toNat p.1 }::F } else none
 else if i.op=12 then(cN f).bind fun p=>(jf c.heap f.aR i.a p.1).map fun h=>{ c with heap:=h,fs:=p.2::F }
 else if i.op=19 then(j4 f.a8 i.a).map fun t=>{ c with fs:=cC f (lZ c.heap t i.b)::F }
 else if i.op=20 then(j4 f.a8 i.a).bind fun t=>(cN f).bind fun p=>(jf c.heap t i.b p.1).map fun h=>{ c with heap:=h,fs:=p.2::F }
 else if i.op=13 then(if 60<=c.heap.length then some (V4 { c with fs:=f::F } 15) else some { c with heap:=c.heap++[⟨i.a,MI (p8 w i.a).toNat ⟨0,0⟩⟩],fs:=cC f ⟨4,(c.heap.length:Int)⟩::F })
 else some { c with fs:=f::F }
def iE (fuel:Int) (c:Cf):Cf:=if fuel<=c.sends then V4 c 13 else if 20<=c.fs.length then V4 c 14 else { c with sends:=c.sends+1 }
def kW (c:Cf) (F:List j3) (i:Ins) (p:V×j3):Cf :=
 if p.1.k=1 then cS c p.2 F i.a else if p.1.k=2 then { c with fs:=p.2::F } else V4 { c with fs:=p.2::F } 11
def P7 (w:Wd) (fuel:Int) (L:St->Int->ByteArray->Int×Int) (Q:Int->Int->Fs×Bool) (c:Cf):Option Cf :=
 match c.fs with
 |[]=>none
 |f::F=>(j4 f.code f.aH).bind fun i =>
  if i.op=14 then kU w fuel L Q c { f with aH:=f.aH+1 } F i f.aH
  else if i.op=15 then some (cS c { f with aH:=f.aH+1 } F i.a)
  else if i.op=16 then(cN { f with aH:=f.aH+1 }).map (kW c F i)
  else if i.op=17 then(cN { f with aH:=f.aH+1 }).map fun p=>dG { c with fs:=F } p.1
  else if i.op=18 then lr w c { f with aH:=f.aH+1 } F i
  else if i.op=21 then some (iE fuel { c with fs:={ f with aH:=f.aH+1 }::F })
  else kO w c { f with aH:=f.aH+1 } F i
theorem Bh (w:Wd) (H:List Ob) (e:Int):∀(n:Nat) (c:Int),bf ⟨w.a7,H,e⟩ n c=bf w n c
 |0,_=>rfl
 |n+1,c=>by
  unfold bf;simp only[Bh w H e n]
def pE (w:Wd) (H:List Ob) (e:Int) (c:Int):p8 ⟨w.a7,H,e⟩ c=p8 w c:=by
 unfold p8;simp only[Bh]
theorem BX (w:Wd) (H:List Ob) (e:Int) (s:ByteArray):∀(n:Nat) (c:Int),X3 ⟨w.a7,H,e⟩ s n c=X3 w s n c
 |0,_=>rfl
 |n+1,c=>by
  unfold X3;simp only[BX w H e s n]
def Aa (w:Wd) (H:List Ob) (e:Int) (s:ByteArray) (c:Int):l7 ⟨w.a7,H,e⟩ s c=l7 w s c:=by
 unfold l7;simp only[BX]
theorem iM (v:V):(⟨v.k,v.n⟩:V)=v:=rfl
def tE {f:j3} {F:List j3} (h:F.length<=1000):wr (((f::F).reverse.length:Int)-1)=(F.length:Int):=by
 rw[q9 (by unfold I5;simp;omega)];simp
def ct (f:j3) (F:List j3):(f::F).reverse[F.length]?=some f:=by
 rw[List.reverse_cons,Ma l9];simp
def wq (f:j3) (F:List j3):j4 (f::F).reverse (F.length:Int)=some f:=by rw[D7,ct]
def eI (f g:j3) (F:List j3):(f::F).reverse.set F.length g=(g::F).reverse:=by
 rw[List.reverse_cons,List.set_append_right (h:=by simp)];simp
def D3 (f:j3) (F:List j3):(f::F).reverse.take F.length=F.reverse:=by
 rw[List.reverse_cons,List.take_left' l9]
def Ks (f:j3) (F:List j3):¬(((f::F).reverse.length:Int)=0):=L6
section
variable {N:Nat} {cl:List Cl} {H:List Ob} {ep fuel sends turns err:Int} {back:V}
def ir (fr:List j3) (e:Int):I1 N ⟨⟨cl,H,ep⟩,fuel,sends,turns,fr,back,0⟩ e=some ⟨⟨cl,H,ep⟩,fuel,sends,turns,fr,back,e⟩:=by
 simp[I1]
def xr (fr:List j3) (b:Bool) (f:-1000000<=sends/\sends<=1000000):kp N ⟨⟨cl,H,ep⟩,fuel,sends,turns,fr,back,0⟩ b =
  some (if fuel<=sends then(false,⟨⟨cl,H,ep⟩,fuel,sends,turns,fr,back,13⟩) else if b=true/\20<=fr.length then(false,⟨⟨cl,H,ep⟩,fuel,sends,turns,fr,back,14⟩) else(true,⟨⟨cl,H,ep⟩,fuel,sends+1,turns,fr,back,0⟩)):=by
 have e:wr (sends+1)=sends+1:=q9 ino;unfold kp;simp only[ir,e];by_cases c:fuel<=sends
 ·simp only[c,N3,Mz,if_true,A0]
 ·by_cases d:20<=fr.length
  ·have a:(20:Int)<=(fr.length:Int):=d9;cases b<;>simp[c,d,a]
  ·have a:¬(20:Int)<=(fr.length:Int):=d9;cases b<;>simp[c,d,a]
def Jg (F:List j3) (v:V) (a:F.length<=1000) (b:∀f∈F,f.aA.length<=1000):kr N ⟨⟨cl,H,ep⟩,fuel,sends,turns,F.reverse,back,err⟩ v =
  some (match F with
   |[]=>⟨⟨cl,H,ep⟩,fuel,sends,turns,[],v,err⟩
   |f::G=>⟨⟨cl,H,ep⟩,fuel,sends,turns,(cC f v::G).reverse,back,err⟩):=by
 unfold kr;cases F with
 |nil=>simp
 |cons f G =>
  have hl:f.aA.length<=1000:=b f l9;simp only[tE (show G.length<=1000 by simp at a;omega),wq,Mg,eI,A0];rw[F6 L6,N5 (Ks f G)];rfl
end
structure bx (f:j3):Prop where
 aA:f.aA.length<=1000
 code:f.code.length<=1000
 num:∀v∈f.aA,v.k=3->gK v.n
structure Wk (w:Wd) (Q:Int->Int->Fs×Bool) (c:Cf):Prop where
 cls:w.a7.length<=1048576
 al:∀x∈w.a7,∀m∈x.aB,0<=m.a8/\m.a8<=1000
 aG:∀k,0<=p8 w k/\p8 w k<=1000
 quick:∀k j,(Q k j).2=true->0<=(Q k j).1.a8/\(Q k j).1.a8<=1000
 heap:c.heap.length<=1000/\∀o∈c.heap,o.aG.length<=1000
 fs:c.fs.length<=900
 fr:∀f∈c.fs,bx f
 sends:-1000000<=c.sends/\c.sends<=100000
 turns:-1000000<=c.turns/\c.turns<=100000
def Cf.toM (w:Wd) (fuel:Int) (c:Cf):D5:=⟨⟨w.a7,c.heap,w.aC⟩,fuel,c.sends,c.turns,c.fs.reverse,c.back,c.err⟩
def eG {a:Type} {l:List a} {i:Int} {x:a} (h:j4 l i=some x):x∈l:=MP (l6 h).2
def xu {w:Wd} {fuel:Int} {N:Nat} (c:Cf) (v:V) (a:c.fs.length<=1000) (d:∀f∈c.fs,f.aA.length<=1000) :
  kr N (c.toM w fuel) v=some ((dG c v).toM w fuel):=by
 obtain⟨h,s,t,fs,b,e,ev⟩:=c;unfold Cf.toM;rw[Jg fs v a d];cases fs<;>rfl
section
variable {w:Wd} {fuel:Int} {N:Nat} {gl:St->Int->ByteArray->Option (Int×Int)} {gq:Int->Int->Option (Fs×Bool)} {L:St->Int->ByteArray->Int×Int} {Q:Int->Int->Fs×Bool}
def vN (r:∀k j x m,j4 w.a7 k=some x->j4 x.aB j=some m->gq k j=some (Q k j))
  (G:∀x∈w.a7,∀m∈x.aB,0<=m.a8/\m.a8<=1000) (B:∀k j,(Q k j).2=true->0<=(Q k j).1.a8/\(Q k j).1.a8<=1000)
  (c:Cf) (A:c.err=0) (C:-1000000<=c.sends/\c.sends<=1000000) (y:c.fs.length<=1000) (i:∀f∈c.fs,f.aA.length<=1000) (k j:Int) (self:V) (args:List V)
  (E:self.k=3->gK self.n) (F:∀v∈args,v.k=3->gK v.n) (K:args.length<=1000) (c':Cf) (h:fX w fuel Q c k j self args=some c') :
  O3 N (c.toM w fuel) gq k j self args=some (c'.toM w fuel):=by
 obtain⟨J,s,t,fs,b,e,ev⟩:=c;simp only at A C y i;subst A;unfold fX at h;obtain⟨x,u,h⟩:=N7 h;obtain⟨m,g,h⟩:=N7 h;have I:=G x (eG u) m (eG g);unfold O3 Cf.toM;simp only[u,g,A0,ir,xr fs.reverse _ C];simp only at h;by_cases g1:m.args=args.length
 ·rw[N1 (by simpa using g1)] at h;rw[N6 g1];simp only[MH,N0];by_cases l:m.aV=0
  ·rw[N1 (by simpa using l)] at h;rw[N6 l];simp only[MH,N0];by_cases d:fuel<=s
   ·rw[N2 d] at h;cases h;simp only[d,if_true,MQ,Mz];rfl
   ·rw[N1 d] at h;by_cases o:20<=fs.length
    ·rw[N2 o] at h;cases h;simp only[d,List.length_reverse,o,and_self,if_true,if_false,MQ,Mz];rfl
    ·rw[N1 o] at h;cases h;have e1:(decide (0<=m.a8) && decide (m.a8<=140737488355328) && decide (m.a8*16<=140737488355328))=true:=by
      simp only[IT,NA];omega
     simp only[d,List.length_reverse,o,and_false,if_false,MH,N0,uH N (show args.length<=1048576 by omega),A0,r k j x m u g,e1,Mz];cases q:(Q k j).2 with
     |true =>
      have B:=B k j q;have D:(decide (0<=(Q k j).1.a8) && decide ((Q k j).1.a8<=140737488355328) && decide ((Q k j).1.a8*16<=140737488355328))=true:=by
       simp only[IT,NA];omega
      simp only[D,Mz,A0];rw[F6 L6];simp only[Mz,fh,q,if_true,List.reverse_cons]
     |false =>
      simp only[N0,A0];rw[F6 L6];simp only[Mz,fh,q,Ml,if_false,List.reverse_cons]
  ·rw[N2 (by simpa using l)] at h;rw[N5 l];simp only[MQ,Mz];by_cases d:fuel<=s
   ·rw[N2 d] at h;cases h;simp only[d,if_true,MQ,Mz];rfl
   ·rw[N1 d] at h;obtain⟨a,z,h⟩:=N7 h;simp only[d,Ml,false_and,if_false,MH,N0,z,A0,Gg N m.aV self a E (F a (eG z)),ir];by_cases p:(ef m.aV self a).2=0
    ·rw[N1 (by simpa using p)] at h;cases h;rw[N6 p];simp only[MH,N0];have:=xu (w:=w) (fuel:=fuel) (N:=N) ⟨J,s+1,t,fs,b,0,ev⟩ (ef m.aV self a).1 y i;simp only[Cf.toM] at this;rw[this];cases fs<;>rfl
    ·rw[N2 (by simpa using p)] at h;cases h;rw[N5 p];rfl
 ·rw[N2 (by simpa using g1)] at h;cases h;rw[N5 g1];rfl
def xW {l:List V} {v:V} (h:l.getLast?=some v) (hl:l.length<=1000):j4 l (wr ((l.length:Int)-1))=some v/\wr ((l.length:Int)-1)=((l.length-1:Nat):Int)/\1<=l.length /\
  (decide (0<=wr ((l.length:Int)-1)) && decide (wr ((l.length:Int)-1)<=(l.length:Int)))=true:=by
 have b:1<=l.length:=by
  cases l with
  |nil=>cases h
  |cons a l=>simp
 have e:wr ((l.length:Int)-1)=((l.length-1:Nat):Int):=by rw[q9 ino];omega
 rw[e];refine⟨?_,rfl,b,by simp only[IT,NA];omega⟩;rw[D7,<-h,List.getLast?_eq_getElem?]
def ij {f:j3} {p:V×j3} (h:cN f=some p):f.aA.getLast?=some p.1/\p.2={ f with aA:=f.aA.dropLast }:=by
 unfold cN at h;rw[MM] at h;obtain⟨v,a,rfl⟩:=h;exact⟨a,rfl⟩
def jm {f:j3} {F:List j3} {p:V×j3} (h:cN f=some p) (hl:f.aA.length<=1000):Y9 N (f::F).reverse F.length=some (p.1,(p.2::F).reverse):=by
 obtain⟨c,d⟩:=ij h;obtain⟨e1,a,e,b⟩:=xW c hl;unfold Y9;rw[ct];simp only[A0,e1,b,Mz,eI,d];rw[a,Mg,List.dropLast_eq_take]
def De {f:j3} {F:List j3} {p:V×j3} (h:cN f=some p) (hl:f.aA.length<=1000):ot N (f::F).reverse F.length=some (p.1,(p.2::F).reverse):=by
 obtain⟨c,d⟩:=ij h;obtain⟨e1,a,e,b⟩:=xW c hl;unfold ot;rw[ct];simp only[A0,e1,b,Mz,eI,d];rw[a,Mg,List.dropLast_eq_take]
def lp {f:j3} {F:List j3} (v:V) (hl:f.aA.length<=1000):O6 N v (f::F).reverse F.length=some (cC f v::F).reverse:=by
 unfold O6;rw[ct];simp only[A0,eI];rw[F6 L6];rfl
def CF {f:j3} {F:List j3} (v:V) (hl:f.aA.length<=1000):oh N v (f::F).reverse F.length=some (cC f v::F).reverse:=by
 unfold oh;rw[ct];simp only[A0,eI];rw[F6 L6];rfl
def Ik {f:j3} {F:List j3} (v:V) (s:List V) (hl:s.length<=1000):qx N v s (f::F).reverse F.length=some (s++[v]):=by
 unfold qx;rw[ct];simp only[A0];rw[F6 L6];rfl
def d70 {cl:List Cl} {H j:List Ob} {ep s t e:Int} {fr:List j3} {b:V} {o:V} {n:Int} {v:V} (h:jf H o n v=some j) :
  oo N ⟨⟨cl,H,ep⟩,fuel,s,t,fr,b,e⟩ o n v=some ⟨⟨cl,j,ep⟩,fuel,s,t,fr,b,e⟩:=by
 unfold jf at h;unfold oo;by_cases d:o.k=4
 ·rw[N2 d] at h;by_cases g:0<=o.n
  ·rw[N2 g] at h;cases c:H[o.n.toNat]? with
   |none =>
    rw[c] at h;cases h;have a:¬o.n<(H.length:Int):=by have:=List.getElem?_eq_none_iff.1 c;omega
    simp only[d,a,Option.elim,N3,N4,Mz,N0,A0]
   |some x =>
    rw[c] at h;have a:o.n<(H.length:Int):=by have:=(ME.1 c).1;omega
    have l:j4 H o.n=some x:=(by rw[fB g,c]);simp only[l,d,a,Option.elim,N3,Mz,A0];simp only at h;by_cases f:n<(x.aG.length:Int)
    ·rw[N2 f] at h;by_cases i:0<=n
     ·rw[N2 i] at h;cases h;obtain⟨y,_,m⟩:=db i f;simp only[f,m,N3,Mz,A0]
     ·rw[N1 i] at h;cases h
    ·rw[N1 f] at h;cases h;simp only[f,N4,N0,A0]
  ·rw[N1 g] at h;cases h
 ·rw[N1 d] at h;cases h;cases c:H[o.n.toNat]?<;>simp only[d,Option.elim,N4,N0,A0]
def vQ (c:Cf) (f:j3) (F:List j3) (to:Int) (d:c.err=0) (g:-1000000<=c.turns/\c.turns<=1000000) :
  kt N ⟨⟨w.a7,c.heap,w.aC⟩,fuel,c.sends,c.turns,(f::F).reverse,c.back,c.err⟩ F.length to=some ((cS c f F to).toM w fuel):=by
 unfold kt cS;have e:wr (c.turns+1)=c.turns+1:=q9 ino;simp only[ct,A0,e,d,ir];by_cases a:to<f.aH
 ·by_cases b:300<c.turns+1
  ·simp only[a,b,N3,Mz,A0,if_true,eI,Cf.toM]
  ·simp only[a,b,N3,N4,Mz,N0,A0,if_true,if_false,eI,Cf.toM]
 ·simp only[a,N4,N0,A0,if_false,eI,Cf.toM]
def CO (c:Cf) (f:j3) (F:List j3) (i:Ins) (hl:f.aA.length<=1000) {c':Cf} (h:lr w c f F i=some c') :
  oj N ⟨⟨w.a7,c.heap,w.aC⟩,fuel,c.sends,c.turns,(f::F).reverse,c.back,c.err⟩ F.length i=some (c'.toM w fuel):=by
 unfold lr at h;by_cases j:0<=i.b/\i.b<f.aA.length
 ·rw[N2 j] at h;obtain⟨x,n,h⟩:=N7 h;have e1:wr ((f.aA.length:Int)-1)=(f.aA.length:Int)-1:=q9 ino;have k:wr ((f.aA.length:Int)-1-i.b)=((f.aA.length-1-i.b.toNat:Nat):Int):=by rw[q9 ino];omega
  unfold oj;simp only[ct,A0,e1,k,D7,n,rH];by_cases d:G7 c.heap x=i.a
  ·rw[N2 d] at h;cases h;simp only[d,N3,Mz,Cf.toM]
  ·rw[N1 d] at h;obtain⟨cl,g,h⟩:=N7 h;obtain⟨m,l,h⟩:=N7 h;simp only[d,N4,N0,g,l,A0];by_cases e:0<=m.a8/\m.a8<=f.a8.length
   ·rw[N2 e] at h;cases h;simp only[e.1,e.2,N3,Bool.and_self,Mz,eI,Cf.toM]
   ·rw[N1 e] at h;cases h
 ·rw[N1 j] at h;cases h
def ru (c:Cf) (v:V):(dG c v).heap=c.heap:=by
 unfold dG;split<;>rfl
def pQ {c c':Cf} {k j:Int} {self:V} {args:List V} (h:fX w fuel Q c k j self args=some c'):∃x m,j4 w.a7 k=some x/\j4 x.aB j=some m /\
  ((m.args≠args.length/\c'=V4 c 8)\/(m.args=args.length/\fuel<=c.sends/\c'=V4 c 13) \/
   (m.args=args.length/\c.sends<fuel/\m.aV≠0/\∃a,j4 args 0=some a/\(((ef m.aV self a).2≠0/\c'=V4 { c with sends:=c.sends+1 } (ef m.aV self a).2) \/
    ((ef m.aV self a).2=0/\c'=dG { c with sends:=c.sends+1 } (ef m.aV self a).1))) \/
   (m.args=args.length/\c.sends<fuel/\m.aV=0/\20<=c.fs.length/\c'=V4 c 14) \/
   (m.args=args.length/\c.sends<fuel/\m.aV=0/\c.fs.length<20/\c'={ c with sends:=c.sends+1,fs:=fh Q k j m self args::c.fs })):=by
 unfold fX at h;obtain⟨x,l,h⟩:=N7 h;obtain⟨m,i,h⟩:=N7 h;refine⟨x,m,l,i,?_⟩;by_cases d:m.args=args.length
 ·rw[N1 (by simpa using d)] at h;refine .inr ?_;by_cases f:fuel<=c.sends
  ·refine .inl ⟨d,f,?_⟩;rw[N2 f,N2 f] at h;split at h<;>(cases h;rfl)
  refine .inr ?_;rw[N1 f,N1 f] at h;by_cases e:m.aV=0
  ·rw[N1 (by simpa using e)] at h;refine .inr ?_;by_cases b:20<=c.fs.length
   ·rw[N2 b] at h;cases h;exact .inl ⟨d,d9,e,b,rfl⟩
   ·rw[N1 b] at h;cases h;exact .inr ⟨d,d9,e,d9,rfl⟩
  ·rw[N2 (by simpa using e)] at h;obtain⟨a,g,h⟩:=N7 h;refine .inl ⟨d,d9,e,a,g,?_⟩;by_cases b:(ef m.aV self a).2=0
   ·rw[N1 (by simpa using b)] at h;cases h;exact .inr ⟨b,rfl⟩
   ·rw[N2 (by simpa using b)] at h;cases h;exact .inl ⟨b,rfl⟩
 ·rw[N2 (by simpa using d)] at h;cases h;exact .inl ⟨d,rfl⟩
def rV {c c':Cf} {k j:Int} {self:V} {args:List V} (h:fX w fuel Q c k j self args=some c'):c'.heap=c.heap:=by
 obtain⟨x,m,_,_,h|h|⟨_,_,_,a,_,h|h⟩|h|h⟩:=pQ h
 ·rw[h.2];rfl
 ·rw[h.2.2];rfl
 ·rw[h.2];rfl
 ·rw[h.2];exact ru _ _
 ·rw[h.2.2.2.2];rfl
 ·rw[h.2.2.2.2]
def pd {c c':Cf} {f:j3} {F:List j3} {i:Ins} {p:Int} (h:kU w fuel L Q c f F i p=some c'):∃x cl m,0<=i.a/\i.a<f.aA.length/\f.aA[f.aA.length-i.a.toNat-1]?=some x /\
  j4 w.a7 f.aI=some cl/\j4 cl.aB f.aL=some m /\
  (((L (R6 f m i p) (G7 c.heap x) i.name).2<0/\c'=V4 { c with fs:=f::F,ev:=c.ev++[(R6 f m i p,G7 c.heap x)] } 10) \/
   (0<=(L (R6 f m i p) (G7 c.heap x) i.name).2/\fX w fuel Q { c with fs:={ f with aA:=f.aA.take (f.aA.length-i.a.toNat-1) }::F,ev:=c.ev++[(R6 f m i p,G7 c.heap x)] }
    (L (R6 f m i p) (G7 c.heap x) i.name).1 (L (R6 f m i p) (G7 c.heap x) i.name).2 x (f.aA.drop (f.aA.length-i.a.toNat))=some c')):=by
 unfold kU at h;by_cases b:0<=i.a/\i.a<f.aA.length
 ·rw[N2 b] at h;obtain⟨x,j,h⟩:=N7 h;obtain⟨cl,e,h⟩:=N7 h;obtain⟨m,g,h⟩:=N7 h;refine⟨x,cl,m,b.1,b.2,j,e,g,?_⟩;by_cases d:(L (R6 f m i p) (G7 c.heap x) i.name).2<0
  ·rw[N2 d] at h;cases h;exact .inl ⟨d,rfl⟩
  ·rw[N1 d] at h;exact .inr ⟨d9,h⟩
 ·rw[N1 b] at h;cases h
def AU {c c':Cf} {f:j3} {F:List j3} {i:Ins} {p:Int} (h:kU w fuel L Q c f F i p=some c'):c'.heap=c.heap:=by
 obtain⟨x,cl,m,_,_,_,_,_,h|h⟩:=pd h
 ·rw[h.2];rfl
 ·exact(rV h.2).trans rfl
def KD (q:∀s k n,gl s k n=some (L s k n)) (r:∀k j x m,j4 w.a7 k=some x->j4 x.aB j=some m->gq k j=some (Q k j))
  (c:Cf) (W:Wk w Q c) (e:c.err=0) (f:j3) (F:List j3) (l:bx f) (B:∀f∈F,bx f) (C:F.length<=899) (i:Ins) (p:Int) {c':Cf} (h:kU w fuel L Q c f F i p=some c') :
  mi N ⟨⟨w.a7,c.heap,w.aC⟩,fuel,c.sends,c.turns,(f::F).reverse,c.back,c.err⟩ gl gq F.length i p=some (c'.toM w fuel):=by
 obtain⟨x,cl,m,J,K,u,d,E,h⟩:=pd h;have hl:=l.aA;have e1:wr ((f.aA.length:Int)-i.a)=((f.aA.length-i.a.toNat:Nat):Int):=by rw[q9 ino];omega
 have A:wr (((f.aA.length-i.a.toNat:Nat):Int)-1)=((f.aA.length-i.a.toNat-1:Nat):Int):=by rw[q9 ino];omega
 have y:(decide ((0:Int)<=((f.aA.length-i.a.toNat:Nat):Int)) && decide (((f.aA.length-i.a.toNat:Nat):Int)<=(f.aA.length:Int)))=true:=by simp only[IT,NA];omega
 have z:(decide ((0:Int)<=((f.aA.length-i.a.toNat-1:Nat):Int)) && decide (((f.aA.length-i.a.toNat-1:Nat):Int)<=(f.aA.length:Int)))=true:=by simp only[IT,NA];omega
 have b:((bif f.aY then some i.c else some p):Option Int)=some (R6 f m i p).pos:=by unfold R6;cases f.aY<;>rfl
 have G:(⟨f.aI,m.name,(R6 f m i p).pos⟩:St)=R6 f m i p:=rfl;unfold mi;simp only[ct,A0,e1,A,y,z,Mz,Mg,D7,u,d,E,rH,q,b,G,e,ir,eI,
  uH N (show(f.aA.drop (f.aA.length-i.a.toNat)).length<=1048576 by simp;omega)]
 rcases h with⟨t,rfl⟩|⟨t,h⟩
 ·simp only[t,N3,Mz];rfl
 ·rw[N5 d9];simp only[N0];have:=vN (N:=N) r W.al W.quick _ (by exact e) (by have:=W.sends;exact⟨this.1,bJ⟩) L6 (fun g o=>by
    rcases MG.1 o with rfl|o
    ·simp;omega
    ·exact(B g o).aA) _ _ x _ (l.num x (MP u)) (fun v I=>l.num v (List.mem_of_mem_drop I)) L6 c' h
  simp only[Cf.toM,e] at this;rw[this];simp only[A0,Cf.toM];have D:c'.heap=c.heap:=(rV h).trans rfl;rw[D]
def Ba (c:Cf) (W:Wk w Q c) (O:1048578<=N) (P:c.err=0) (f:j3) (F:List j3) (R:bx f) (i:Ins) {c':Cf} (h:kO w c f F i=some c') :
  om N ⟨⟨w.a7,c.heap,w.aC⟩,fuel,c.sends,c.turns,(f::F).reverse,c.back,c.err⟩ F.length i=some (c'.toM w fuel):=by
 have hl:=R.aA;unfold kO at h;unfold om;by_cases u:i.op=1
 ·rw[N2 u] at h;cases h;simp only[u,ct,lp _ hl,N3,Mz,A0,iM];rfl
 rw[N1 u] at h;by_cases x:i.op=2
 ·rw[N2 x] at h;rw[MM] at h;obtain⟨v,r,rfl⟩:=h;simp only[x,r,ct,lp _ hl,N3,Mz,A0];rfl
 rw[N1 x] at h;by_cases z:i.op=3
 ·rw[N2 z] at h;rw[MM] at h;obtain⟨v,r,rfl⟩:=h;simp only[z,r,ct,eI,CF _ hl,N3,Mz,A0];rfl
 rw[N1 z] at h;by_cases A:i.op=4
 ·rw[N2 A] at h;cases h;simp only[A,ct,Au,lp _ hl,N3,Mz,A0];rfl
 rw[N1 A] at h;by_cases B:i.op=5
 ·rw[N2 B] at h;cases h;simp only[B,ct,lp _ hl,N3,Mz,A0];rfl
 rw[N1 B] at h;by_cases C:i.op=6
 ·rw[N2 C] at h;cases h;simp only[C,ct,lp _ hl,N3,Mz,A0];rfl
 rw[N1 C] at h;by_cases D:i.op=7
 ·rw[N2 D] at h;cases h;simp only[D,ct,wa,lp _ hl,N3,Mz,A0];rfl
 rw[N1 D] at h;by_cases E:i.op=8
 ·rw[N2 E] at h;cases h;simp only[E,ct,wa,lp _ hl,N3,A0];rfl
 rw[N1 E] at h;by_cases G:i.op=9
 ·rw[N2 G] at h;rw[MM] at h;obtain⟨q,p,rfl⟩:=h;simp only[G,ct,jm p hl,N3,Mz,A0];rfl
 rw[N1 G] at h;by_cases g:i.op=10
 ·rw[N2 g] at h;rw[MM] at h;obtain⟨v,r,rfl⟩:=h;obtain⟨e1,X,Y,Z⟩:=xW r hl;simp only[g,ct,eI,e1,Ik _ _ hl,N3,Mz,A0];rfl
 rw[N1 g] at h;by_cases j:i.op=11
 ·rw[N2 j] at h;obtain⟨q,p,h⟩:=N7 h;by_cases I:0<=i.a/\i.a<f.a8.length
  ·rw[N2 I] at h;cases h;obtain⟨y,_,T⟩:=db I.1 I.2;simp only[j,T,ct,eI,De p hl,N3,Mz,A0];rfl
  ·rw[N1 I] at h;cases h
 rw[N1 j] at h;by_cases k:i.op=12
 ·rw[N2 k] at h;obtain⟨q,p,h⟩:=N7 h;rw[MM] at h;obtain⟨M,J,rfl⟩:=h;have hs:q.2.aR=f.aR:=by rw[(ij p).2]
  simp only[k,ct,eI,jm p hl,d70 J,N3,Mz,A0];rfl
 rw[N1 k] at h;by_cases m:i.op=19
 ·rw[N2 m] at h;rw[MM] at h;obtain⟨v,r,rfl⟩:=h;simp only[m,r,ct,eI,Au,CF _ hl,N3,Mz,A0];rfl
 rw[N1 m] at h;by_cases n:i.op=20
 ·rw[N2 n] at h;obtain⟨tv,K,h⟩:=N7 h;obtain⟨q,p,h⟩:=N7 h;rw[MM] at h;obtain⟨M,J,rfl⟩:=h;obtain⟨qv,U⟩:=q;obtain rfl:U={ f with aA:=f.aA.dropLast }:=(ij p).2;simp only[n,K,ct,eI,De p hl,d70 J,N3,Mz,A0];rfl
 rw[N1 n] at h;by_cases d:i.op=13
 ·rw[N2 d] at h;have t:=W.aG i.a;have b:=HC N (l:=c.heap) i.a (p8 w i.a) (fun o S=>by have:=W.heap.2 o S;omega) (by have:=W.heap.1;omega) t.1 t.2;have e:iI N (⟨w.a7,c.heap,w.aC⟩:Wd) i.a=some (p8 w i.a):=(ou N ⟨w.a7,c.heap,w.aC⟩ i.a O W.cls).trans (by rw[pE w c.heap w.aC i.a]);by_cases s:60<=c.heap.length
  ·rw[N2 s] at h b;cases h;simp only[d,e,b,P,ir,show((15:Int)=0)=False by decide,MQ,N3,N4,Mz,A0];rfl
  ·rw[N1 s] at h b;cases h;simp only[d,e,b,lp _ hl,MH,N3,Mz,N0,A0];rfl
 rw[N1 d] at h;cases h;simp only[u,x,z,A,B,C,D,E,G,g,j,k,m,n,d,N4,N0,A0,iM];rfl
def KQ (R:1048578<=N) (G:∀s k n,gl s k n=some (L s k n)) (I:∀k j x m,j4 w.a7 k=some x->j4 x.aB j=some m->gq k j=some (Q k j))
  (c:Cf) (W:Wk w Q c) (v:c.err=0) {c':Cf} (h:P7 w fuel L Q c=some c'):mj N (c.toM w fuel) gl gq=some (c'.toM w fuel):=by
 unfold P7 at h;cases o:c.fs with
 |nil=>rw[o] at h;cases h
 |cons f F =>
  rw[o] at h;obtain⟨i,hi,h⟩:=N7 h;have u:=W.fs;rw[o] at u;simp only[ML] at u;have z:bx f:=W.fr f (by rw[o];simp);have M:∀g∈F,bx g:=fun g A=>W.fr g (by rw[o];simp[A]);have U:=fU hi;have bj:=z.code;have wp:wr (f.aH+1)=f.aH+1:=q9 ino;have T:=tE (f:=f) (F:=F) d9;generalize A:({ f with aH:=f.aH+1 }:j3)=g at h;have d:g.aA.length<=1000:=by rw[<-A];exact z.aA
  have C:bx g:=by rw[<-A];exact⟨z.aA,z.code,z.num⟩
  unfold mj Cf.toM;have P:∀(x:Cf),(⟨⟨w.a7,x.heap,w.aC⟩,fuel,x.sends,x.turns,x.fs.reverse,⟨x.back.k,x.back.n⟩,x.err⟩:D5)=x.toM w fuel:=fun x=>rfl;simp only[o,T,wp,wq,hi,A0,Mg,eI,A];by_cases e:i.op=14
  ·rw[N2 e] at h;have:=KD (gl:=gl) (N:=N) G I c W v g F C M d9 i f.aH h;have J:=AU h;simp only[e,this,N3,Mz,A0,Cf.toM,iM,J]
  rw[N1 e] at h;by_cases l:i.op=15
  ·rw[N2 l] at h;cases h;have:=vQ (w:=w) (fuel:=fuel) (N:=N) c g F i.a v (by have:=W.turns;omega);simp only[l,this,N3,Mz,A0,Cf.toM];unfold cS;split<;>rfl
  rw[N1 l] at h;by_cases b:i.op=16
  ·rw[N2 b] at h;rw[MM] at h;obtain⟨q,D,rfl⟩:=h;have:=vQ (w:=w) (fuel:=fuel) (N:=N) c q.2 F i.a v (by have:=W.turns;omega);unfold kW;by_cases y:q.1.k=1
   ·simp only[b,jm D d,this,y,N3,Mz,A0,Cf.toM,if_true];unfold cS;split<;>rfl
   ·by_cases E:q.1.k=2
    ·simp only[b,jm D d,E,N3,Mz,A0,if_true];rfl
    ·simp only[b,jm D d,y,E,v,ir,N3,N4,Mz,N0,A0,if_false];rfl
  rw[N1 b] at h;by_cases p:i.op=17
  ·rw[N2 p] at h;rw[MM] at h;obtain⟨q,D,rfl⟩:=h;have K:=tE (f:=q.2) (F:=F) d9;have B:=xu (w:=w) (fuel:=fuel) (N:=N) { c with fs:=F } q.1 bJ (fun x S=>(M x S).aA);simp only[Cf.toM] at B;have O:(decide ((0:Int)<=(F.length:Int)) && decide ((F.length:Int)<=((q.2::F).reverse.length:Int)))=true:=L6;simp only[N5 e,N5 l,N5 b,N6 p,jm D d,K,O,Mg,D3,B,Mz,N0,A0,iM,ru]
  rw[N1 p] at h;by_cases r:i.op=18
  ·rw[N2 r] at h;have:=CO (w:=w) (fuel:=fuel) (N:=N) c g F i d h;have J:c'.heap=c.heap:=by
    unfold lr at h;split at h
    ·obtain⟨x,_,h⟩:=N7 h;split at h
     ·cases h;rfl
     ·obtain⟨cl,_,h⟩:=N7 h;obtain⟨m,_,h⟩:=N7 h;split at h<;>cases h;rfl
    ·cases h
   simp only[N5 e,N5 l,N5 b,N5 p,N6 r,this,Mz,N0,A0,Cf.toM,iM,J]
  rw[N1 r] at h;by_cases t:i.op=21
  ·rw[N2 t] at h;cases h;have:=xr (N:=N) (cl:=w.a7) (H:=c.heap) (ep:=w.aC) (fuel:=fuel) (sends:=c.sends) (turns:=c.turns) (back:=c.back) (g::F).reverse true (by have:=W.sends;omega);simp only[t,v,this,N3,Mz,A0];unfold iE;by_cases y:fuel<=c.sends
   ·simp only[y,if_true];rfl
   ·by_cases E:20<=(g::F).length
    ·simp only[y,E,List.length_reverse,if_true,if_false,and_self];rfl
    ·simp only[y,E,List.length_reverse,if_false,and_false];rfl
  rw[N1 t] at h;have:=Ba (w:=w) (fuel:=fuel) (N:=N) c W R v g F C i h;simp only[e,l,b,p,r,t,this,N4,N0,A0,Cf.toM,iM]
end
def pG {N:Nat} {w:Wd} (h:I6 N w):∀x∈w.a7,0<=x.aG/\x.aG<=6:=fun x b=>by
 obtain⟨j,a⟩:=Mv.1 b;have:=h.cls j x a;exact⟨this.2.2.2.2.1,this.2.2.2.2.2⟩
def xF {w:Wd} (a:∀x∈w.a7,0<=x.aG/\x.aG<=6) (b:w.a7.length<=12) (c:Int):0<=p8 w c/\p8 w c<=78:=by
 have hl:=vL w (w.a7.length+1) c;have h:=ur a (bf w (w.a7.length+1) c) 0 d9 d9;exact⟨h.1,Int.le_trans h.2 d9⟩
def Bp {w:Wd} {k:Int} {m:Me} {i:Ins} (h:bp w k m i=0):fW w k m i=some true/\jq i=false:=by
 unfold bp at h;cases a:fW w k m i with
 |none=>rw[a] at h;cases h
 |some b =>
  rw[a] at h;cases b with
  |false=>simp at h
  |true =>
   cases d:jq i with
   |true=>simp[d] at h
   |false=>exact⟨rfl,rfl⟩
def yD {w:Wd} {k:Int} {m:Me} {i:Ins} (h:bp w k m i=0) :
  ((i.op=1\/i.op=6\/i.op=7\/i.op=8\/i.op=9\/i.op=10\/i.op=17)/\i.a=0)\/(i.op=2/\0<=i.a/\i.a<m.args)\/((i.op=3\/i.op=11)/\0<=i.a/\i.a<m.a8) \/
  ((i.op=4\/i.op=12)/\0<=i.a/\i.a<p8 w k)\/(i.op=5/\-1073741824<=i.a/\i.a<=1073741824)\/(i.op=13/\(i.a=0\/(4<=i.a/\i.a<w.a7.length)))\/(i.op=14/\0<=i.a/\i.a<5) \/
  ((i.op=15\/i.op=16)/\0<=i.a/\i.a<m.code.length):=by
 have h:=(Bp h).1;unfold fW at h
 (repeat' split at h)<;>simp only[Option.some.injEq,IT,Bool.or_eq_true,NA,reduceCtorEq] at h<;>simp_all
def Q9 (n:Int) (v:V):Prop:=cc v n=0
theorem Q9.mono {n a:Int} {v:V} (h:Q9 n v) (b:n<=a):Q9 a v:=by
 unfold Q9 cc at *
 (repeat' split at h)<;>first|(simp at h)|skip
 all_goals (repeat' split)<;>first|rfl|omega
theorem Q9.num {n:Int} {v:V} (h:Q9 n v) (b:v.k=3):gK v.n:=by
 unfold Q9 cc at h;simp only[b] at h;unfold gK;by_cases a:v.n < -1073741824\/1073741824<v.n
 ·simp[a] at h
 ·omega
theorem Q9.ref {n:Int} {v:V} (h:Q9 n v) (b:v.k=4):0<=v.n/\v.n<n:=by
 unfold Q9 cc at h;simp only[b] at h;by_cases a:v.n<0\/n<=v.n
 ·simp[a] at h
 ·omega
theorem Q9.nil (n:Int):Q9 n ⟨0,0⟩:=rfl
theorem Q9.zE (n:Int):Q9 n ⟨1,0⟩:=rfl
theorem Q9.zO (n:Int):Q9 n ⟨2,0⟩:=rfl
theorem Q9.int (n:Int) {x:Int} (h:-1073741824<=x/\x<=1073741824):Q9 n ⟨3,x⟩:=by
 unfold Q9 cc;have:¬(x < -1073741824\/1073741824<x):=d9;simp[this]
theorem Q9.obj {n:Int} {x:Int} (h:0<=x/\x<n):Q9 n ⟨4,x⟩:=by
 unfold Q9 cc;have:¬(x<0\/n<=x):=d9;simp[this]
theorem Q9.aV {n p:Int} {a b:V} (h:(ef p a b).2=0):Q9 n (ef p a b).1:=by
 have g:∀x:Int,Q9 n (qU x):=fun x=>by
  refine Q9.int n ?_;have d:=Int.tmod_lt_of_pos x (show(0:Int)<1073741825 by omega);have e:-1073741825<x.tmod 1073741825:=by
   rcases Int.le_total 0 x with h|h
   ·have:=Int.tmod_nonneg (1073741825:Int) h;omega
   ·have:=Int.tmod_lt_of_pos (-x) (show(0:Int)<1073741825 by omega);rw[Int.neg_tmod] at this;omega
  omega
 unfold ef at *;by_cases i:a.k≠3\/b.k≠3
 ·rw[N2 i] at h;cases h
 rw[N1 i] at h⊢;by_cases d:p=1
 ·rw[N2 d];exact g _
 rw[N1 d] at h⊢;by_cases e:p=2
 ·rw[N2 e];exact g _
 rw[N1 e] at h⊢;by_cases j:p=3
 ·rw[N2 j];exact g _
 rw[N1 j] at h⊢;by_cases l:p=4
 ·rw[N2 l];simp only;split<;>first|exact Q9.zO n|exact Q9.zE n
 rw[N1 l] at h⊢;by_cases m:p=5
 ·rw[N2 m];simp only;split<;>first|exact Q9.zO n|exact Q9.zE n
 rw[N1 m] at h;cases h
structure tz (w:Wd) (k:Int) (m:Me):Prop where
 args:0<=m.args/\m.args<=4
 a8:0<=m.a8/\m.a8<=6
 len:m.code.length<=60
 aV:m.aV=0
 num:∀i∈m.code,bp w k m i=0
 bw:∃h,tS m h []/\h[0]?=some 0
structure cZ (w:Wd):Prop where
 cls:w.a7.length<=12
 aG:∀k,0<=p8 w k/\p8 w k<=78
 zM:∀k:Int,0<=k->k<w.a7.length->p8 w k<=6
 ms:∀x∈w.a7,x.aB.length<=8
 code:∀x∈w.a7,∀m∈x.aB,m.code.length<=60
 al:∀k x j m,j4 w.a7 k=some x->j4 x.aB j=some m->tz w k m\/(m.aV≠0/\m.args=1/\m.a8=0)
theorem cZ.a8 {w:Wd} (W:cZ w):∀x∈w.a7,∀m∈x.aB,0<=m.a8/\m.a8<=1000:=fun x e m d=>by
 obtain⟨k,b⟩:=Mv.1 e;obtain⟨j,a⟩:=Mv.1 d;rcases W.al k x j m (by rw[D7,b]) (by rw[D7,a]) with h|⟨_,_,h⟩
 ·have:=h.a8;omega
 ·omega
theorem yv.Ls {N:Nat} {w:Wd} {k:Int} {m:Me} (h:yv N w k m):tz w k m:=by
 obtain⟨a,e⟩:=h.bw;obtain⟨b,_,d⟩:=yO m h.neg N _ _ a e (KJ m) DB;exact⟨h.args,h.a8,h.len.2,h.aV,h.num,a,b,(d (0,0) l9).2⟩
def d47 : ∀p∈U0,p.aV≠0:=G8
theorem I6.od {N:Nat} {w:Wd} (r:4194304<=N) (n:D6 w) (h:I6 N w):cZ w:=by
 have e:=pG h;refine⟨h.many.2.1,fun k=>xF e h.many.2.1 k,fun k g b=>?_,fun x a=>?_,fun x a m d=>?_,fun k x j m a d=>?_⟩
 ·obtain⟨x,a,_⟩:=db g b;have:=(h.al k.toNat x a).1
  rwa [Int.toNat_of_nonneg g] at this
 ·obtain⟨k,l⟩:=Mv.1 a;exact(h.al k x l).2.1
 ·obtain⟨k,l⟩:=Mv.1 a;exact(d66 d9 n.1 h l d).len
 ·obtain⟨g,a⟩:=l6 a;have d:=eG d;rcases(h.al k.toNat x a).2.2.2 m d with⟨_,p,q,_,b,i,o,_⟩|⟨f,b,i⟩
  ·exact .inr ⟨by rw[<-b];exact d47 p q,i,o⟩
  ·rw[Int.toNat_of_nonneg g,oq N w k m d9 n.1 (kH e n.1 k)] at b;exact .inl (Bo b i).Ls
structure Fr (w:Wd) (n:Int) (m:Me) (h:List Int) (f:j3) (d:Nat):Prop where
 bn:f.aY=false
 al:∃x,j4 w.a7 f.aI=some x/\j4 x.aB f.aL=some m
 code:f.code=m.code
 me:tz w f.aI m
 hi:tS m h []
 args:(f.args.length:Int)=m.args
 a8:(f.a8.length:Int)=m.a8
 pos:0<=f.aH
 aH:h[f.aH.toNat]?=some ((f.aA.length+d:Nat):Int)
 self:Q9 n f.aR
 ez:∀v∈f.args,Q9 n v
 b8:∀v∈f.a8,Q9 n v
 ai:∀v∈f.aA,Q9 n v
def dh (w:Wd) (n:Int) (d:Nat) (f:j3):Prop:=∃m h,Fr w n m h f d
theorem dh.mono {w:Wd} {n e:Int} {d:Nat} {f:j3} (h:dh w n d f) (b:n<=e):dh w e d f:=by
 obtain⟨m,g,F⟩:=h;exact⟨m,g,F.bn,F.al,F.code,F.me,F.hi,F.args,F.a8,F.pos,F.aH,F.self.mono b,fun v a=>(F.ez v a).mono b,fun v a=>(F.b8 v a).mono b,fun v a=>(F.ai v a).mono b⟩
theorem Fr.len {w:Wd} {n:Int} {m:Me} {h:List Int} {f:j3} {d:Nat} (F:Fr w n m h f d):∃i,f.code[f.aH.toNat]?=some i/\j4 f.code f.aH=some i/\i∈m.code/\f.aH<f.code.length/\f.aA.length+d<=12 /\
  (R8 i f.aH).1<=((f.aA.length+d:Nat):Int)/\(i.op=17->f.aA.length+d=1)/\0<=wr (((f.aA.length+d:Nat):Int)+(R8 i f.aH).2.1) /\
  ∀to∈(R8 i f.aH).2.2,0<=to/\h[to.toNat]?=some (wr (((f.aA.length+d:Nat):Int)+(R8 i f.aH).2.1)):=by
 have a:f.aH.toNat<m.code.length:=by
  have:=(ME.1 F.aH).1;rw[F.hi.len] at this;exact this
 have hi:m.code[f.aH.toNat]?=some m.code[f.aH.toNat]:=IS a;have:=F.hi.aH f.aH.toNat _ _ F.aH d9 hi;rw[Int.toNat_of_nonneg F.pos] at this;obtain⟨g,o,j,k,l⟩:=this;refine⟨m.code[f.aH.toNat],by rw[F.code,hi],by rw[F.code,fB F.pos,hi],List.getElem_mem a,by rw[F.code];have:=F.pos;omega,d9,g,fun e=>by have:=j e;omega,k,fun to b=>?_⟩;rcases l to b with h|h
 ·cases h
 ·exact h
theorem Fr.go {w:Wd} {n:Int} {m:Me} {h:List Int} {f:j3} {d:Nat} (F:Fr w n m h f d) (to:Int) (T S:List V) (b:Nat) (e:0<=to) (a:h[to.toNat]?=some ((S.length+b:Nat):Int)) (g:T.length=f.a8.length)
  (vT:∀v∈T,Q9 n v) (i:∀v∈S,Q9 n v):Fr w n m h { f with aH:=to,a8:=T,aA:=S } b :=
 ⟨F.bn,F.al,F.code,F.me,F.hi,F.args,by rw[show({ f with aH:=to,a8:=T,aA:=S }:j3).a8=T from rfl,g];exact F.a8,e,a,F.self,F.ez,vT,i⟩
def vu (w:Wd) (n:Int) (o:Ob):Prop:=0<=o.cls/\(0<o.cls->4<=o.cls)/\o.cls<w.a7.length/\(o.aG.length:Int)=p8 w o.cls/\∀v∈o.aG,Q9 n v
theorem vu.mono {w:Wd} {n a:Int} {o:Ob} (h:vu w n o) (b:n<=a):vu w a o:=⟨h.1,h.2.1,h.2.2.1,h.2.2.2.1,fun v d=>(h.2.2.2.2 v d).mono b⟩
structure gm (w:Wd) (h:List Ob):Prop where
 len:h.length<=60
 ob:∀o∈h,vu w (h.length:Int) o
def yy (w:Wd) (n:Int):List j3->Prop
 |[]=>True
 |f::F=>dh w n 0 f/\∀g∈F,dh w n 1 g
structure cy (w:Wd) (fuel:Int) (c:Cf):Prop where
 heap:gm w c.heap
 fl:c.fs.length<=20
 fs:yy w (c.heap.length:Int) c.fs
 sends:0<=c.sends/\c.sends<=fuel/\fuel<=400
 turns:0<=c.turns/\c.turns<=300
 back:Q9 (c.heap.length:Int) c.back
theorem cy.Ll {w:Wd} {fuel:Int} {c:Cf} (I:cy w fuel c):∀f∈c.fs,∃d,dh w (c.heap.length:Int) d f:=fun f a=>by
 have h:=I.fs;cases b:c.fs with
 |nil=>rw[b] at a;cases a
 |cons g G =>
  rw[b] at h a;rcases MG.1 a with rfl|a
  ·exact⟨0,h.1⟩
  ·exact⟨1,h.2 f a⟩
theorem cy.wk {w:Wd} {fuel:Int} {c:Cf} (W:cZ w) (I:cy w fuel c) {Q:Int->Int->Fs×Bool} (a:∀k j,(Q k j).2=true->0<=(Q k j).1.a8/\(Q k j).1.a8<=1000):Wk w Q c:=by
 refine⟨by have:=W.cls;omega,W.a8,fun k=>by have:=W.aG k;omega,a,⟨by have:=I.heap.len;omega,fun o g=>?_⟩,by have:=I.fl;omega,fun f b=>?_,by have:=I.sends;omega,by have:=I.turns;omega⟩
 ·have h:=(I.heap.ob o g).2.2.2.1;have:=W.aG o.cls;omega
 ·obtain⟨d,m,h,F⟩:=I.Ll f b;obtain⟨i,_,_,_,_,n,_⟩:=F.len;exact⟨d9,by rw[F.code];have:=F.me.len;omega,fun v l e=>(F.ai v l).num e⟩
def Z6 (f:j3):Nat:=(f.code.length-f.aH).toNat+(if f.aY=true then 70 else 0)
def mu (fuel:Int) (c:Cf):Nat:=(c.fs.map Z6).sum+1000*(fuel-c.sends).toNat+1000*(301-c.turns).toNat
structure fu (w:Wd) (fuel:Int) (c c':Cf):Prop where
 mu:mu fuel c'<mu fuel c
 sends:c.sends<=c'.sends/\c'.sends<=fuel
 heap:c.heap.length<=c'.heap.length
 inv:c'.err=0->cy w fuel c'
theorem yy.tail {w:Wd} {n:Int} {f:j3} {F:List j3} (h:yy w n (f::F)):∀g∈F,dh w n 1 g:=h.2
def sQ {f:j3} (h:f.aH<f.code.length):Z6 { f with aH:=f.aH+1 }+1=Z6 f:=by
 unfold Z6;simp only;omega
def D1 {w:Wd} {fuel:Int} {c:Cf} {v:V} (d:gm w c.heap) (hl:c.fs.length<=20) (b:∀g∈c.fs,dh w (c.heap.length:Int) 1 g) (e:0<=c.sends/\c.sends<=fuel/\fuel<=400) (i:0<=c.turns/\c.turns<=300)
  (k:Q9 (c.heap.length:Int) c.back) (j:Q9 (c.heap.length:Int) v):cy w fuel (dG c v):=by
 unfold dG;cases l:c.fs with
 |nil=>exact⟨d,l9,by simp only;trivial,e,i,j⟩
 |cons f F =>
  rw[l] at hl b;refine⟨d,by simpa using hl,⟨?_,fun g n=>b g (by simp[n])⟩,e,i,k⟩;obtain⟨m,h,R⟩:=b f l9;refine⟨m,h,R.bn,R.al,R.code,R.me,R.hi,R.args,R.a8,R.pos,?_,R.self,R.ez,R.b8,fun u a=>?_⟩
  ·rw[show(cC f v).aH=f.aH from rfl,R.aH];simp[cC]
  ·simp only[cC,MT,Mh] at a;rcases a with a|rfl
   ·exact R.ai u a
   ·exact j
def rN {fuel:Int} {c:Cf} {v:V}:mu fuel (dG c v)=mu fuel c:=by
 unfold dG;cases a:c.fs with
 |nil=>simp[mu,a]
 |cons f F=>simp[mu,a,Z6,cC]
def rm (c:Cf) (v:V):(dG c v).sends=c.sends/\(dG c v).turns=c.turns/\(dG c v).err=c.err/\(dG c v).ev=c.ev:=by
 unfold dG;split<;>exact⟨rfl,rfl,rfl,rfl⟩
def pZ {Q:Int->Int->Fs×Bool} (a:∀k j,(Q k j).2=false) (k j:Int) (m:Me) (self:V) (args:List V):fh Q k j m self args=⟨k,j,false,m.code,self,args,MI m.a8.toNat ⟨0,0⟩,[],0⟩:=by
 unfold fh;rw[a];rfl
def CJ {w:Wd} {fuel:Int} {Q:Int->Int->Fs×Bool} (W:cZ w) (y:∀k j,(Q k j).2=false) (c:Cf) (H:c.err=0) (C:gm w c.heap) (hl:c.fs.length<=20) (B:∀g∈c.fs,dh w (c.heap.length:Int) 1 g)
  (p:0<=c.sends/\c.sends<=fuel/\fuel<=400) (D:0<=c.turns/\c.turns<=300) (A:Q9 (c.heap.length:Int) c.back) (k j:Int) (self:V) (args:List V) (e:Q9 (c.heap.length:Int) self) (d:∀v∈args,Q9 (c.heap.length:Int) v)
  (n:∃x m,j4 w.a7 k=some x/\j4 x.aB j=some m):∃c',fX w fuel Q c k j self args=some c'/\c.sends<=c'.sends/\c'.sends<=fuel/\c'.heap=c.heap/\mu fuel c'<=mu fuel c/\(c'.err=0->cy w fuel c'):=by
 obtain⟨x,m,n,s⟩:=n;unfold fX;rw[n];simp only[A0];rw[s];simp only[A0];by_cases t:m.args=args.length
 ·rw[N1 (by simpa using t)];by_cases q:m.aV=0
  ·rw[N1 (by simpa using q)];by_cases o:fuel<=c.sends
   ·rw[N2 o];exact⟨_,rfl,MO _,p.2.1,rfl,It _,fun h=>by cases h⟩
   rw[N1 o];by_cases b:20<=c.fs.length
   ·rw[N2 b];exact⟨_,rfl,MO _,p.2.1,rfl,It _,fun h=>by cases h⟩
   rw[N1 b];have r:tz w k m:=by
    rcases W.al k x j m n s with h|h
    ·exact h
    ·exact absurd q h.1
   refine⟨_,rfl,bJ,bJ,rfl,?_,fun _=>⟨C,by simp only[ML];omega,⟨?_,B⟩,bJ,D,A⟩⟩
   ·have G:=r.len;simp only[mu,MS,Mb,pZ y,Z6];simp only[Ml,if_false];omega
   ·obtain⟨h,hi,E⟩:=r.bw;rw[pZ y];refine⟨m,h,rfl,⟨x,n,s⟩,rfl,r,hi,by rw[t],?_,MO _,by simpa using E,e,d,fun v u=>?_,fun v u=>by cases u⟩
    ·have:=r.a8;simp only[List.length_replicate];omega
    ·rw[(List.mem_replicate.1 u).2];exact Q9.nil _
  ·rw[N2 (by simpa using q)];by_cases o:fuel<=c.sends
   ·rw[N2 o];exact⟨_,rfl,MO _,p.2.1,rfl,It _,fun h=>by cases h⟩
   rw[N1 o];have z:m.args=1:=by
    rcases W.al k x j m n s with h|h
    ·exact absurd h.aV q
    ·exact h.2.1
   obtain⟨a,_,z⟩:=db (l:=args) (i:=0) (MO _) d9;rw[z];simp only[A0];by_cases b:(ef m.aV self a).2=0
   ·rw[N1 (by simpa using b)];refine⟨_,rfl,by rw[(rm _ _).1];simp only;omega,by rw[(rm _ _).1];simp only;omega,ru _ _,?_,fun _=>?_⟩
    ·rw[rN];simp only[mu];omega
    ·exact D1 C hl B ⟨bJ,bJ,p.2.2⟩ D A (Q9.aV b)
   ·rw[N2 (by simpa using b)];exact⟨_,rfl,by simp only[V4];omega,by simp only[V4];omega,rfl,by simp only[mu,V4];omega,fun h=>absurd h b⟩
 ·rw[N2 (by simpa using t)];exact⟨_,rfl,MO _,p.2.1,rfl,It _,fun h=>by cases h⟩
def kL {i:Ins} {p:Int} (h:i.op=1\/i.op=2\/i.op=3\/i.op=4\/i.op=5\/i.op=6\/i.op=7\/i.op=8\/i.op=13):R8 i p=(0,1,[wr (p+1)]):=by
 unfold R8;rcases h with h|h|h|h|h|h|h|h|h<;>simp[h]
def uy {i:Ins} {p:Int} (h:i.op=9\/i.op=11\/i.op=12):R8 i p=(1,-1,[wr (p+1)]):=by
 unfold R8;simp[h]
def d82 {i:Ins} {p:Int} (h:i.op=10):R8 i p=(1,1,[wr (p+1)]):=by
 unfold R8;simp[h]
def Jt {i:Ins} {p:Int} (h:i.op=14):R8 i p=(wr (i.a+1),-i.a,[wr (p+1)]):=by
 unfold R8;simp[h]
def KB {i:Ins} {p:Int} (h:i.op=15):R8 i p=(0,0,[i.a]):=by
 unfold R8;simp[h]
def DG {i:Ins} {p:Int} (h:i.op=16):R8 i p=(1,-1,[wr (p+1),i.a]):=by
 unfold R8;simp[h]
section
variable {w:Wd} {fuel:Int} {c:Cf} {f:j3} {F:List j3}
def jU (I:cy w fuel c) (d:c.fs=f::F) {c':Cf} {g:j3} (e1:c'.fs=g::F) (e:c'.sends=c.sends) (i:c'.turns=c.turns) (j:c'.back=c.back) (k:gm w c'.heap) (h:c.heap.length<=c'.heap.length)
  (o:Z6 g+1=Z6 f) (m:c'.err=0->dh w (c'.heap.length:Int) 0 g):fu w fuel c c':=by
 have a:=I.fs;have b:=I.fl;rw[d] at a b;refine⟨?_,by rw[e];exact⟨MO _,I.sends.2.1⟩,h,fun l=>⟨k,by rw[e1];simpa using b,?_,by rw[e];exact I.sends,by rw[i];exact I.turns,by rw[j];exact I.back.mono d9⟩⟩
 ·simp only[mu,e1,e,i,d,MS,Mb];omega
 ·rw[e1];exact⟨m l,fun x n=>(a.2 x n).mono d9⟩
def DC (I:cy w fuel c) (e:c.fs=f::F) (g:j3) (ad:g.aH=f.aH+1) (k:g.code=f.code) (l:g.aY=f.aY) (o:f.code.length<=1000) (i:f.aY=false) (q:0<=f.aH/\f.aH<f.code.length) (to:Int) (p:0<=to) (r:c.err=0)
  (m:dh w (c.heap.length:Int) 0 { g with aH:=to }) (j:f.code.length<=60):fu w fuel c (cS c g F to):=by
 have a:=I.fs;have d:=I.fl;have s:=I.turns;rw[e] at a d;unfold cS;by_cases h:to<g.aH
 ·rw[N2 h];refine⟨?_,⟨MO _,I.sends.2.1⟩,It _,fun b=>⟨I.heap,by simpa using d,⟨m,a.2⟩,I.sends,?_,I.back⟩⟩
  ·simp only[mu,e,MS,Mb,Z6,k,l,i];simp only[Ml,if_false];omega
  ·simp only at b⊢;by_cases n:300<c.turns+1
   ·rw[N2 n] at b;cases b
   ·omega
 ·rw[N1 h];refine⟨?_,⟨MO _,I.sends.2.1⟩,It _,fun b=>⟨I.heap,by simpa using d,⟨m,a.2⟩,I.sends,I.turns,I.back⟩⟩;simp only[mu,e,MS,Mb,Z6,k,l,i];simp only[Ml,if_false];omega
def KZ {n:Int} {h:List Ob} (a:gm w h) (b:n=h.length) (v:V) (k:Int):Q9 n (lZ h v k):=by
 unfold lZ;split
 ·split
  ·rename_i o d;rw[List.getD_eq_getElem?_getD];cases e:o.aG[k.toNat]? with
   |none=>exact Q9.nil n
   |some x =>
    have:=(a.ob o (MP d)).2.2.2.2 x (MP e);rw[b];exact this
  ·exact Q9.nil n
 ·exact Q9.nil n
def Kn {h:List Ob} (d:gm w h) {o v:V} {k:Int} (q:Q9 (h.length:Int) o) (r:Q9 (h.length:Int) v) (p:0<=k):∃e,jf h o k v=some e/\gm w e/\e.length=h.length:=by
 unfold jf;by_cases g:o.k=4
 ·rw[N2 g];have i:=q.ref g;rw[N2 i.1];obtain⟨b,m,_⟩:=db i.1 i.2;rw[m];simp only;by_cases n:k<(b.aG.length:Int)
  ·rw[N2 n,N2 p];refine⟨_,rfl,⟨by rw[Mc];exact d.len,fun x l=>?_⟩,Mc⟩;rw[Mc];rcases List.mem_or_eq_of_mem_set l with l|rfl
   ·exact d.ob x l
   ·have a:=d.ob b (MP m);refine⟨a.1,a.2.1,a.2.2.1,by simp only[Mc];exact a.2.2.2.1,fun u j=>?_⟩;rcases List.mem_or_eq_of_mem_set j with j|rfl
    ·exact a.2.2.2.2 u j
    ·exact r
  ·rw[N1 n];exact⟨_,rfl,d,rfl⟩
 ·rw[N1 g];exact⟨_,rfl,d,rfl⟩
def Du (W:cZ w) {h:List Ob} (d:gm w h) (hl:h.length<60) {a:Int} (i:a=0\/(4<=a/\a<w.a7.length)) (g:0<w.a7.length):gm w (h++[⟨a,MI (p8 w a).toNat ⟨0,0⟩⟩]):=by
 refine⟨L6,fun o b=>?_⟩;rcases MT.1 b with b|b
 ·exact(d.ob o b).mono L6
 ·simp only[Mh] at b;subst b;have:=W.aG a;exact⟨bJ,bJ,bJ,by simp only[List.length_replicate];omega,fun v e=>by rw[(List.mem_replicate.1 e).2];exact Q9.nil _⟩
def BG {l:List V} (h:1<=l.length):∃v,l.getLast?=some v/\v∈l:=by
 cases hl:l.getLast? with
 |none=>rw[List.getLast?_eq_none_iff] at hl;subst hl;simp at h
 |some v=>exact⟨v,rfl,List.mem_of_getLast? hl⟩
def su {f:j3} (h:1<=f.aA.length):∃v,cN f=some (v,{ f with aA:=f.aA.dropLast })/\v∈f.aA:=by
 obtain⟨v,a,b⟩:=BG h;exact⟨v,by unfold cN;rw[a];rfl,b⟩
def rL {Q:Int->Int->Fs×Bool} (W:cZ w) (M:0<w.a7.length) (hQ:∀k j,(Q k j).2=false) (I:cy w fuel c) (he:c.err=0) (r:c.fs=f::F):∃c',P7 w fuel (fun _ k s=>l7 w s k) Q c=some c'/\fu w fuel c c':=by
 have Z:=I.fs;have hfl:=I.fl;rw[r] at Z hfl;simp only[ML] at hfl;obtain⟨⟨m,h,R⟩,Z⟩:=Z;obtain⟨i,hi1,hi2,him,O,h12,d,E,hpos,b⟩:=R.len;simp only[Nat.add_zero] at h12 d E hpos b;have ad:=R.pos;have hme:=R.me;have hcl:f.code.length<=60:=by rw[R.code];exact hme.len
 have D:wr (f.aH+1)=f.aH+1:=q9 ino;have q:=yD (hme.num i him);have z:=sQ O;unfold P7;rw[r];simp only[hi2,A0];have push:∀v:V,Q9 (c.heap.length:Int) v->R8 i f.aH=(0,1,[wr (f.aH+1)])->∀n:Int,(c.heap.length:Int)<=n->dh w n 0 (cC { f with aH:=f.aH+1 } v):=by
  intro v x y n hn;rw[y] at b;have:=b (wr (f.aH+1)) l9;rw[D] at this;simp only at this;rw[q9 ino] at this;refine dh.mono ⟨m,h,R.go (f.aH+1) f.a8 (f.aA++[v]) 0 d9 (by rw[this.2];simp) rfl R.b8 (fun u t=>?_)⟩ hn;rcases MT.1 t with t|t
  ·exact R.ai u t
  ·rw[Mh.1 t];exact x
 have gu:∀v:V,Q9 (c.heap.length:Int) v->R8 i f.aH=(0,1,[wr (f.aH+1)])->fu w fuel c { c with fs:=cC { f with aH:=f.aH+1 } v::F }:=fun v x y =>
  jU I r rfl rfl rfl rfl I.heap (It _) z fun _=>push v x y _ (MO _)
 have drop:∀v:V,cN f=some (v,{ f with aA:=f.aA.dropLast })->R8 i f.aH=(1,-1,[wr (f.aH+1)])->∀T:List V,T.length=f.a8.length->(∀u∈T,Q9 (c.heap.length:Int) u) ->
   dh w (c.heap.length:Int) 0 { f with aH:=f.aH+1,a8:=T,aA:=f.aA.dropLast }:=by
  intro v x y T hT hT2;rw[y] at b d;have:=b (wr (f.aH+1)) l9;rw[D] at this;simp only at this d;rw[q9 ino] at this;exact⟨m,h,R.go (f.aH+1) T f.aA.dropLast 0 d9 (by rw[this.2,List.length_dropLast];congr 1;omega) hT hT2 fun u t=>R.ai u ((List.dropLast_sublist _).subset t)⟩
 by_cases S:i.op=14
 ·rw[N2 S];rw[Jt S] at d b;have B:0<=i.a/\i.a<5:=by
   rcases q with⟨h,_⟩|⟨h,_⟩|⟨h,_⟩|⟨h,_⟩|⟨h,_⟩|⟨h,_⟩|⟨_,h⟩|⟨h,_⟩<;>omega
  rw[q9 ino] at d;simp only at d;obtain⟨cl,hcl2,hm⟩:=R.al;have y:=b (wr (f.aH+1)) l9;rw[D] at y;simp only at y;rw[q9 ino] at y;unfold kU;rw[N2 bJ];have L:f.aA.length-i.a.toNat-1<f.aA.length:=d9;simp only[IS L,hcl2,hm,A0];have P:Q9 (c.heap.length:Int) f.aA[f.aA.length-i.a.toNat-1]:=R.ai _ (List.getElem_mem L);by_cases hj:(l7 w i.name (G7 c.heap f.aA[f.aA.length-i.a.toNat-1])).2<0
  ·rw[N2 hj];exact⟨_,rfl,jU I r rfl rfl rfl rfl I.heap (It _) z fun e=>by cases e⟩
  ·rw[N1 hj];obtain⟨x',m',hx',hm',_⟩:=sX (w:=w) (s:=i.name) (c:=G7 c.heap f.aA[f.aA.length-i.a.toNat-1]) d9;have hg:dh w (c.heap.length:Int) 1 { f with aH:=f.aH+1,aA:=f.aA.take (f.aA.length-i.a.toNat-1) } :=
    ⟨m,h,R.go (f.aH+1) f.a8 (f.aA.take (f.aA.length-i.a.toNat-1)) 1 d9 (by rw[y.2];congr 1;simp;omega) rfl R.b8 fun u t=>R.ai u (List.mem_of_mem_take t)⟩
   obtain⟨c',h1',h2',h3',h4',h5',h6'⟩:=CJ (Q:=Q) (fuel:=fuel) W hQ { c with fs:={ f with aH:=f.aH+1,aA:=f.aA.take (f.aA.length-i.a.toNat-1) }::F,ev:=c.ev++[(R6 { f with aH:=f.aH+1 } m i f.aH,G7 c.heap f.aA[f.aA.length-i.a.toNat-1])] }
    he I.heap L6 (fun g N=>by
     rcases MG.1 N with rfl|N
     ·exact hg
     ·exact Z g N) I.sends I.turns I.back _ _ _ (f.aA.drop (f.aA.length-i.a.toNat)) P (fun v x=>R.ai v (List.mem_of_mem_drop x)) ⟨x',m',hx',hm'⟩
   refine⟨c',h1',?_,⟨h2',h3'⟩,by rw[h4'];exact It _,h6'⟩;refine Nat.lt_of_le_of_lt h5' ?_;simp only[mu,r,MS,Mb];have:Z6 { f with aH:=f.aH+1,aA:=f.aA.take (f.aA.length-i.a.toNat-1) }=Z6 { f with aH:=f.aH+1 }:=rfl;rw[this];omega
 rw[N1 S];by_cases U:i.op=15
 ·rw[N2 U];rw[KB U] at b;have y:=b i.a l9;simp only[Int.add_zero] at y;rw[q9 ino] at y;refine⟨_,rfl,DC I r { f with aH:=f.aH+1 } rfl rfl rfl d9 R.bn ⟨ad,O⟩ i.a y.1 he ?_ hcl⟩;exact⟨m,h,R.go i.a f.a8 f.aA 0 y.1 (by rw[y.2];rfl) rfl R.b8 R.ai⟩
 rw[N1 U];by_cases K:i.op=16
 ·rw[N2 K];have G:1<=f.aA.length:=by rw[DG K] at d;simp only at d;omega
  obtain⟨v,x,A⟩:=su (f:={ f with aH:=f.aH+1 }) G;rw[x];rw[DG K] at b;have y:=b i.a l9;have hy:=b (wr (f.aH+1)) l9;rw[D] at hy;simp only at y hy;rw[q9 ino] at y hy;have hd:(f.aA.length:Int)+-1=((f.aA.dropLast.length:Nat):Int):=by rw[List.length_dropLast];omega
  have hy':dh w (c.heap.length:Int) 0 { f with aH:=f.aH+1,aA:=f.aA.dropLast }:=⟨m,h,R.go (f.aH+1) f.a8 f.aA.dropLast 0 d9 (by rw[hy.2,hd];rfl) rfl R.b8 fun u t=>R.ai u ((List.dropLast_sublist _).subset t)⟩;refine⟨_,rfl,?_⟩;unfold kW;by_cases k1:v.k=1
  ·rw[N2 k1];refine DC I r { f with aH:=f.aH+1,aA:=f.aA.dropLast } rfl rfl rfl d9 R.bn ⟨ad,O⟩ i.a y.1 he ?_ hcl;exact⟨m,h,R.go i.a f.a8 f.aA.dropLast 0 y.1 (by rw[y.2,hd];rfl) rfl R.b8 fun u t=>R.ai u ((List.dropLast_sublist _).subset t)⟩
  ·rw[N1 k1];by_cases k2:v.k=2
   ·rw[N2 k2];exact jU I r rfl rfl rfl rfl I.heap (It _) z fun _=>hy'
   ·rw[N1 k2];exact jU I r rfl rfl rfl rfl I.heap (It _) z fun e=>by cases e
 rw[N1 K];by_cases X:i.op=17
 ·rw[N2 X];have G:1<=f.aA.length:=by have:=E X;omega
  obtain⟨v,x,A⟩:=su (f:={ f with aH:=f.aH+1 }) G;rw[x];refine⟨_,rfl,?_,?_,?_,fun e=>?_⟩
  ·rw[rN];simp only[mu,r,MS,Mb];omega
  ·rw[(rm _ _).1];exact⟨MO _,I.sends.2.1⟩
  ·rw[ru];exact It _
  ·exact D1 I.heap bJ Z I.sends I.turns I.back (R.ai v A)
 rw[N1 X];have o18:¬i.op=18:=by
  rcases q with⟨h,_⟩|⟨h,_⟩|⟨h,_⟩|⟨h,_⟩|⟨h,_⟩|⟨h,_⟩|⟨h,_⟩|⟨h,_⟩<;>omega
 have o21:¬i.op=21:=by
  rcases q with⟨h,_⟩|⟨h,_⟩|⟨h,_⟩|⟨h,_⟩|⟨h,_⟩|⟨h,_⟩|⟨h,_⟩|⟨h,_⟩<;>omega
 rw[N1 o18,N1 o21];have o19:¬i.op=19:=by
  rcases q with⟨h,_⟩|⟨h,_⟩|⟨h,_⟩|⟨h,_⟩|⟨h,_⟩|⟨h,_⟩|⟨h,_⟩|⟨h,_⟩<;>omega
 have o20:¬i.op=20:=by
  rcases q with⟨h,_⟩|⟨h,_⟩|⟨h,_⟩|⟨h,_⟩|⟨h,_⟩|⟨h,_⟩|⟨h,_⟩|⟨h,_⟩<;>omega
 unfold kO;by_cases o1:i.op=1
 ·rw[N2 o1];exact⟨_,rfl,gu _ R.self (kL d9)⟩
 rw[N1 o1];by_cases o2:i.op=2
 ·rw[N2 o2];have B:0<=i.a/\i.a<m.args:=by
   rcases q with⟨h,_⟩|⟨h,_⟩|⟨h,_⟩|⟨h,_⟩|⟨h,_⟩|⟨h,_⟩|⟨h,_⟩|⟨h,_⟩<;>omega
  obtain⟨v,hv1,x⟩:=db (l:=f.args) B.1 (by rw[R.args];exact B.2);simp only[x,Mf];exact⟨_,rfl,gu v (R.ez v (eG x)) (kL d9)⟩
 rw[N1 o2];by_cases o3:i.op=3
 ·rw[N2 o3];have B:0<=i.a/\i.a<m.a8:=by
   rcases q with⟨h,_⟩|⟨h,_⟩|⟨h,_⟩|⟨h,_⟩|⟨h,_⟩|⟨h,_⟩|⟨h,_⟩|⟨h,_⟩<;>omega
  obtain⟨v,hv1,x⟩:=db (l:=f.a8) B.1 (by rw[R.a8];exact B.2);simp only[x,Mf];exact⟨_,rfl,gu v (R.b8 v (eG x)) (kL d9)⟩
 rw[N1 o3];by_cases o4:i.op=4
 ·rw[N2 o4];exact⟨_,rfl,gu _ (KZ I.heap rfl _ _) (kL d9)⟩
 rw[N1 o4];by_cases o5:i.op=5
 ·rw[N2 o5];have B:-1073741824<=i.a/\i.a<=1073741824:=by
   rcases q with⟨h,_⟩|⟨h,_⟩|⟨h,_⟩|⟨h,_⟩|⟨_,h⟩|⟨h,_⟩|⟨h,_⟩|⟨h,_⟩<;>omega
  exact⟨_,rfl,gu _ (Q9.int _ B) (kL d9)⟩
 rw[N1 o5];by_cases o6:i.op=6
 ·rw[N2 o6];exact⟨_,rfl,gu _ (Q9.nil _) (kL d9)⟩
 rw[N1 o6];by_cases o7:i.op=7
 ·rw[N2 o7];exact⟨_,rfl,gu _ (Q9.zE _) (kL d9)⟩
 rw[N1 o7];by_cases o8:i.op=8
 ·rw[N2 o8];exact⟨_,rfl,gu _ (Q9.zO _) (kL d9)⟩
 rw[N1 o8];have C:i.op=9\/i.op=11\/i.op=12->1<=f.aA.length:=fun hh=>by rw[uy hh] at d;simp only at d;omega
 by_cases o9:i.op=9
 ·rw[N2 o9];obtain⟨v,x,A⟩:=su (f:=f) (C d9);have H:cN { f with aH:=f.aH+1 }=some (v,{ f with aH:=f.aH+1,aA:=f.aA.dropLast }):=by
   obtain⟨M,_⟩:=ij x;unfold cN;rw[show({ f with aH:=f.aH+1 }:j3).aA=f.aA from rfl,M];rfl
  rw[H];exact⟨_,rfl,jU I r rfl rfl rfl rfl I.heap (It _) z fun _=>drop v x (uy d9) f.a8 rfl R.b8⟩
 rw[N1 o9];by_cases J:i.op=10
 ·rw[N2 J];have G:1<=f.aA.length:=by rw[d82 J] at d;simp only at d;omega
  obtain⟨v,x,A⟩:=BG (l:=f.aA) G;simp only[x,Mf];refine⟨_,rfl,jU I r rfl rfl rfl rfl I.heap (It _) z fun _=>?_⟩;rw[d82 J] at b;have:=b (wr (f.aH+1)) l9;rw[D] at this;simp only at this;rw[q9 ino] at this;refine⟨m,h,R.go (f.aH+1) f.a8 (f.aA++[v]) 0 d9 (by rw[this.2];simp) rfl R.b8 (fun u t=>?_)⟩;rcases MT.1 t with t|t
  ·exact R.ai u t
  ·rw[Mh.1 t];exact R.ai v A
 rw[N1 J];by_cases o11:i.op=11
 ·rw[N2 o11];obtain⟨v,x,A⟩:=su (f:=f) (C d9);have H:cN { f with aH:=f.aH+1 }=some (v,{ f with aH:=f.aH+1,aA:=f.aA.dropLast }):=by
   obtain⟨M,_⟩:=ij x;unfold cN;rw[show({ f with aH:=f.aH+1 }:j3).aA=f.aA from rfl,M];rfl
  have B:0<=i.a/\i.a<m.a8:=by
   rcases q with⟨h,_⟩|⟨h,_⟩|⟨h,_⟩|⟨h,_⟩|⟨h,_⟩|⟨h,_⟩|⟨h,_⟩|⟨h,_⟩<;>omega
  simp only[H,A0];rw[N2 ⟨B.1,by rw[R.a8];exact B.2⟩];refine⟨_,rfl,jU I r rfl rfl rfl rfl I.heap (It _) z fun _=>drop v x (uy d9) (f.a8.set i.a.toNat v) Mc fun u t=>?_⟩;rcases List.mem_or_eq_of_mem_set t with t|rfl
  ·exact R.b8 u t
  ·exact R.ai _ A
 rw[N1 o11];by_cases o12:i.op=12
 ·rw[N2 o12];obtain⟨v,x,A⟩:=su (f:=f) (C d9);have H:cN { f with aH:=f.aH+1 }=some (v,{ f with aH:=f.aH+1,aA:=f.aA.dropLast }):=by
   obtain⟨M,_⟩:=ij x;unfold cN;rw[show({ f with aH:=f.aH+1 }:j3).aA=f.aA from rfl,M];rfl
  have B:0<=i.a:=by
   rcases q with⟨h,_⟩|⟨h,_⟩|⟨h,_⟩|⟨h,_⟩|⟨h,_⟩|⟨h,_⟩|⟨h,_⟩|⟨h,_⟩<;>omega
  obtain⟨H',e1,e2,e3⟩:=Kn I.heap (o:=f.aR) (v:=v) (k:=i.a) R.self (R.ai v A) B;simp only[H,A0,e1,Mf];refine⟨_,rfl,jU I r rfl rfl rfl rfl e2 (by simp only[e3];exact It _) z fun _=>?_⟩;simp only[e3];exact drop v x (uy d9) f.a8 rfl R.b8
 rw[N1 o12,N1 o19,N1 o20];by_cases o13:i.op=13
 ·rw[N2 o13];have B:i.a=0\/(4<=i.a/\i.a<w.a7.length):=by
   rcases q with⟨h,_⟩|⟨h,_⟩|⟨h,_⟩|⟨h,_⟩|⟨h,_⟩|⟨_,h⟩|⟨h,_⟩|⟨h,_⟩<;>omega
  by_cases Y:60<=c.heap.length
  ·rw[N2 Y];exact⟨_,rfl,jU I r rfl rfl rfl rfl I.heap (It _) z fun e=>by cases e⟩
  ·rw[N1 Y];have hnew:=Du W I.heap d9 B M;refine⟨_,rfl,jU I r rfl rfl rfl rfl hnew l9 z fun _=>?_⟩;have y:=kL (i:=i) (p:=f.aH) d9;rw[y] at b;have:=b (wr (f.aH+1)) l9;rw[D] at this;simp only at this;rw[q9 ino] at this;obtain⟨m2,h2,R2⟩:dh w ((c.heap++[(⟨i.a,MI (p8 w i.a).toNat ⟨0,0⟩⟩:Ob)]).length:Int) 0 f:=dh.mono ⟨m,h,R⟩ (by simp only[MK,Mx];omega);have R3:Fr w ((c.heap++[(⟨i.a,MI (p8 w i.a).toNat ⟨0,0⟩⟩:Ob)]).length:Int) m h f 0 :=
    ⟨R.bn,R.al,R.code,R.me,R.hi,R.args,R.a8,R.pos,R.aH,R2.self,R2.ez,R2.b8,R2.ai⟩
   show dh w _ 0 { f with aH:=f.aH+1,a8:=f.a8,aA:=f.aA++[⟨4,(c.heap.length:Int)⟩] };refine⟨m,h,R3.go (f.aH+1) f.a8 (f.aA++[⟨4,(c.heap.length:Int)⟩]) 0 d9 (by rw[this.2];simp) rfl R3.b8 (fun u t=>?_)⟩;rcases MT.1 t with t|t
   ·exact R3.ai u t
   ·rw[Mh.1 t];exact Q9.obj L6
 ·exfalso;rcases q with⟨h,_⟩|⟨h,_⟩|⟨h,_⟩|⟨h,_⟩|⟨h,_⟩|⟨h,_⟩|⟨h,_⟩|⟨h,_⟩<;>omega
end
def qI (n:Int):List V->Int
 |[]=>0
 |v::l=>if cc v n=0 then qI n l else cc v n
def tJ (n:Int):List V->H9 Int Unit
 |[]=>.next ()
 |v::l=>if cc v n=0 then tJ n l else .ret (cc v n)
theorem CW (n:Int):∀l:List V,(match tJ n l with|.ret r=>some r|.next ()=>some (0:Int))=some (qI n l)
 |[]=>rfl
 |x::l=>by
  rw[tJ,qI];by_cases a:cc x n=0
  ·rw[N2 a,N2 a];exact CW n l
  ·rw[N1 a,N1 a]
def M5 (w:Wd) (c:P8) (fuel:Int):Int:=if Y1 c.name=false then 7 else if 4<c.args.length then 5 else if fuel<0\/400<fuel then 3 else qI (w.heap.length:Int) (c.aR::c.args)
theorem Be {n:Int}:∀{l:List V},qI n l=0->∀v∈l,Q9 n v
 |[],_,v,a=>by cases a
 |x::l,h,v,a=>by
  unfold qI at h;by_cases b:cc x n=0
  ·rw[N2 b] at h;rcases MG.1 a with rfl|a
   ·exact b
   ·exact Be h v a
  ·rw[N1 b] at h;exact absurd h b
def qo {w:Wd} {c:P8} {fuel:Int} (h:M5 w c fuel=0):Y1 c.name=true/\c.args.length<=4/\0<=fuel/\fuel<=400/\Q9 (w.heap.length:Int) c.aR/\∀v∈c.args,Q9 (w.heap.length:Int) v:=by
 unfold M5 at h;by_cases a:Y1 c.name=false
 ·rw[N2 a] at h;cases h
 rw[N1 a] at h;by_cases b:4<c.args.length
 ·rw[N2 b] at h;cases h
 rw[N1 b] at h;by_cases d:fuel<0\/400<fuel
 ·rw[N2 d] at h;cases h
 rw[N1 d] at h;have:=Be h;exact⟨by simpa using a,d9,d9,d9,this _ l9,fun v e=>this v (by simp[e])⟩
theorem zd (N:Nat) (w:Wd) (c:P8):∀(l:List V) (k:Nat),l=([c.aR]++c.args).drop k->nG N w c l k=some (tJ (w.heap.length:Int) l)
 |[],k,_=>rfl
 |x::l,k,h=>by
  obtain⟨b,d,_⟩:=eE h;rw[nG,D7,b];simp only[A0,Ai];rw[tJ];by_cases a:cc x (w.heap.length:Int)=0
  ·rw[N6 a,N2 a];simp only[MH,N0];exact zd N w c l (k+1) d
  ·rw[N5 a,N1 a];rfl
def uj (N:Nat) (w:Wd) (c:P8) (fuel:Int):pb N w c fuel=some (M5 w c fuel):=by
 unfold pb M5;rw[qu];simp only[A0];cases f:Y1 c.name with
 |false=>rfl
 |true =>
  simp only[MH,N0,Bool.true_eq_false,if_false];by_cases b:4<c.args.length
  ·have a:(4:Int)<(c.args.length:Int):=d9;rw[N6 a,N2 b];rfl
  ·have a:¬(4:Int)<(c.args.length:Int):=d9;rw[N5 a,N1 b];simp only[N0];by_cases d:fuel<0\/400<fuel
   ·rw[N2 d];by_cases e:fuel<0
    ·rw[N6 e];rfl
    ·rw[N5 e,N6 (show 400<fuel by omega)];rfl
   ·rw[N1 d,N5 (show¬fuel<0 by omega),N5 (show¬400<fuel by omega)];simp only[N0,A0];rw[F6 L6,zd N w c ([c.aR]++c.args) 0 rfl];simp only[Mz,A0];exact CW _ _
def cH : Int->Int->Fs×Bool:=fun _ _=>(⟨0,BY,0,0,[]⟩,false)
inductive Path (w:Wd) (fuel:Int) (L:St->Int->ByteArray->Int×Int) (Q:Int->Int->Fs×Bool):Cf->Cf->Prop
 |refl (c:Cf):Path w fuel L Q c c
 |step {c c1 c2:Cf}:c.err=0->c.fs≠[]->P7 w fuel L Q c=some c1->Path w fuel L Q c1 c2->Path w fuel L Q c c2
def Cf.done (c:Cf):Prop:=c.err≠0\/c.fs=[]
theorem Path.trans {w:Wd} {fuel:Int} {L:St->Int->ByteArray->Int×Int} {Q:Int->Int->Fs×Bool} {a b c:Cf} (h:Path w fuel L Q a b) (d:Path w fuel L Q b c):Path w fuel L Q a c:=by
 induction h with
 |refl=>exact d
 |step e f g _ ih=>exact .step e f g (ih d)
theorem Path.oG {w:Wd} {fuel:Int} {L:St->Int->ByteArray->Int×Int} {Q:Int->Int->Fs×Bool} {a b c:Cf} (h:Path w fuel L Q a b) (d:b.done) (i:Path w fuel L Q a c) (e:c.done):b=c:=by
 induction h with
 |refl =>
  cases i with
  |refl=>rfl
  |step f g=>rcases d with d|d;exact absurd f d;exact absurd d g
 |step f g k _ ih =>
  cases i with
  |refl=>rcases e with e|e;exact absurd f e;exact absurd e g
  |step m n j l =>
   rw[k] at j;cases j;exact ih d l
theorem Da {w:Wd} {fuel:Int} {N:Nat} {gl:St->Int->ByteArray->Option (Int×Int)} {gq:Int->Int->Option (Fs×Bool)} {L:St->Int->ByteArray->Int×Int} {Q:Int->Int->Fs×Bool} (p:1048578<=N)
  (e:∀s k n,gl s k n=some (L s k n)) (g:∀k j x m,j4 w.a7 k=some x->j4 x.aB j=some m->gq k j=some (Q k j)) (P:Cf->Prop)
  (q:∀c,P c->c.err=0->c.fs≠[]->Wk w Q c/\∃d,P7 w fuel L Q c=some d/\mu fuel d<mu fuel c/\(d.err=0->P d)):∀(n:Nat) (c:Cf),(c.err=0->P c)->mu fuel c<n ->
  ∃c',Path w fuel L Q c c'/\c'.done/\(c'.err=0->P c')/\kD N gl gq n w.a7 c.heap w.aC fuel c.sends c.turns c.fs.reverse c.back.k c.back.n c.err =
   some (w.a7,c'.heap,w.aC,fuel,c'.sends,c'.turns,c'.fs.reverse,c'.back.k,c'.back.n,c'.err)
 |0,c,_,h=>d9
 |n+1,c,l,h=>by
  rw[kD];by_cases b:c.err=0
  ·cases a:c.fs with
   |nil =>
    refine⟨c,.refl c,.inr a,l,?_⟩;simp[b,a]
   |cons f F =>
    obtain⟨W,d,o,z,r⟩:=q c (l b) b (by rw[a];simp);obtain⟨c',t,u,v,y⟩:=Da p e g P q n d r d9;refine⟨c',.step b (by rw[a];simp) o t,u,v,?_⟩;have i:=KQ p e g c W b o;have hl:(0:Int)<((f::F).reverse.length:Int):=l9;unfold Cf.toM at i;rw[a] at i;simp only[b,N3,Mz,hl,A0,iM];rw[b] at i;rw[i];simp only[A0];exact y
  ·refine⟨c,.refl c,.inl b,l,?_⟩;simp[b]
def hB (w:Wd) (c:Cf):Wd×dw:=if c.err=0 then(⟨w.a7,c.heap,w.aC⟩,⟨c.back,0,c.sends⟩) else(w,⟨⟨0,0⟩,c.err,c.sends⟩)
def Z9 (w:Wd):Cf:=⟨w.heap,0,0,[],⟨0,0⟩,0,[]⟩
def fy (w:Wd) (fuel:Int) (Q:Int->Int->Fs×Bool) (c:P8):Option Cf :=
 if(l7 w c.name (G7 w.heap c.aR)).2<0 then some (V4 (Z9 w) 10) else fX w fuel Q (Z9 w) (l7 w c.name (G7 w.heap c.aR)).1 (l7 w c.name (G7 w.heap c.aR)).2 c.aR c.args
def ll {fuel:Int} {c:Cf} (a:fuel<=400) (d:0<=c.sends) (e:0<=c.turns) (b:(c.fs.map Z6).sum<=100000):mu fuel c<1048576:=by
 unfold mu;omega
def GO {w:Wd} {fuel:Int} {Q:Int->Int->Fs×Bool} (W:cZ w) (r:0<w.a7.length) (t:∀k j,(Q k j).2=false) {c c':Cf} (p:Path w fuel (fun _ k s=>l7 w s k) Q c c') (u:c.sends<=fuel) (g:c.err=0->cy w fuel c) :
  c.sends<=c'.sends/\c'.sends<=fuel/\c.heap.length<=c'.heap.length/\(c'.err=0->cy w fuel c'):=by
 induction p with
 |refl=>exact⟨MO _,u,It _,g⟩
 |@step c v x h d e _ ih =>
  cases a:c.fs with
  |nil=>exact absurd a d
  |cons f F =>
   obtain⟨q,i,b⟩:=rL (Q:=Q) W r t (g h) h a;rw[e] at i;cases i;obtain⟨l,m,n,o⟩:=ih b.sends.2 b.inv;exact⟨Int.le_trans b.sends.1 l,m,Nat.le_trans b.heap n,o⟩
def x9 {w:Wd} {N:Nat} (h:I6 N w):gm w w.heap:=⟨h.many.2.2,fun o a=>by
 have:=h.obj o a;exact⟨this.1,this.2.1,this.2.2.1,this.2.2.2.1,this.2.2.2.2⟩⟩
def vC {w:Wd} {N:Nat} {fuel:Int} {Q:Int->Int->Fs×Bool} (v:4194304<=N) (B:D6 w) (i:I6 N w) (y:∀k j,(Q k j).2=false) (c:P8) (C:M5 w c fuel=0) :
  ∃a,fy w fuel Q c=some a/\0<=a.sends/\a.sends<=fuel/\a.heap=w.heap/\mu fuel a<1048576/\(a.err=0->cy w fuel a):=by
 have W:=i.od v B;obtain⟨E,F,d,f,t,u⟩:=qo C;have b:mu fuel (Z9 w)<1048576:=ll f (MO _) (MO _) (by simp[Z9]);unfold fy;by_cases h:(l7 w c.name (G7 w.heap c.aR)).2<0
 ·rw[N2 h];exact⟨_,rfl,MO _,d,rfl,b,fun e=>by cases e⟩
 ·rw[N1 h];obtain⟨x,m,D,A,_⟩:=sX (w:=w) (s:=c.name) (c:=G7 w.heap c.aR) d9;obtain⟨a,l,n,o,p,q,r⟩:=CJ (Q:=Q) (fuel:=fuel) W y (Z9 w) rfl (x9 i) (by simp[Z9]) (fun g z=>by cases z) ⟨MO _,d,f⟩ ⟨MO _,by simp[Z9]⟩ (Q9.nil _) _ _ c.aR c.args t u ⟨x,m,D,A⟩;exact⟨a,l,n,o,p,Nat.lt_of_le_of_lt q b,r⟩
def AY {w:Wd} {N:Nat} {fuel:Int} {gl:St->Int->ByteArray->Option (Int×Int)} {gq:Int->Int->Option (Fs×Bool)} (a:D6 w) (c:P8) (b:M5 w c fuel≠0) :
  iK N w c fuel gl gq=some (w,⟨⟨0,0⟩,M5 w c fuel,0⟩):=by
 unfold iK;rw[uj];simp only[A0];rw[N5 b,ib N w a];rfl
def DI {w:Wd} {N:Nat} {fuel:Int} {gl:St->Int->ByteArray->Option (Int×Int)} {gq:Int->Int->Option (Fs×Bool)} {L:St->Int->ByteArray->Int×Int} {Q:Int->Int->Fs×Bool} (hN:4194304<=N) (i:D6 w) (R:dS w)
  (u:∀s k n,gl s k n=some (L s k n)) (h:∀k j x m,j4 w.a7 k=some x->j4 x.aB j=some m->gq k j=some (Q k j)) (P:Cf->Prop)
  (H:∀c,P c->c.err=0->c.fs≠[]->Wk w Q c/\∃a,P7 w fuel L Q c=some a/\mu fuel a<mu fuel c/\(a.err=0->P a))
  (K:∀x∈w.a7,∀m∈x.aB,0<=m.a8/\m.a8<=1000) (O:∀k j,(Q k j).2=true->0<=(Q k j).1.a8/\(Q k j).1.a8<=1000)
  (c:P8) (E:M5 w c fuel=0) (a:Cf) (g:fy w fuel Q c=some a) (r:a.err=0->P a) (M:mu fuel a<1048576) :
  ∃c',Path w fuel L Q a c'/\c'.done/\(c'.err=0->P c')/\iK N w c fuel gl gq=some (hB w c'):=by
 obtain⟨h1,h2,h3,h4,F,G⟩:=qo E;obtain⟨c',T,U,W,X⟩:=Da (N:=N) (gl:=gl) (gq:=gq) d9 u h P H N a r d9;refine⟨c',T,U,W,?_⟩;unfold iK;rw[uj];simp only[A0,E,N3,MH,N0,ib N w i,rH];have t:fR N (⟨w.a7,w.heap,w.aC⟩:Wd) (G7 w.heap c.aR) c.name=some (l7 w c.name (G7 w.heap c.aR)):=lH N w _ _ d9 R i;rw[t];simp only[A0];have b:(kD N gl gq N w.a7 a.heap w.aC fuel a.sends a.turns a.fs.reverse a.back.k a.back.n a.err).bind (fun(z,A,B,Y,l,Z,v53,C,D,o) =>
   (bif (!decide (o=(0:Int))) then((gd N w).bind fun y=>some (y,(⟨(⟨(0:Int),(0:Int)⟩:V),o,l⟩:dw))) else some ((⟨z,A,B⟩:Wd),(⟨(⟨C,D⟩:V),(0:Int),l⟩:dw))))=some (hB w c'):=by
  rw[X];simp only[A0,ib N w i,hB];by_cases p:c'.err=0
  ·rw[N6 p,N2 p];rfl
  ·rw[N5 p,N1 p];rfl
 unfold fy at g;by_cases q:(l7 w c.name (G7 w.heap c.aR)).2<0
 ·rw[N2 q] at g;cases g;rw[N6 q];simp only[Mz,ir,A0];simp only[ib N w i] at b;exact b
 ·rw[N1 q] at g;rw[N5 q];have d:c.aR.k=3->gK c.aR.n:=F.num;have I:=rV g;have:=vN (N:=N) h K O (Z9 w) rfl (by simp[Z9]) (by simp[Z9]) (fun f t=>by cases t) _ _ c.aR c.args d (fun v S J=>(G v S).num J) d9 a g;have e:(Z9 w).toM w fuel=(⟨(⟨w.a7,w.heap,w.aC⟩:Wd),fuel,0,0,[],⟨0,0⟩,0⟩:D5):=rfl;rw[e] at this;simp only[N0,this,A0];simp only[ib N w i] at b;rw[I] at b;exact b
def iT (w:Wd) (c:P8) (fuel:Int) (Q:Int->Int->Fs×Bool) (r:Wd×dw):Prop :=
 (M5 w c fuel≠0/\r=(w,⟨⟨0,0⟩,M5 w c fuel,0⟩)) \/
 (M5 w c fuel=0/\∃a c',fy w fuel Q c=some a/\Path w fuel (fun _ k s=>l7 w s k) Q a c'/\c'.done/\r=hB w c')
theorem iT.oG {w:Wd} {c:P8} {fuel:Int} {Q:Int->Int->Fs×Bool} {r s:Wd×dw} (h:iT w c fuel Q r) (f:iT w c fuel Q s):r=s:=by
 rcases h with⟨b,d⟩|⟨b,n,c',d,g,i,j⟩<;>rcases f with⟨e,a⟩|⟨e,p,o,a,k,l,m⟩
 ·rw[d,a]
 ·exact absurd e b
 ·exact absurd b e
 ·rw[d] at a;cases a;rw[j,m,Path.oG g i k l]
def qa (w:Wd) (c:P8) (fuel:Int) (r:Wd×dw) (ev:List (St×Int)):Prop :=
 (M5 w c fuel≠0/\r=(w,⟨⟨0,0⟩,M5 w c fuel,0⟩)/\ev=[]) \/
 (M5 w c fuel=0/\∃a c',fy w fuel cH c=some a/\Path w fuel (fun _ k s=>l7 w s k) cH a c'/\c'.done/\r=hB w c'/\ev=c'.ev)
theorem qa.ew {w:Wd} {c:P8} {fuel:Int} {r:Wd×dw} {ev:List (St×Int)} (h:qa w c fuel r ev):iT w c fuel cH r:=by
 rcases h with⟨a,b,_⟩|⟨a,d,c',b,e,f,g,_⟩
 ·exact .inl ⟨a,b⟩
 ·exact .inr ⟨a,d,c',b,e,f,g⟩
theorem qa.oG {w:Wd} {c:P8} {fuel:Int} {r s:Wd×dw} {ev a:List (St×Int)} (h:qa w c fuel r ev) (j:qa w c fuel s a):r=s/\ev=a:=by
 rcases h with⟨d,e,f⟩|⟨d,q,c',e,f,k,l,m⟩<;>rcases j with⟨g,b,i⟩|⟨g,u,t,b,i,n,o,p⟩
 ·rw[e,b,f,i];exact⟨rfl,rfl⟩
 ·exact absurd g d
 ·exact absurd d g
 ·rw[e] at b;cases b;have:=Path.oG f k i n;subst this;rw[l,o,m,p];exact⟨rfl,rfl⟩
def DS {w:Wd} {N:Nat} {fuel:Int} {gl:St->Int->ByteArray->Option (Int×Int)} {gq:Int->Int->Option (Fs×Bool)} {Q:Int->Int->Fs×Bool} (i:4194304<=N) (g:D6 w) (e:I6 N w) (l:∀k j,(Q k j).2=false)
  (p:∀s k n,gl s k n=some (l7 w n k)) (q:∀k j x m,j4 w.a7 k=some x->j4 x.aB j=some m->gq k j=some (Q k j)) (c:P8):∃r,iK N w c fuel gl gq=some r/\iT w c fuel Q r:=by
 by_cases b:M5 w c fuel=0
 ·have W:=e.od i g;have o:0<w.a7.length:=by have:=e.many.1;omega
  have v:∀k j,(Q k j).2=true->0<=(Q k j).1.a8/\(Q k j).1.a8<=1000:=fun k j h=>by rw[l] at h;cases h
  obtain⟨d,u,H,J,K,z,A⟩:=vC (Q:=Q) i g e l c b;obtain⟨c',D,E,M,G⟩:=DI (L:=fun _ k s=>l7 w s k) i g e.cq p q (cy w fuel) (fun c I B t=>by
   refine⟨I.wk W v,?_⟩;cases a:c.fs with
   |nil=>exact absurd a t
   |cons f F =>
    obtain⟨d,C,y⟩:=rL (Q:=Q) W o l I B a;exact⟨d,C,y.mu,y.inv⟩) W.a8 v c b d u A z
  exact⟨_,G,.inr ⟨b,d,c',u,D,E,rfl⟩⟩
 ·exact⟨_,AY g c b,.inl ⟨b,rfl⟩⟩
def HV {w:Wd} {N:Nat} (i:4194304<=N) (f:D6 w) (e:I6 N w) (c:P8) (fuel:Int):∃r,sK N w c fuel=some r/\iT w c fuel cH r:=by
 obtain⟨r,g,h⟩:=DS (fuel:=fuel) (gl:=fun a b d=>pK N a b d w) (gq:=fun a b=>ph N a b) (Q:=cH) i f e (fun _ _=>rfl) (fun s k n=>by
  show pK N s k n w=_;unfold pK;rw[lH N w k n d9 e.cq f];rfl) (fun k j x m _ _=>rfl) c
 refine⟨r,?_,h⟩;unfold sK;rw[g];rfl
def yk (w:Wd) (gl:St->Int->ByteArray->C9->Option (Int×Int×C9)) (L:St->Int->ByteArray->Int×Int) (T:C9->St×Int->C9) (sb:C9) (c:Cf):Prop :=
 ∀f F i x m k,c.fs=f::F->j4 f.code f.aH=some i->i.op=14->j4 w.a7 f.aI=some x->j4 x.aB f.aL=some m ->
  gl (R6 f m i f.aH) k i.name (c.ev.foldl T sb)=some ((L (R6 f m i f.aH) k i.name).1,(L (R6 f m i f.aH) k i.name).2,T (c.ev.foldl T sb) (R6 f m i f.aH,k))
section
variable {w:Wd} {fuel:Int} {N:Nat} {gl:St->Int->ByteArray->C9->Option (Int×Int×C9)} {gq:Int->Int->Option (Fs×Bool)} {L:St->Int->ByteArray->Int×Int} {Q:Int->Int->Fs×Bool}
def s9 {c c':Cf} {k j:Int} {self:V} {args:List V} (h:fX w fuel Q c k j self args=some c'):c'.ev=c.ev/\(c'.err≠0\/c'.sends=c.sends+1):=by
 obtain⟨x,m,_,_,h|h|⟨_,_,_,a,_,h|h⟩|h|h⟩:=pQ h
 ·rw[h.2];exact⟨rfl,.inl (by simp[V4])⟩
 ·rw[h.2.2];exact⟨rfl,.inl (by simp[V4])⟩
 ·rw[h.2];exact⟨rfl,.inl h.1⟩
 ·rw[h.2];exact⟨(rm _ _).2.2.2,.inr (rm _ _).1⟩
 ·rw[h.2.2.2.2];exact⟨rfl,.inl (by simp[V4])⟩
 ·rw[h.2.2.2.2];exact⟨rfl,.inr rfl⟩
def Iq {c c':Cf} {f:j3} {F:List j3} {i:Ins} (h:kO w c f F i=some c'):c'.ev=c.ev:=by
 unfold kO at h;by_cases k:i.op=1
 ·rw[N2 k] at h;cases h;rfl
 rw[N1 k] at h;by_cases l:i.op=2
 ·rw[N2 l] at h;rw[MM] at h;obtain⟨_,_,rfl⟩:=h;rfl
 rw[N1 l] at h;by_cases m:i.op=3
 ·rw[N2 m] at h;rw[MM] at h;obtain⟨_,_,rfl⟩:=h;rfl
 rw[N1 m] at h;by_cases n:i.op=4
 ·rw[N2 n] at h;cases h;rfl
 rw[N1 n] at h;by_cases o:i.op=5
 ·rw[N2 o] at h;cases h;rfl
 rw[N1 o] at h;by_cases p:i.op=6
 ·rw[N2 p] at h;cases h;rfl
 rw[N1 p] at h;by_cases q:i.op=7
 ·rw[N2 q] at h;cases h;rfl
 rw[N1 q] at h;by_cases r:i.op=8
 ·rw[N2 r] at h;cases h;rfl
 rw[N1 r] at h;by_cases s:i.op=9
 ·rw[N2 s] at h;rw[MM] at h;obtain⟨_,_,rfl⟩:=h;rfl
 rw[N1 s] at h;by_cases a:i.op=10
 ·rw[N2 a] at h;rw[MM] at h;obtain⟨_,_,rfl⟩:=h;rfl
 rw[N1 a] at h;by_cases b:i.op=11
 ·rw[N2 b] at h;obtain⟨_,_,h⟩:=N7 h;split at h<;>cases h;rfl
 rw[N1 b] at h;by_cases d:i.op=12
 ·rw[N2 d] at h;obtain⟨_,_,h⟩:=N7 h;rw[MM] at h;obtain⟨_,_,rfl⟩:=h;rfl
 rw[N1 d] at h;by_cases g:i.op=19
 ·rw[N2 g] at h;rw[MM] at h;obtain⟨_,_,rfl⟩:=h;rfl
 rw[N1 g] at h;by_cases j:i.op=20
 ·rw[N2 j] at h;obtain⟨_,_,h⟩:=N7 h;obtain⟨_,_,h⟩:=N7 h;rw[MM] at h;obtain⟨_,_,rfl⟩:=h;rfl
 rw[N1 j] at h;by_cases e:i.op=13
 ·rw[N2 e] at h;split at h<;>cases h<;>rfl
 rw[N1 e] at h;cases h;rfl
def D2 {c c':Cf} (h:P7 w fuel L Q c=some c'):c'.ev=c.ev\/∃f F i x m k,c.fs=f::F/\j4 f.code f.aH=some i/\i.op=14/\j4 w.a7 f.aI=some x/\j4 x.aB f.aL=some m /\
  c'.ev=c.ev++[(R6 f m i f.aH,k)]/\(((L (R6 f m i f.aH) k i.name).2<0/\c'.err=10)\/(0<=(L (R6 f m i f.aH) k i.name).2/\(c'.err≠0\/c'.sends=c.sends+1))):=by
 unfold P7 at h;cases e:c.fs with
 |nil=>rw[e] at h;cases h
 |cons f F =>
  rw[e] at h;obtain⟨i,hi,h⟩:=N7 h;by_cases b:i.op=14
  ·rw[N2 b] at h;obtain⟨x,cl,m,_,_,_,d,g,h⟩:=pd h;right;rcases h with⟨a,h⟩|⟨a,h⟩
   ·exact⟨f,F,i,cl,m,_,rfl,hi,b,d,g,by rw[h];rfl,.inl ⟨a,by rw[h];rfl⟩⟩
   ·exact⟨f,F,i,cl,m,_,rfl,hi,b,d,g,(s9 h).1,.inr ⟨a,(s9 h).2⟩⟩
  left;rw[N1 b] at h;split at h
  ·cases h;unfold cS;split<;>rfl
  split at h
  ·rw[MM] at h;obtain⟨q,_,rfl⟩:=h;unfold kW;split
   ·unfold cS;split<;>rfl
   ·split<;>rfl
  split at h
  ·rw[MM] at h;obtain⟨q,_,rfl⟩:=h;unfold dG;split<;>rfl
  split at h
  ·unfold lr at h;split at h
   ·obtain⟨x,_,h⟩:=N7 h;split at h
    ·cases h;rfl
    ·obtain⟨cl,_,h⟩:=N7 h;obtain⟨m,_,h⟩:=N7 h;split at h<;>cases h;rfl
   ·cases h
  split at h
  ·cases h;unfold iE;split
   ·rfl
   ·split<;>rfl
  exact Iq h
def IU {sb:C9} {T:C9->St×Int->C9} (s:∀k j x m,j4 w.a7 k=some x->j4 x.aB j=some m->gq k j=some (Q k j))
  (c:Cf) (W:Wk w Q c) (n:c.err=0) (f:j3) (F:List j3) (o:bx f) (B:∀f∈F,bx f) (C:F.length<=899) (i:Ins) (p:Int) (r:∀x m k,j4 w.a7 f.aI=some x->j4 x.aB f.aL=some m->gl (R6 f m i p) k i.name sb=some ((L (R6 f m i p) k i.name).1,(L (R6 f m i p) k i.name).2,T sb (R6 f m i p,k))) {c':Cf} (h:kU w fuel L Q c f F i p=some c') :
  ∃e,c'.ev=c.ev++[e]/\r7 N ⟨⟨w.a7,c.heap,w.aC⟩,fuel,c.sends,c.turns,(f::F).reverse,c.back,c.err⟩ gl gq sb F.length i p=some (T sb e,c'.toM w fuel):=by
 obtain⟨x,cl,m,H,I,u,d,t,h⟩:=pd h;have hl:=o.aA;have e1:wr ((f.aA.length:Int)-i.a)=((f.aA.length-i.a.toNat:Nat):Int):=by rw[q9 ino];omega
 have A:wr (((f.aA.length-i.a.toNat:Nat):Int)-1)=((f.aA.length-i.a.toNat-1:Nat):Int):=by rw[q9 ino];omega
 have y:(decide ((0:Int)<=((f.aA.length-i.a.toNat:Nat):Int)) && decide (((f.aA.length-i.a.toNat:Nat):Int)<=(f.aA.length:Int)))=true:=by simp only[IT,NA];omega
 have z:(decide ((0:Int)<=((f.aA.length-i.a.toNat-1:Nat):Int)) && decide (((f.aA.length-i.a.toNat-1:Nat):Int)<=(f.aA.length:Int)))=true:=by simp only[IT,NA];omega
 have b:((bif f.aY then some i.c else some p):Option Int)=some (R6 f m i p).pos:=by unfold R6;cases f.aY<;>rfl
 have E:(⟨f.aI,m.name,(R6 f m i p).pos⟩:St)=R6 f m i p:=rfl;refine⟨(R6 f m i p,G7 c.heap x),?_,?_⟩
 ·rcases h with⟨l,rfl⟩|⟨l,h⟩
  ·rfl
  ·rw[(s9 h).1]
 unfold r7;simp only[ct,A0,e1,A,y,z,Mz,Mg,D7,u,d,t,rH,r cl m (G7 c.heap x) d t,b,E,n,ir,eI,
  uH N (show(f.aA.drop (f.aA.length-i.a.toNat)).length<=1048576 by simp;omega)]
 rcases h with⟨l,rfl⟩|⟨l,h⟩
 ·simp only[l,N3,Mz];rfl
 ·rw[N5 d9];simp only[N0];have:=vN (N:=N) s W.al W.quick _ (by exact n) (by have:=W.sends;exact⟨this.1,bJ⟩) L6 (fun g q=>by
    rcases MG.1 q with rfl|q
    ·simp;omega
    ·exact(B g q).aA) _ _ x _ (o.num x (MP u)) (fun v G=>o.num v (List.mem_of_mem_drop G)) L6 c' h
  simp only[Cf.toM,n] at this;rw[this];simp only[A0,Cf.toM];have D:c'.heap=c.heap:=(rV h).trans rfl;rw[D]
def d77 {T:C9->St×Int->C9} {sb:C9} (hN:1048578<=N) (K:∀k j x m,j4 w.a7 k=some x->j4 x.aB j=some m->gq k j=some (Q k j))
  (c:Cf) (W:Wk w Q c) (y:c.err=0) (E:yk w gl L T sb c) {c':Cf} (h:P7 w fuel L Q c=some c'):r6 N (c.toM w fuel) gl gq (c.ev.foldl T sb)=some (c'.ev.foldl T sb,c'.toM w fuel):=by
 have v:=h;unfold P7 at h;cases l:c.fs with
 |nil=>rw[l] at h;cases h
 |cons f F =>
  rw[l] at h;obtain⟨i,hi,h⟩:=N7 h;have u:=W.fs;rw[l] at u;simp only[ML] at u;have C:bx f:=W.fr f (by rw[l];simp);have U:∀g∈F,bx g:=fun g z=>W.fr g (by rw[l];simp[z]);have hp:=fU hi;have bj:=C.code;have wp:wr (f.aH+1)=f.aH+1:=q9 ino;have wt:=tE (f:=f) (F:=F) d9;generalize z:({ f with aH:=f.aH+1 }:j3)=g at h;have o:g.aA.length<=1000:=by rw[<-z];exact C.aA
  have G:bx g:=by rw[<-z];exact⟨C.aA,C.code,C.num⟩
  unfold r6 Cf.toM;have Y:∀(x:Cf),(⟨⟨w.a7,x.heap,w.aC⟩,fuel,x.sends,x.turns,x.fs.reverse,⟨x.back.k,x.back.n⟩,x.err⟩:D5)=x.toM w fuel:=fun x=>rfl;simp only[l,wt,wp,wq,hi,A0,Mg,eI,z];by_cases b:i.op=14
  ·rw[N2 b] at h;obtain⟨e,e1,this⟩:=IU (gl:=gl) (N:=N) (sb:=c.ev.foldl T sb) (T:=T) K c W y g F G U d9 i f.aH (by subst z;intro x m k O hm;exact E f F i x m k l hi b O hm) h;have M:=AU h;rw[e1,List.foldl_append];simp only[b,this,N3,Mz,A0,Cf.toM,iM,M,List.foldl_cons,List.foldl_nil]
  have B:c'.ev=c.ev:=by
   rcases D2 v with Z|⟨f',F',i',_,_,_,R,S,V,_⟩
   ·exact Z
   ·rw[l] at R;cases R;rw[hi] at S;cases S;exact absurd V b
  rw[B];clear B v E;generalize c.ev.foldl T sb=s0;rw[N1 b] at h;by_cases p:i.op=15
  ·rw[N2 p] at h;cases h;have:=vQ (w:=w) (fuel:=fuel) (N:=N) c g F i.a y (by have:=W.turns;omega);simp only[p,this,N3,Mz,A0,Cf.toM];unfold cS;split<;>rfl
  rw[N1 p] at h;by_cases d:i.op=16
  ·rw[N2 d] at h;rw[MM] at h;obtain⟨q,I,rfl⟩:=h;have:=vQ (w:=w) (fuel:=fuel) (N:=N) c q.2 F i.a y (by have:=W.turns;omega);unfold kW;by_cases A:q.1.k=1
   ·simp only[d,jm I o,this,A,N3,Mz,A0,Cf.toM,if_true];unfold cS;split<;>rfl
   ·by_cases J:q.1.k=2
    ·simp only[d,jm I o,J,N3,Mz,A0,if_true];rfl
    ·simp only[d,jm I o,A,J,y,ir,N3,N4,Mz,N0,A0,if_false];rfl
  rw[N1 d] at h;by_cases r:i.op=17
  ·rw[N2 r] at h;rw[MM] at h;obtain⟨q,I,rfl⟩:=h;have P:=tE (f:=q.2) (F:=F) d9;have D:=xu (w:=w) (fuel:=fuel) (N:=N) { c with fs:=F } q.1 bJ (fun x O=>(U x O).aA);simp only[Cf.toM] at D;have X:(decide ((0:Int)<=(F.length:Int)) && decide ((F.length:Int)<=((q.2::F).reverse.length:Int)))=true:=L6;simp only[N5 b,N5 p,N5 d,N6 r,jm I o,P,X,Mg,D3,D,Mz,N0,A0,iM,ru]
  rw[N1 r] at h;by_cases s:i.op=18
  ·rw[N2 s] at h;have:=CO (w:=w) (fuel:=fuel) (N:=N) c g F i o h;have M:c'.heap=c.heap:=by
    unfold lr at h;split at h
    ·obtain⟨x,_,h⟩:=N7 h;split at h
     ·cases h;rfl
     ·obtain⟨cl,_,h⟩:=N7 h;obtain⟨m,_,h⟩:=N7 h;split at h<;>cases h;rfl
    ·cases h
   simp only[N5 b,N5 p,N5 d,N5 r,N6 s,this,Mz,N0,A0,Cf.toM,iM,M]
  rw[N1 s] at h;by_cases t:i.op=21
  ·rw[N2 t] at h;cases h;have:=xr (N:=N) (cl:=w.a7) (H:=c.heap) (ep:=w.aC) (fuel:=fuel) (sends:=c.sends) (turns:=c.turns) (back:=c.back) (g::F).reverse true (by have:=W.sends;omega);simp only[t,y,this,N3,Mz,A0];unfold iE;by_cases A:fuel<=c.sends
   ·simp only[A,if_true];rfl
   ·by_cases J:20<=(g::F).length
    ·simp only[A,J,List.length_reverse,if_true,if_false,and_self];rfl
    ·simp only[A,J,List.length_reverse,if_false,and_false];rfl
  rw[N1 t] at h;have:=Ba (w:=w) (fuel:=fuel) (N:=N) c W hN y g F G i h;simp only[b,p,d,r,s,t,this,N4,N0,A0,Cf.toM,iM]
end
theorem C6 {w:Wd} {fuel:Int} {N:Nat} {gl:St->Int->ByteArray->C9->Option (Int×Int×C9)} {T:C9->St×Int->C9} {sb:C9} {gq:Int->Int->Option (Fs×Bool)} {L:St->Int->ByteArray->Int×Int} {Q:Int->Int->Fs×Bool} (p:1048578<=N)
  (e:∀k j x m,j4 w.a7 k=some x->j4 x.aB j=some m->gq k j=some (Q k j)) (P:Cf->Prop)
  (q:∀c,P c->c.err=0->c.fs≠[]->Wk w Q c/\yk w gl L T sb c/\∃d,P7 w fuel L Q c=some d/\mu fuel d<mu fuel c/\(d.err=0->P d)):∀(n:Nat) (c:Cf),(c.err=0->P c)->mu fuel c<n ->
  ∃c',Path w fuel L Q c c'/\c'.done/\(c'.err=0->P c')/\n4 N gl gq n (c.ev.foldl T sb) w.a7 c.heap w.aC fuel c.sends c.turns c.fs.reverse c.back.k c.back.n c.err =
   some (c'.ev.foldl T sb,w.a7,c'.heap,w.aC,fuel,c'.sends,c'.turns,c'.fs.reverse,c'.back.k,c'.back.n,c'.err)
 |0,c,_,h=>d9
 |n+1,c,i,h=>by
  rw[n4];by_cases b:c.err=0
  ·cases a:c.fs with
   |nil =>
    refine⟨c,.refl c,.inr a,i,?_⟩;simp[b,a]
   |cons f F =>
    obtain⟨W,l,d,o,y,r⟩:=q c (i b) b (by rw[a];simp);obtain⟨c',s,t,u,v⟩:=C6 p e P q n d r d9;refine⟨c',.step b (by rw[a];simp) o s,t,u,?_⟩;have g:=d77 p e c W b l o;have hl:(0:Int)<((f::F).reverse.length:Int):=l9;unfold Cf.toM at g;rw[a] at g;simp only[b,N3,Mz,hl,A0,iM];rw[b] at g;rw[g];simp only[A0];exact v
  ·refine⟨c,.refl c,.inl b,i,?_⟩;simp[b]
def HR {w:Wd} {N:Nat} {fuel:Int} {gl:St->Int->ByteArray->C9->Option (Int×Int×C9)} {sb:C9} {gq:Int->Int->Option (Fs×Bool)} (a:D6 w) (c:P8) (b:M5 w c fuel≠0) :
  mT N w c fuel gl sb gq=some (w,⟨⟨0,0⟩,M5 w c fuel,0⟩,sb):=by
 unfold mT;rw[uj];simp only[A0];rw[N5 b,ib N w a];rfl
def d99 {w:Wd} {N:Nat} {fuel:Int} {gl:St->Int->ByteArray->C9->Option (Int×Int×C9)} {T:C9->St×Int->C9} {sb:C9} {gq:Int->Int->Option (Fs×Bool)} {L:St->Int->ByteArray->Int×Int} {Q:Int->Int->Fs×Bool} (hN:4194304<=N) (i:D6 w) (S:dS w)
  (h:∀k j x m,j4 w.a7 k=some x->j4 x.aB j=some m->gq k j=some (Q k j)) (P:Cf->Prop)
  (I:∀c,P c->c.err=0->c.fs≠[]->Wk w Q c/\yk w gl L T sb c/\∃a,P7 w fuel L Q c=some a/\mu fuel a<mu fuel c/\(a.err=0->P a))
  (M:∀x∈w.a7,∀m∈x.aB,0<=m.a8/\m.a8<=1000) (R:∀k j,(Q k j).2=true->0<=(Q k j).1.a8/\(Q k j).1.a8<=1000)
  (c:P8) (E:M5 w c fuel=0) (a:Cf) (d:fy w fuel Q c=some a) (s:a.err=0->P a) (O:mu fuel a<1048576) :
  ∃c',Path w fuel L Q a c'/\c'.done/\(c'.err=0->P c')/\mT N w c fuel gl sb gq=some ((hB w c').1,(hB w c').2,c'.ev.foldl T sb):=by
 obtain⟨h1,h2,h3,h4,G,H⟩:=qo E;obtain⟨c',W,X,Y,F⟩:=C6 (N:=N) (gl:=gl) (gq:=gq) d9 h P I N a s d9;have t:a.ev=[]:=by
  unfold fy at d;split at d
  ·cases d;rfl
  ·exact(s9 d).1
 rw[t] at F;refine⟨c',W,X,Y,?_⟩;unfold mT;rw[uj];simp only[A0,E,N3,MH,N0,ib N w i,rH];have u:fR N (⟨w.a7,w.heap,w.aC⟩:Wd) (G7 w.heap c.aR) c.name=some (l7 w c.name (G7 w.heap c.aR)):=lH N w _ _ d9 S i;rw[u];simp only[A0];have b:(n4 N gl gq N sb w.a7 a.heap w.aC fuel a.sends a.turns a.fs.reverse a.back.k a.back.n a.err).bind (fun(l,z,A,B,Z,o,v52,v53,C,D,p) =>
   (bif (!decide (p=(0:Int))) then((gd N w).bind fun y=>some (y,(⟨(⟨(0:Int),(0:Int)⟩:V),p,o⟩:dw),l)) else some ((⟨z,A,B⟩:Wd),(⟨(⟨C,D⟩:V),(0:Int),o⟩:dw),l)))=some ((hB w c').1,(hB w c').2,c'.ev.foldl T sb):=by
  rw[show sb=([]:List (St×Int)).foldl T sb from rfl,F];simp only[A0,ib N w i,hB];by_cases q:c'.err=0
  ·rw[N6 q,N2 q];rfl
  ·rw[N5 q,N1 q];rfl
 unfold fy at d;by_cases r:(l7 w c.name (G7 w.heap c.aR)).2<0
 ·rw[N2 r] at d;cases d;rw[N6 r];simp only[Mz,ir,A0];simp only[ib N w i] at b;exact b
 ·rw[N1 r] at d;rw[N5 r];have g:c.aR.k=3->gK c.aR.n:=G.num;have J:=rV d;have:=vN (N:=N) h M R (Z9 w) rfl (by simp[Z9]) (by simp[Z9]) (fun f u=>by cases u) _ _ c.aR c.args g (fun v U K=>(H v U).num K) d9 a d;have e:(Z9 w).toM w fuel=(⟨(⟨w.a7,w.heap,w.aC⟩:Wd),fuel,0,0,[],⟨0,0⟩,0⟩:D5):=rfl;rw[e] at this;simp only[N0,this,A0];simp only[ib N w i] at b;rw[J] at b;exact b
theorem Ay (N:Nat) (x:Cl):∀(l:List Cl) (k:Nat),(∀d∈l,d.name≠x.name)->T9 N x l k=some (.next ())
 |[],k,_=>rfl
 |d::l,k,h=>by
  rw[T9,N5 (h d l9)];exact Ay N x l (k+1) fun e a=>h e (by simp[a])
theorem Ar (N:Nat) (w:Wd) (H:∀j c,w.a7[j]?=some c->lY w j c):∀(l:List Cl) (k:Nat),l=w.a7.drop k->O9 N w N9 l k=some (.next ())
 |[],k,h=>rfl
 |c::l,k,h=>by
  obtain⟨o,hl,a⟩:=eE h;have a:=of_decide_eq_true a;obtain⟨s,hd,n,d,t,u⟩:=H k c o;have ih:=Ar N w H l (k+1) hl;rw[O9,kA,s];have q:(decide (0<=(k:Int)) && decide ((k:Int)<=(w.a7.length:Int)))=true:=by simp only[IT,NA];omega
  have m:=Ay N c (w.a7.take (k:Int).toNat) 0 (by simpa using hd);simp only[A0,MH,N0,q,Mz,m];by_cases r:k<4
  ·obtain⟨f,p,e1,g,b⟩:=n r;rw[N6 (show(k:Int)<4 by omega)];simp only[Mz,D7,p,A0,e1,g,b,N3,MH,N0];exact ih
  ·obtain⟨e1,g,b⟩:=d d9;rw[N5 (show¬(k:Int)<4 by omega)];simp only[N0,A0];rw[N5 (show¬c.aQ<0 by omega),N5 (show¬(k:Int)<=c.aQ by omega)];have i:((bif decide ((0:Int)<c.aQ) then some (decide (c.aQ<(4:Int))) else some (false)):Option Bool)=some false:=by
    by_cases e:0<c.aQ
    ·rw[N6 e,N5 (show¬c.aQ<4 by have:=b e;omega)];rfl
    ·rw[N5 e];rfl
   simp only[N0,i,A0];rw[N5 (show¬c.aG<0 by omega),N5 (show¬6<c.aG by omega)];exact ih
theorem B2 (N:Nat) (k:Nat) (m:Me):∀(l:List Me) (j:Nat),J4 N k m l j true=some true
 |[],j=>rfl
 |p::l,j=>by
  rw[J4];exact B2 N k m l (j+1)
theorem wZ (N:Nat) (m:Me) (d:m.args=1) (f:m.a8=0) (g:m.code=[]):∀(l:List Me) (j:Nat),(∃p∈l,p.name=m.name/\p.aV=m.aV)->J4 N 3 m l j false=some true
 |[],j,h=>by obtain⟨p,c,_⟩:=h;cases c
 |q::l,j,h=>by
  rw[J4];by_cases a:q.name=m.name
  ·by_cases b:q.aV=m.aV
   ·simp only[a,b,d,f,g,N0,N3,Mz];exact B2 N 3 m l (j+1)
   ·have:∃p∈l,p.name=m.name/\p.aV=m.aV:=by
     obtain⟨p,c,e⟩:=h;rcases MG.1 c with rfl|c
     ·exact absurd e.2 b
     ·exact⟨p,c,e⟩
    simp only[a,b,N0,N3,N4,Mz];exact wZ N m d f g l (j+1) this
  ·have:∃p∈l,p.name=m.name/\p.aV=m.aV:=by
    obtain⟨p,c,e⟩:=h;rcases MG.1 c with rfl|c
    ·exact absurd e.1 a
    ·exact⟨p,c,e⟩
   simp only[a,N0,N4];exact wZ N m d f g l (j+1) this
theorem Aw (N:Nat) (w:Wd) (k:Nat) (c:Cl) (s:4194304<=N) (n:D6 w) (o:c∈w.a7) (v:dL c.aB) (u:∀m∈c.aB,mE N w k m):∀(l:List Me) (j:Nat),l=c.aB.drop j->P6 N w N9 k c l j=some (.next ())
 |[],j,h=>rfl
 |m::l,j,h=>by
  obtain⟨d,hl,a⟩:=eE h;have a:=of_decide_eq_true a;have F:=(n.2.2.1 c o).1;have ih:=Aw N w k c s n o v u l (j+1) hl;have C:j4 N9.a7 3=some ⟨⟨#[73,110,116]⟩,0,0,U0⟩:=rfl;have q:=(n.2.2.1 c o).2 m (MP d);obtain⟨b,g,E⟩:=wc N k m U0 0 false (fun p e=>e) (fun h=>by cases h);obtain⟨f,t⟩:=AA N w (k:Int) m s n.1 q;rw[P6];have e0:((bif decide ((0:Int)<(j:Int)) then((j4 c.aB (wr ((j:Int)-(1:Int)))).bind fun r=>some ((!Y4 r.name m.name))) else some (false)):Option Bool)=some false:=by
   by_cases H:0<j
   ·have wk:wr ((j:Int)-1)=((j-1:Nat):Int):=by rw[q9 ino];omega
    obtain⟨p,e⟩:∃p,c.aB[j-1]?=some p:=⟨_,IS d9⟩;have a:=ln v e d d9;rw[N6 (show(0:Int)<(j:Int) by omega)];simp only[Mz,wk,D7,e,A0,a,MH]
   ·rw[N5 (show¬(0:Int)<(j:Int) by omega)];rfl
  simp only[e0,C,g,t,A0,N0];rcases u m (MP d) with⟨i,p,e,x,y,z,A,B⟩|⟨G,i,D⟩
  ·subst i;have:=wZ N m z A B U0 0 ⟨p,e,x,y⟩;rw[g] at this;cases this;simp only[MH,N0,A0];exact ih
  ·rw[t] at i;cases i;cases b with
   |true=>simp only[MH,N0,A0];exact ih
   |false=>simp only[MQ,Mz,A0,D,N3,MH,N0];exact ih
theorem As (N:Nat) (w:Wd) (b:4194304<=N) (a:D6 w) (H:∀(j:Nat) c,w.a7[j]?=some c->p8 w (j:Int)<=6/\c.aB.length<=8/\dL c.aB/\∀m∈c.aB,mE N w j m):∀(l:List Cl) (k:Nat),l=w.a7.drop k->X5 N w N9 l k=some (.next ())
 |[],k,h=>rfl
 |c::l,k,h=>by
  obtain⟨d,hl,g⟩:=eE h;have ih:=As N w b a H l (k+1) hl;obtain⟨i,n,e,f⟩:=H k c d;rw[X5,kx N w (k:Int) d9 a.1];simp only[A0];rw[N5 (show¬6<p8 w (k:Int) by omega),N5 (show¬(8:Int)<(c.aB.length:Int) by omega)];simp only[N0,Aw N w k c b a (MP d) e f c.aB 0 rfl,A0];exact ih
theorem Ax (N:Nat) (w:Wd):∀(l:List V) (k:Nat),(∀v∈l,cc v (w.heap.length:Int)=0)->U3 N w l k=some (.next ())
 |[],k,_=>rfl
 |v::l,k,h=>by
  rw[U3,wS];simp only[A0,h v l9,N3,MH,N0];exact Ax N w l (k+1) fun u a=>h u (by simp[a])
theorem Aq (N:Nat) (w:Wd) (g:4194304<=N) (d:D6 w):∀(l:List Ob) (k:Nat),(∀o∈l,tQ w o)->U2 N w l k=some (.next ())
 |[],k,_=>rfl
 |o::l,k,h=>by
  obtain⟨j,e,m,c,f⟩:=h o l9;have ih:=Aq N w g d l (k+1) fun x i=>h x (by simp[i]);have b:=kx N w o.cls d9 d.1;rw[U2];simp only[b,Ax N w o.aG 0 f,A0];rw[N5 (show¬o.cls<0 by omega),N5 (show¬(w.a7.length:Int)<=o.cls by omega)];by_cases a:0<o.cls
  ·rw[N6 a,N5 (show¬o.cls<4 by have:=e a;omega)];simp only[c,N3,MH,Mz,N0,A0];exact ih
  ·rw[N5 a];simp only[c,N3,MH,N0,A0];exact ih
def CB (N:Nat) (w:Wd) (a:4194304<=N) (b:D6 w) (h:I6 N w):jX N w=some 0:=by
 obtain⟨⟨g,i,j⟩,⟨e1,f⟩,c,d,e⟩:=h;unfold jX s8;simp only[A0];rw[N5 (show¬(w.a7.length:Int)<4 by omega),N5 (show¬(12:Int)<(w.a7.length:Int) by omega),N5 (show¬(60:Int)<(w.heap.length:Int) by omega),
  N5 (show¬w.aC<0 by omega),N5 (show¬1073741824<w.aC by omega)]
 simp only[N0,A0,Ar N w c w.a7 0 rfl,As N w a b d w.a7 0 rfl,Aq N w a b w.heap 0 e]
section
variable {w:Wd} {fuel:Int} {N:Nat}
end
section
variable {w:Wd} {fuel:Int} {N:Nat}
end
def IF {w:Wd} {N:Nat} (i:4194304<=N) (j:D6 w) (f:I6 N w) {c:P8} {fuel:Int} {r:Wd×dw} (h:iT w c fuel cH r) :
  (r.2.err=0->M5 w c fuel=0/\0<=r.2.sends/\r.2.sends<=fuel/\fuel<=400/\gm w r.1.heap/\r.1=⟨w.a7,r.1.heap,w.aC⟩/\w.heap.length<=r.1.heap.length/\Q9 (r.1.heap.length:Int) r.2.value) /\
  (r.2.err≠0->r.1=w/\r.2.value=⟨0,0⟩/\0<=r.2.sends/\r.2.sends<=400):=by
 rcases h with⟨a,rfl⟩|⟨a,x,c',q,s,y,rfl⟩
 ·exact⟨fun e=>absurd e a,fun _=>⟨rfl,rfl,MO _,bJ⟩⟩
 ·have W:=f.od i j;have d:0<w.a7.length:=by have:=f.many.1;omega
  obtain⟨_,_,f1,p,_⟩:=qo a;obtain⟨o,g,u,l,m,v,n⟩:=vC (Q:=cH) i j f (fun _ _=>rfl) c a;rw[q] at g;cases g;obtain⟨z,A,k,t⟩:=GO W d (fun _ _=>rfl) s l n;rw[m] at k;unfold hB;by_cases b:c'.err=0
  ·rw[N2 b];have I:=t b;exact⟨fun _=>⟨a,bJ,bJ,p,I.heap,rfl,k,I.back⟩,fun h=>absurd rfl h⟩
  ·rw[N1 b];exact⟨fun h=>absurd h b,fun _=>⟨rfl,rfl,bJ,bJ⟩⟩
theorem I6.heap {w:Wd} {N:Nat} (z:4194304<=N) (b:D6 w) (a:I6 N w) {H:List Ob} (q:gm w H):I6 N ⟨w.a7,H,w.aC⟩/\D6 ⟨w.a7,H,w.aC⟩:=by
 have g:=pG a;have W:=a.od z b;have x:D6 ⟨w.a7,H,w.aC⟩:=⟨b.1,by have:=q.len;simp only;omega,b.2.2.1,fun o v=>by
  have n:=(q.ob o v).2.2.2.1;have:=W.aG o.cls;omega⟩
 have d:∀(k:Int) (m:Me),aj N ⟨w.a7,H,w.aC⟩ k m=aj N w k m:=by
  intro k m;have e:∀i,bp ⟨w.a7,H,w.aC⟩ k m i=bp w k m i:=fun i=>by
   unfold bp fW;simp only[pE]
  have u:∀(l:List Ins) (j:Nat),dK ⟨w.a7,H,w.aC⟩ k m l j=dK w k m l j:=by
   intro l
   induction l with
   |nil=>intro j;rfl
   |cons i l ih=>intro j;rw[dK,dK,e,ih]
  unfold aj;rw[u]
 refine⟨⟨⟨a.many.1,a.many.2.1,q.len⟩,a.aC,a.cls,fun j c u=>?_,fun o v=>?_⟩,x⟩
 ·obtain⟨n,r,s,t⟩:=a.al j c u;refine⟨by rw[pE];exact n,r,s,fun m A=>?_⟩;rcases t m A with h|⟨f,p,y⟩
  ·exact .inl h
  ·refine .inr ⟨f,?_,y⟩;rw[oq N w _ m d9 b.1 (kH g b.1 _)] at p;rw[oq N ⟨w.a7,H,w.aC⟩ _ m d9 b.1 (by rw[pE];exact kH g b.1 _),d];exact p
 ·obtain⟨n,r,s,t,p⟩:=q.ob o v;exact⟨n,r,s,by rw[pE];exact t,p⟩
def kT (w:Wd) (s:St) (n:ByteArray):Prop:=∃x m i,∃j:Nat,j4 w.a7 s.cls=some x/\x.aB[j]?=some m/\m.name=s.name/\j4 m.code s.pos=some i/\i.name=n
def nameAt (w:Wd) (s:St):ByteArray:=match j4 w.a7 s.cls with
 |none=>BY
 |some x=>match bI s.name x.aB with
  |none=>BY
  |some j=>match x.aB[j]? with
   |none=>BY
   |some m=>match j4 m.code s.pos with
    |none=>BY
    |some i=>i.name
def uT {w:Wd} (d:dS w) {s:St} {n:ByteArray} (h:kT w s n):nameAt w s=n:=by
 obtain⟨x,m,i,j,b,a,c,hi,rfl⟩:=h;have:=DK (d x (eG b)) a;rw[c] at this;unfold nameAt;simp only[b,this,a,hi]
def iN (w:Wd) (sb:C9) (e:St×Int):C9 :=
 ⟨sb.world,sb.ew,(iG w e.1 e.2 (nameAt w e.1) sb.cells).1,ns e.1 e.2 sb.aX,
  if(iG w e.1 e.2 (nameAt w e.1) sb.cells).2.2.2=true then wr (sb.hO+1) else sb.hO,if(iG w e.1 e.2 (nameAt w e.1) sb.cells).2.2.2=true then sb.not else wr (sb.not+1)⟩
def ca (w:Wd) (l:List Ce):Prop:=∀c∈l,c.aC=w.aC->∀y∈c.lines,∃n,kT w c.site n/\0<=(l7 w n y.cls).2/\(l7 w n y.cls).1=y.found
def k6 (n:Nat) (sb:C9):Prop:=sb.cells.length<=n/\(∀x∈sb.cells,x.lines.length<=n)/\sb.aX.length<=n/\∀t∈sb.aX,t.a7.length<=n
def mF (w:Wd) (ev:List (St×Int)):Prop:=∀e∈ev,∃n,kT w e.1 n
def Bf (e c f:Int) (x:Ce):(iP e c f x).site=x.site/\(iP e c f x).aC=e:=by
 unfold iP Y3 fb;by_cases a:x.aC=e
 ·rw[N2 a];split
  ·exact⟨rfl,a⟩
  ·split<;>exact⟨rfl,a⟩
 ·rw[N1 a];split
  ·exact⟨rfl,rfl⟩
  ·split<;>exact⟨rfl,rfl⟩
def AR (e c f:Int) (x:Ce):(∀y∈(iP e c f x).lines,(x.aC=e/\y∈x.lines)\/y=⟨c,f⟩)/\(iP e c f x).lines.length<=x.lines.length+1:=by
 unfold iP Y3 fb;by_cases b:x.aC=e
 ·rw[N2 b];split
  ·exact⟨fun y a=>.inl ⟨b,a⟩,d9⟩
  ·split
   ·exact⟨fun y a=>by simp at a,l9⟩
   ·refine⟨fun y a=>?_,l9⟩;simp only[MT,Mh] at a;rcases a with a|a
    ·exact .inl ⟨b,a⟩
    ·exact .inr a
 ·rw[N1 b];split
  ·exact⟨fun y a=>by simp at a,l9⟩
  ·split
   ·exact⟨fun y a=>by simp at a,l9⟩
   ·refine⟨fun y a=>?_,l9⟩;simp only[List.nil_append,Mh] at a;exact .inr a
theorem vM {s:St} {e c f:Int}:∀{l:List Ce} {x:Ce},x∈iR s e c f l->x∈l\/∃y,(y∈l\/y=⟨s,e,false,[]⟩)/\y.site=s/\x=iP e c f y
 |[],x,h=>by
  rw[iR,Mh] at h;exact .inr ⟨_,.inr rfl,rfl,h⟩
 |y::l,x,h=>by
  rw[iR] at h;split at h
  ·rename_i d;rcases MG.1 h with h|h
   ·exact .inr ⟨y,.inl l9,d,h⟩
   ·exact .inl (by simp[h])
  ·rcases MG.1 h with h|h
   ·exact .inl (by simp[h])
   ·rcases vM h with h|⟨z,a,b⟩
    ·exact .inl (by simp[h])
    ·exact .inr ⟨z,a.imp (fun h=>by simp[h]) id,b⟩
theorem Cc {s:St} {e c f:Int}:∀l:List Ce,(iR s e c f l).length<=l.length+1
 |[]=>by simp[iR]
 |x::l=>by
  rw[iR];split
  ·simp
  ·have:=Cc (s:=s) (e:=e) (c:=c) (f:=f) l;simp only[ML];omega
def d35 {w:Wd} {s:St} {n:ByteArray} {c:Int} {l:List Ce} (h:ca w l) (k:kT w s n) (j:0<=(l7 w n c).2):ca w (iR s w.aC c (l7 w n c).1 l):=by
 intro x b i y f;rcases vM b with b|⟨z,d,a,rfl⟩
 ·exact h x b i y f
 ·rw[(Bf _ _ _ _).1,a];rcases(AR _ _ _ _).1 y f with⟨g,e⟩|rfl
  ·rcases d with d|rfl
   ·have:=h z d g y e
    rwa [a] at this
   ·simp at e
  ·exact⟨n,k,j,rfl⟩
theorem Bm {c:Int}:∀{l:List Ln},0<=kQ c l->∃y∈l,y.cls=c/\y.found=kQ c l
 |[],h=>by simp[kQ] at h
 |y::l,h=>by
  rw[kQ] at h⊢;split
  ·rename_i e;exact⟨y,l9,e,rfl⟩
  ·rename_i e;rw[N1 e] at h;obtain⟨z,a,b⟩:=Bm h;exact⟨z,by simp[a],b⟩
theorem CA {s:St} {e c:Int}:∀{l:List Ce},0<=dq s e c l->∃x∈l,x.site=s/\x.aC=e/\∃y∈x.lines,y.cls=c/\y.found=dq s e c l
 |[],h=>by simp[dq] at h
 |x::l,h=>by
  rw[dq] at h⊢;by_cases b:x.site=s
  ·rw[N2 b] at h⊢;by_cases a:x.aC=e
   ·rw[N2 a] at h⊢;exact⟨x,l9,b,a,Bm h⟩
   ·rw[N1 a] at h;exact absurd h G8
  ·rw[N1 b] at h⊢;obtain⟨z,d,f⟩:=CA h;exact⟨z,by simp[d],f⟩
def GM {w:Wd} (b:dS w) {s:St} {n:ByteArray} {c:Int} {l:List Ce} (h:ca w l) (m:kT w s n) (k:0<=dq s w.aC c l):dq s w.aC c l=(l7 w n c).1/\0<=(l7 w n c).2/\dq s w.aC c l<w.a7.length:=by
 obtain⟨x,o,f,g,y,p,i,j⟩:=CA k;obtain⟨r,d,a,e⟩:=h x o g y p;rw[f] at d;obtain rfl:r=n:=(uT b d).symm.trans (uT b m);rw[i] at a e;obtain⟨z,_,q,_⟩:=sX a;have:=(fU q).2;rw[<-j,<-e];exact⟨rfl,a,this⟩
def Cx {w:Wd} (g:dS w) {s:St} {n:ByteArray} {c:Int} {l:List Ce} (h:ca w l) (f:kT w s n):(iG w s c n l).2.1=(l7 w n c).1/\(iG w s c n l).2.2.1=(l7 w n c).2 /\
  (iG w s c n l).2.2.2=decide (0<=dq s w.aC c l)/\(iG w s c n l).1=(if 0<=dq s w.aC c l then l else if(l7 w n c).2<0 then l else iR s w.aC c (l7 w n c).1 l):=by
 unfold iG;by_cases a:0<=dq s w.aC c l
 ·obtain⟨g1,b,d⟩:=GM g h f a;rw[N2 ⟨a,d⟩,N2 a,N6 a,g1,HZ b];exact⟨rfl,rfl,rfl,rfl⟩
 ·rw[N1 (fun e=>a e.1),N1 a,N5 a];split<;>exact⟨rfl,rfl,rfl,rfl⟩
def JG {s:St} {c:Int} {n:Nat} {l:List Tl} (h:l.length<=n) (b:∀t∈l,t.a7.length<=n):(ns s c l).length<=n+1/\∀t∈ns s c l,t.a7.length<=n+1:=by
 have d:∀l:List Tl,(∀t∈l,t.a7.length<=n)->∀t∈(fO s c l).1,t.a7.length<=n+1:=by
  intro l
  induction l with
  |nil=>intro _ t a;cases a
  |cons x l ih =>
   intro h t a;unfold fO at a;split at a
   ·rcases MG.1 a with rfl|a
    ·have:=d65 c x.a7;have:=h x l9;show(qS c x.a7).length<=n+1;omega
    ·have:=h t (by simp[a]);omega
   ·rcases MG.1 a with rfl|a
    ·have:=h t l9;omega
    ·exact ih (fun t a=>h t (by simp[a])) t a
 have hl:=Bg s c l;unfold ns;split
 ·exact⟨d9,d l b⟩
 ·refine⟨L6,fun t a=>?_⟩;rcases MT.1 a with a|a
  ·exact d l b t a
  ·rw[Mh] at a;subst a;simp
def KK {w:Wd} (j:dS w) {sb:C9} {e:St×Int} {n:Nat} (o:∃m,kT w e.1 m) (d:k6 n sb) (g:ca w sb.cells):k6 (n+1) (iN w sb e)/\ca w (iN w sb e).cells:=by
 obtain⟨m,i⟩:=o;obtain⟨z1,z2,z3,z4⟩:=d;have l:=uT j i;obtain⟨_,_,_,k⟩:=Cx (c:=e.2) j g i;have h:=JG (s:=e.1) (c:=e.2) z3 z4;unfold k6 iN;simp only[l,k];have a:sb.cells.length<=n+1/\∀x∈sb.cells,x.lines.length<=n+1:=⟨d9,fun x b=>by have:=z2 x b;omega⟩;split
 ·exact⟨⟨a.1,a.2,h⟩,g⟩
 ·split
  ·exact⟨⟨a.1,a.2,h⟩,g⟩
  ·rename_i p;refine⟨⟨?_,fun x b=>?_,h⟩,d35 g i d9⟩
   ·have:=Cc (s:=e.1) (e:=w.aC) (c:=e.2) (f:=(l7 w m e.2).1) sb.cells;omega
   ·rcases vM b with b|⟨z,d,_,rfl⟩
    ·exact a.2 x b
    ·have:=(AR w.aC e.2 (l7 w m e.2).1 z).2;rcases d with d|rfl
     ·have:=z2 z d;omega
     ·simp only[Ms] at this;omega
theorem yE {w:Wd} (c:dS w):∀{ev:List (St×Int)} {sb:C9} {n:Nat},mF w ev->k6 n sb->ca w sb.cells->k6 (n+ev.length) (ev.foldl (iN w) sb)/\ca w (ev.foldl (iN w) sb).cells
 |[],sb,n,_,b,a=>⟨b,a⟩
 |e::ev,sb,n,he,b,a=>by
  obtain⟨d,f⟩:=KK c (he e l9) b a;have:=yE c (show mF w ev from fun x g=>he x (Mr _ g)) d f;rw[List.foldl_cons,ML,show n+(ev.length+1)=n+1+ev.length by omega];exact this
def Jv {w:Wd} (N:Nat) (f:1048578<=N) (a:dS w) (h:D6 w) {sb:C9} {s:St} {k:Int} {n:ByteArray} {z:Nat} (l:k6 z sb) (m:z<=1099511627770) (g:ca w sb.cells) (b:kT w s n) :
  p6 N s k n sb w=some ((l7 w n k).1,(l7 w n k).2,iN w sb (s,k)):=by
 obtain⟨z1,z2,z3,z4⟩:=l;obtain⟨d,e,c3,o⟩:=Cx (c:=k) a g b;unfold p6 iN;rw[Gq N sb.cells w s k n f a h ⟨d9,fun x j=>by have:=z2 x j;omega⟩,HT N sb.aX s k (fun t i=>by have:=z4 t i;omega) d9];simp only[A0,uT a b,d,e];cases (iG w s k n sb.cells).2.2.2<;>rfl
section
variable {w:Wd} {fuel:Int} {N:Nat}
structure si (w:Wd) (fuel:Int) (c:Cf):Prop where
 inv:cy w fuel c
 len:(c.ev.length:Int)<=c.sends
 ok:mF w c.ev
def BW {c:Cf} (I:cy w fuel c) {f:j3} {F:List j3} (d:c.fs=f::F) {i:Ins} {x:Cl} {m:Me} (hi:j4 f.code f.aH=some i) (h:j4 w.a7 f.aI=some x) (g:j4 x.aB f.aL=some m):kT w (R6 f m i f.aH) i.name:=by
 have e:=I.fs;rw[d] at e;obtain⟨⟨l,k,R⟩,_⟩:=e;obtain⟨n,b,a⟩:=R.al;rw[h] at b;cases b;rw[g] at a;cases a;rw[R.code] at hi;have j:R6 f m i f.aH=⟨f.aI,m.name,f.aH⟩:=by unfold R6;rw[R.bn];rfl
 rw[j];exact⟨x,m,i,f.aL.toNat,h,(l6 g).2,rfl,hi,rfl⟩
def DF {Q:Int->Int->Fs×Bool} (W:cZ w) (z:0<w.a7.length) (A:∀k j,(Q k j).2=false) {c g:Cf} (I:si w fuel c) (b:c.err=0) (o:c.fs≠[]) (l:P7 w fuel (fun _ k s=>l7 w s k) Q c=some g) :
  (g.err=0->si w fuel g)/\mF w g.ev/\g.ev.length<=c.ev.length+1:=by
 cases a:c.fs with
 |nil=>exact absurd a o
 |cons f F =>
  obtain⟨y,r,p⟩:=rL (Q:=Q) W z A I.inv b a;rw[l] at r;cases r;rcases D2 l with h|⟨E,C,i,x,m,k,q,t,D,u,v,n,d⟩
  ·rw[h];refine⟨fun e=>⟨p.inv e,?_,by rw[h];exact I.ok⟩,I.ok,d9⟩;rw[h];exact Int.le_trans I.len p.sends.1
  ·rw[a] at q;cases q;have B:=BW I.inv a t u v;have aO:mF w g.ev:=by
    rw[n];intro e b;rcases MT.1 b with b|b
    ·exact I.ok e b
    ·rw[Mh] at b;subst b;exact⟨_,B⟩
   refine⟨fun e=>⟨p.inv e,?_,aO⟩,aO,by rw[n];simp⟩;rcases d with⟨_,d⟩|⟨_,d|d⟩
   ·rw[d] at e;cases e
   ·exact absurd e d
   ·rw[d,n];have:=I.len;simp;omega
def Jw {Q:Int->Int->Fs×Bool} (W:cZ w) (h:0<w.a7.length) (i:∀k j,(Q k j).2=false) {c c':Cf} (p:Path w fuel (fun _ k s=>l7 w s k) Q c c') (b:c.err=0->si w fuel c) (aO:mF w c.ev) (hl:c.ev.length<=401) :
  mF w c'.ev/\c'.ev.length<=401:=by
 induction p with
 |refl=>exact⟨aO,hl⟩
 |@step c n o a d e _ ih =>
  obtain⟨f,g,m⟩:=DF W h i (b a) a d e;have q:=(b a).inv.sends;have l:=(b a).len;exact ih f g d9
def JX {Q:Int->Int->Fs×Bool} {c:P8} {b:Cf} (a:fy w fuel Q c=some b):b.ev=[]:=by
 unfold fy at a;split at a
 ·cases a;rfl
 ·exact(s9 a).1
end
def IJ {w:Wd} {N:Nat} {fuel:Int} (G:4194304<=N) (B:D6 w) (u:I6 N w) (c:P8) (l:List Ce) (t:List Tl) (z:Nat) (v:k6 z ⟨⟨[],[],0⟩,⟨⟨0,0⟩,0,0⟩,l,t,0,0⟩) (hz2:z<=1099511627000) (Y:ca w l) :
  ∃r ev sb,rp N w c fuel l t=some ⟨r.1,r.2,sb.cells,sb.aX,sb.hO,sb.not⟩/\qa w c fuel r ev/\sb=ev.foldl (iN w) ⟨⟨[],[],0⟩,⟨⟨0,0⟩,0,0⟩,l,t,0,0⟩/\mF w ev/\ev.length<=401:=by
 have W:=u.od G B;have g:0<w.a7.length:=by have:=u.many.1;omega
 unfold rp;rw[wh N ⟨by have:=v.1;simp only at this;omega,fun x D=>by have:=v.2.1 x D;omega⟩,BB N (fun x D=>by have:=v.2.2.2 x D;omega) (by have:=v.2.2.1;simp only at this;omega)];simp only[A0];generalize J:(⟨⟨[],[],0⟩,⟨⟨0,0⟩,0,0⟩,l,t,0,0⟩:C9)=sb at v⊢;have H:ca w sb.cells:=by rw[<-J];exact Y
 by_cases C:M5 w c fuel=0
 ·obtain⟨q,E,P,b3,b4,R,S⟩:=vC (Q:=cH) G B u (fun _ _=>rfl) c C;have a:=JX E;have y:q.err=0->si w fuel q:=fun e=>⟨S e,by rw[a];simpa using P,by rw[a];intro e d;cases d⟩;obtain⟨c',O,p2,p3,p4⟩:=d99 (gl:=fun o p K s_=>p6 N o p K s_ w) (gq:=fun o p=>ph N o p) (T:=iN w) (sb:=sb) (Q:=cH) (L:=fun _ k s=>l7 w s k) G B u.cq (fun k j x m _ _=>rfl) (si w fuel)
   (fun c I d A=>by
    refine⟨I.inv.wk W (fun k j h=>by cases h),?_,?_⟩
    ·intro f F i x m k b hi V D X;have n:=BW I.inv b hi D X;obtain⟨t1,t2⟩:=yE u.cq I.ok v H;have hl:=I.len;have Z:=I.inv.sends;exact Jv N d9 u.cq B t1 d9 t2 n
    ·cases b:c.fs with
     |nil=>exact absurd b A
     |cons f F =>
      obtain⟨q,M,k2⟩:=rL (Q:=cH) W g (fun _ _=>rfl) I.inv d b;exact⟨q,M,k2.mu,(DF W g (fun _ _=>rfl) I d A M).1⟩) W.a8 (fun k j h=>by cases h) c C q E y R
  obtain⟨e1,U⟩:=Jw W g (fun _ _=>rfl) O y (by rw[a];intro e d;cases d) (by rw[a];simp);refine⟨hB w c',c'.ev,c'.ev.foldl (iN w) sb,?_,.inr ⟨C,q,c',E,O,p2,rfl,rfl⟩,rfl,e1,U⟩;rw[p4];rfl
 ·refine⟨(w,⟨⟨0,0⟩,M5 w c fuel,0⟩),[],sb,?_,.inl ⟨C,rfl,rfl⟩,rfl,(fun e d=>by cases d),l9⟩;rw[HR B c C];rfl
def iU (s:ByteArray) (l:List Cl):Bool:=l.any fun x=>decide (x.name=s)
def hW : Wd:=⟨[],[],0⟩
def gx (w:Wd) (s:ByteArray) (c n:Int):Wd×Int×Int :=
 if Y1 s=false\/iU s w.a7=true then(hW,0,7)
 else if c<0\/(w.a7.length:Int)<=c then(hW,0,6)
 else if n<0\/6-p8 w c<n\/(c≠0/\c<4) then(hW,0,3)
 else if 12<=w.a7.length then(hW,0,5)
 else(⟨w.a7++[⟨s,c,n,[]⟩],w.heap,w.aC⟩,(w.a7.length:Int),0)
theorem d73 (N:Nat) (s:ByteArray):∀(l:List Cl) (k:Nat),∃o,E9 N (fun b=>p7 N b s) l k=some o/\(match o with|.ret r=>0<=r/\iU s l=true|.next ()=>iU s l=false)
 |[],k=>⟨_,rfl,rfl⟩
 |x::l,k=>by
  rw[E9,p7];simp only[A0];by_cases h:x.name=s
  ·exact⟨.ret (k:Int),by simp[h],by simp[iU,h]⟩
  ·obtain⟨o,d,a⟩:=d73 N s l (k+1);refine⟨o,by simp[h,d],?_⟩;cases o with
   |ret r=>exact⟨a.1,by have:=a.2;unfold iU at this⊢;simp[this]⟩
   |next u=>show iU s (x::l)=false;have c:iU s l=false:=a;unfold iU at c⊢;simp only[List.any_cons,c,h,N4,Bool.or_false]
def has_eq (N:Nat) (s:ByteArray) (l:List Cl):J6 N l (fun b=>p7 N b s)=some (iU s l):=by
 unfold J6 U1;obtain⟨o,e,c⟩:=d73 N s l 0;rw[e];cases o with
 |ret r=>obtain⟨a,d⟩:=c;simp[a,d]
 |next u=>have a:iU s l=false:=c;simp[a]
def Gi (N:Nat) (w:Wd) (s:ByteArray) (c n:Int) (k:1048578<=N) (d:D6 w) (l:∀x∈w.a7,0<=x.aG/\x.aG<=6):sA N w s c n=some (gx w s c n):=by
 unfold sA gx;have hS:=kH l d.1 c;rw[qu,has_eq,ou N w c k d.1,FH N w d];have m:wr (6-p8 w c)=6-p8 w c:=q9 ino;simp only[A0,m];cases o:Y1 s with
 |false=>simp[hW]
 |true =>
 cases p:iU s w.a7 with
 |true=>simp[hW]
 |false =>
 simp only[MH,N0,A0];by_cases f:c<0
 ·simp[f,hW]
 by_cases i:(w.a7.length:Int)<=c
 ·simp[f,i,hW]
 simp only[f,i,N4,N0,A0];by_cases g:n<0
 ·simp[g,hW]
 by_cases j:6-p8 w c<n
 ·simp[g,j,hW]
 simp only[g,j,N4,N0,A0];by_cases e:c=0
 ·subst e;by_cases b:(12:Int)<=(w.a7.length:Int)
  ·have a:12<=w.a7.length:=d9;simp[b,a,hW]
  ·have a:¬12<=w.a7.length:=d9;have:=d.1;simp only[b,a,N3,N4,N0,A0,MH];rw[F6 L6];simp
 ·by_cases h:c<4
  ·simp[e,h,hW]
  ·by_cases b:(12:Int)<=(w.a7.length:Int)
   ·have a:12<=w.a7.length:=d9;simp[e,h,b,a,hW]
   ·have a:¬12<=w.a7.length:=d9;have:=d.1;simp only[e,h,b,a,N4,N0,Mz,A0,MQ];rw[F6 L6];simp
def cw (m:Me):List Me->List Me
 |[]=>[m]
 |x::r=>if x.name=m.name then m::r else if Y4 m.name x.name=true then m::x::r else x::cw m r
theorem DJ (m:Me):∀(ms:List Me) (v:Nat),dL ms->v<=ms.length->(∀i x,i<v->ms[i]?=some x->Y4 x.name m.name=true)->(∀i x,v<=i->ms[i]?=some x->Y4 x.name m.name=false) ->
  cw m ms=if(bI m.name ms).isSome=true then ms.set v m else ms.take v++m::ms.drop v
 |[],v,_,h,_,_=>by simp[cw,bI]
 |x::r,0,hr,_,_,h2=>by
  have a:=h2 0 x (It _) rfl;by_cases e:x.name=m.name
  ·simp[cw,bI,e]
  ·have b:Y4 m.name x.name=true:=by
    cases q:Y4 m.name x.name with
    |true=>rfl
    |false=>exact absurd (d64 a q) e
   have g:(bI m.name (x::r)).isSome=false:=by
    cases q:bI m.name (x::r) with
    |none=>rfl
    |some j =>
     obtain⟨k,d,f⟩:=jb q;cases j with
     |zero=>cases d;exact absurd f e
     |succ j =>
      have:=ln hr (i:=0) (j:=j+1) rfl d d9;rw[f,a] at this;cases this
   simp only[g];rw[cw,N1 e,N2 b];rfl
 |x::r,v+1,hr,h,h1,h2=>by
  have a:=h1 0 x (Nat.succ_pos _) rfl;have e:x.name≠m.name:=LP a;have ih:=DJ m r v (List.pairwise_cons.1 hr).2 (by simpa using h) (fun i y hi c=>h1 (i+1) y d9 (by simpa using c)) (fun i y hi c=>h2 (i+1) y d9 (by simpa using c));rw[cw,N1 e,N1 (by rw[DA a];decide),ih];have:(bI m.name (x::r)).isSome=(bI m.name r).isSome:=by
   rw[bI,N1 e];cases bI m.name r<;>rfl
  rw[this];by_cases q:(bI m.name r).isSome=true
  ·simp[q]
  ·simp[q]
def iL (w:Wd) (c:Int) (m:Me):Wd×Int :=
 if 0<=c then(match w.a7[c.toNat]? with
  |none=>(⟨[],[],0⟩,6)
  |some x=>if(bI m.name x.aB).isSome=false/\8<=x.aB.length then(⟨[],[],0⟩,5)
   else(⟨w.a7.set c.toNat ⟨x.name,x.aQ,x.aG,cw m x.aB⟩,w.heap,wr (w.aC+1)⟩,0)) else(⟨[],[],0⟩,6)
def GA (N:Nat) (w:Wd) (c:Int) (m:Me) (H:1048578<=N) (n:D6 w) (s:dS w) (E:m.code.length<=1048576):qq N w c m=some (iL w c m):=by
 unfold qq iL;by_cases k:c<0
 ·have:¬0<=c:=d9;simp[k,this]
 have b:0<=c:=d9;by_cases q:(w.a7.length:Int)<=c
 ·have:w.a7[c.toNat]?=none:=Md d9;simp[k,b,q,this]
 obtain⟨x,o,p⟩:=db (l:=w.a7) b d9;have a:=MP o;obtain⟨v,t,u,j,z,A⟩:=AS N x.aB m.name d9 (n.2.2.1 x a).1 (s x a);have h:=DJ m x.aB v (s x a) j z A;have D:c.toNat<w.a7.length:=d9;simp only[k,b,q,o,p,t,N4,N0,A0,if_true,FP N w n,ua N m E];cases hi:(bI m.name x.aB).isSome with
 |true =>
  obtain⟨i,e⟩:=Option.isSome_iff_exists.1 hi;obtain⟨y,G,_⟩:=jb e;have F:v=i:=by have:=u i e;omega
  subst F;rw[hi] at h;simp only[MH,N0,A0,o,D7,G];simp[h]
 |false =>
  have hl:=(n.2.2.1 x a).1;rw[hi] at h;by_cases r:8<=x.aB.length
  ·have d:(8:Int)<=(x.aB.length:Int):=d9;simp[r,d]
  ·have d:¬(8:Int)<=(x.aB.length:Int):=d9;have f:rC N x.aB (v:Int) [(⟨BY,(0:Int),(0:Int),(0:Int),[]⟩:Me)]=some (x.aB.take v++(⟨BY,0,0,0,[]⟩:Me)::x.aB.drop v):=by
    unfold rC;rw[F6 d9];have:(v:Int)<=(x.aB.length:Int):=d9;simp[this]
   simp only[f,r,d,MQ,Mz,N0,N4,A0,and_false,if_false];have g:(w.a7.set c.toNat (⟨x.name,x.aQ,x.aG,x.aB.take v++(⟨BY,0,0,0,[]⟩:Me)::x.aB.drop v⟩:Cl))[c.toNat]?=some (⟨x.name,x.aQ,x.aG,x.aB.take v++(⟨BY,0,0,0,[]⟩:Me)::x.aB.drop v⟩:Cl):=by
    rw[List.getElem?_set_self D]
   have B:j4 (x.aB.take v++(⟨BY,0,0,0,[]⟩:Me)::x.aB.drop v) (v:Int)=some (⟨BY,0,0,0,[]⟩:Me):=by
    rw[D7,Ma L6];simp[Nat.min_eq_left j]
   have C:(x.aB.take v++(⟨BY,0,0,0,[]⟩:Me)::x.aB.drop v).set v m=x.aB.take v++m::x.aB.drop v:=by
    rw[List.set_append_right _ _ L6];simp[Nat.min_eq_left j]
   simp only[g,B,A0,List.set_set,Mg,C,h,Ml,if_false]
structure Ext (w w':Wd):Prop where
 sup:∀(j:Nat) x,w.a7[j]?=some x->x.aQ<j
 cls:∀(j:Nat) x,w.a7[j]?=some x->∃x',w'.a7[j]?=some x'/\x'.aQ=x.aQ/\x'.aG=x.aG
theorem Ext.len {w w':Wd} (h:Ext w w'):w.a7.length<=w'.a7.length:=by
 rcases Nat.lt_or_ge w'.a7.length w.a7.length with hl|hl
 ·obtain⟨b,a,_⟩:=h.cls w'.a7.length _ (IS hl);have:=(ME.1 a).1;omega
 ·exact hl
def DO (w:Wd) (n:Nat) {c:Int} (h:c<0):bf w n c=[]:=by
 cases n with
 |zero=>rfl
 |succ n=>rw[bf,N1 d9]
theorem Ext.ql {w w':Wd} (h:Ext w w'):∀(c:Nat),c<w.a7.length->∀n b,c<n->c<b->bf w' b (c:Int)=bf w n (c:Int):=by
 intro c
 induction c using Nat.strongRecOn with
 |ind c ih =>
  intro j n b o k;obtain⟨n,rfl⟩:∃m,n=m+1:=⟨n-1,d9⟩;obtain⟨b,rfl⟩:∃m,b=m+1:=⟨b - 1,d9⟩;have f:=IS j;obtain⟨p,g,i,_⟩:=h.cls c _ f;have l:=h.sup c _ f;rw[bf,bf,N2 (Int.natCast_nonneg c),N2 (Int.natCast_nonneg c),Mg,g,f];simp only[i];rcases Int.lt_or_le (w.a7[c]).aQ 0 with a|d
  ·rw[DO _ _ a,DO _ _ a]
  ·obtain⟨s,e⟩:=Int.eq_ofNat_of_zero_le d;rw[e] at l⊢;rw[ih s d9 d9 n b d9 d9]
theorem Ext.aG {w w':Wd} (h:Ext w w') {c:Nat} (f:c<w.a7.length):p8 w' (c:Int)=p8 w (c:Int):=by
 unfold p8;have:=h.len;rw[h.ql c f (w.a7.length+1) (w'.a7.length+1) d9 d9];have a:=wu w (w.a7.length+1) (c:Int);generalize bf w (w.a7.length+1) (c:Int)=l at a;generalize (0:Int)=z
 induction l generalizing z with
 |nil=>rfl
 |cons k l ih =>
  obtain⟨j,m⟩:=a k l9;have b:=IS (l:=w.a7) (i:=k.toNat) d9;obtain⟨n,d,_,e⟩:=h.cls _ _ b;simp only[List.foldl_cons,d,b,e];exact ih (fun q g=>a q (by simp[g])) _
def Je {w w':Wd} {c:Int} {m:Me} {i:Ins} (f:p8 w' c=p8 w c) (hl:w.a7.length<=w'.a7.length) (h:bp w c m i=0):bp w' c m i=0:=by
 unfold bp at h⊢;have key:∀b,fW w c m i=some b->b=true->fW w' c m i=some true:=by
  intro b;unfold fW;rw[f];split
  ·intro e a;rw[e,a]
  split
  ·intro e a;rw[e,a]
  split
  ·intro e a;rw[e,a]
  split
  ·intro e a;rw[e,a]
  split
  ·intro e a;rw[e,a]
  split
  ·intro e a;cases e;simp only[Bool.or_eq_true,IT,NA] at a;simp only[Option.some.injEq,Bool.or_eq_true,IT,NA];omega
  split
  ·intro e a;rw[e,a]
  split
  ·intro e a;rw[e,a]
  ·intro e;cases e
 cases d:fW w c m i with
 |none=>rw[d] at h;cases h
 |some b =>
  rw[d] at h;cases b with
  |false=>cases h
  |true=>rw[key true d rfl];exact h
theorem DD {w w':Wd} {c:Int} {m:Me} (a:p8 w' c=p8 w c) (hl:w.a7.length<=w'.a7.length):∀{l:List Ins} {k:Nat},dK w c m l k=.next ()->dK w' c m l k=.next ()
 |[],_,_=>rfl
 |i::l,k,h=>by
  rw[dK] at h⊢;by_cases hi:bp w c m i=0
  ·rw[N2 hi] at h;rw[N2 (Je a hl hi)];exact DD a hl h
  ·rw[N1 hi] at h;cases h
theorem DY {w:Wd} {c:Int} {m:Me}:∀{l:List Ins} {k:Nat} {f:cr},dK w c m l k=.ret f->f.err≠0
 |[],_,_,h=>by cases h
 |i::l,k,f,h=>by
  rw[dK] at h;by_cases hi:bp w c m i=0
  ·rw[N2 hi] at h;exact DY h
  ·rw[N1 hi] at h;cases h;exact hi
def uR {N:Nat} {w w':Wd} {c:Int} {m:Me} (k:p8 w' c=p8 w c) (hl:w.a7.length<=w'.a7.length) {f:cr} (h:aj N w c m=some f) (a:f.err=0):∃d,aj N w' c m=some d/\d.err=0:=by
 unfold aj at h⊢;split at h
 ·cases h;cases a
 rename_i l;rw[N1 d9];split at h
 ·cases h;cases a
 rename_i e;rw[N1 e];split at h
 ·cases h;cases a
 rename_i g;rw[N1 g];split at h
 ·cases h;cases a
 rename_i i;rw[N1 i];split at h
 ·cases h;cases a
 rename_i j;rw[N1 j];cases b:dK w c m m.code 0 with
 |ret r=>rw[b] at h;cases h;exact absurd a (DY b)
 |next u=>rw[b] at h;rw[DD k hl b];exact⟨f,h,a⟩
def xi {N:Nat} {w:Wd} (u:4194304<=N) (many:4<=w.a7.length/\w.a7.length<=12/\w.heap.length<=60) (aC:0<=w.aC/\w.aC<=1073741824) (cls:∀(j:Nat) c,w.a7[j]?=some c->lY w j c)
  (al:∀(j:Nat) c,w.a7[j]?=some c->p8 w (j:Int)<=6/\c.aB.length<=8/\dL c.aB/\∀m∈c.aB,o0 j m\/∃f,aj N w (j:Int) m=some f/\f.err=0) (obj:∀o∈w.heap,tQ w o):I6 N w/\D6 w:=by
 have e:∀x∈w.a7,0<=x.aG/\x.aG<=6:=fun x l=>by
  obtain⟨j,i⟩:=Mv.1 l;exact(cls j x i).2.2.2.2
 have b:w.a7.length<=1048576:=d9;have r:I6 N w:=⟨many,aC,cls,fun j c s=>by
  obtain⟨p,n,q,g⟩:=al j c s;refine⟨p,n,q,fun m k=>?_⟩;rcases g m k with h|⟨f,a,d⟩
  ·exact .inl h
  ·exact .inr ⟨f,by rw[oq N w _ m d9 b (kH e b _)];exact a,d⟩,obj⟩
 refine⟨r,b,d9,fun x l=>?_,fun o t=>?_⟩
 ·obtain⟨j,i⟩:=Mv.1 l;obtain⟨_,n,_,g⟩:=al j x i;refine⟨d9,fun m k=>?_⟩;rcases g m k with⟨_,_,_,_,_,_,_,h⟩|⟨f,a,d⟩
  ·rw[h];simp
  ·unfold aj at a;split at a
   ·cases a;cases d
   split at a
   ·cases a;cases d
   split at a
   ·cases a;cases d
   split at a
   ·cases a;cases d
   split at a
   ·cases a;cases d
   ·omega
 ·have:=(obj o t).2.2.2.1;have:=xF e many.2.1 o.cls;omega
theorem I6.va {N:Nat} {w:Wd} (k:4194304<=N) (b:D6 w) (h:I6 N w) {j:Nat} {c:Cl} (g:w.a7[j]?=some c) {m:Me} (i:m∈c.aB):o0 j m\/∃f,aj N w (j:Int) m=some f/\f.err=0:=by
 rcases(h.al j c g).2.2.2 m i with d|⟨f,a,e⟩
 ·exact .inl d
 ·exact .inr ⟨f,by rw[oq N w _ m d9 b.1 (kH (pG h) b.1 _)] at a;exact a,e⟩
theorem I6.sup {N:Nat} {w:Wd} (h:I6 N w) (j:Nat) (x:Cl) (g:w.a7[j]?=some x):x.aQ<j:=by
 obtain⟨_,_,b,c,_⟩:=h.cls j x g;rcases Nat.lt_or_ge j 4 with a|a
 ·obtain⟨f,d,_,e,_⟩:=b a;rw[e];have:j=0\/j=1\/j=2\/j=3:=d9;rcases this with rfl|rfl|rfl|rfl<;>(cases d;decide)
 ·exact(c a).2.1
theorem I6.other {w:Wd} {N:Nat} (p:4194304<=N) (y:D6 w) (a:I6 N w) {H:List Ob} (n:gm w H) {e:Int} (t:0<=e/\e<=1073741824):I6 N ⟨w.a7,H,e⟩/\D6 ⟨w.a7,H,e⟩:=by
 have k:Ext w ⟨w.a7,H,e⟩:=⟨a.sup,fun j x z=>⟨x,z,rfl,rfl⟩⟩;refine xi p ⟨a.many.1,a.many.2.1,n.len⟩ t a.cls (fun j c l=>?_) fun o v=>?_
 ·have q:=(ME.1 l).1;obtain⟨b,d,g,_⟩:=a.al j c l;refine⟨by rw[k.aG q];exact b,d,g,fun m u=>?_⟩;rcases a.va p y l u with h|⟨f,i,s⟩
  ·exact .inl h
  ·exact .inr (uR (k.aG q) k.len i s)
 ·obtain⟨b,d,g,r,i⟩:=n.ob o v;exact⟨b,d,g,by rw[pE];exact r,i⟩
theorem wM {w:Wd} (b:∀x∈w.a7,0<=x.aG/\x.aG<=6) (d:Int) (hd:0<=d):∀(l:List Int) (a:Int),0<=a->a+d+6*l.length<=100000000 ->
  l.foldl (fun n k=>match w.a7[k.toNat]? with|some x=>wr (n+x.aG)|none=>n) (a+d)=l.foldl (fun n k=>match w.a7[k.toNat]? with|some x=>wr (n+x.aG)|none=>n) a+d
 |[],a,_,_=>rfl
 |k::l,a,h0,h1=>by
  simp only[ML] at h1;simp only[List.foldl_cons];cases c:w.a7[k.toNat]? with
  |none=>exact wM b d hd l a h0 d9
  |some x =>
   have:=b x (MP c);simp only;rw[q9 ino,q9 ino,show a+d+x.aG=a+x.aG+d by omega];exact wM b d hd l (a+x.aG) d9 d9
def IB {w:Wd} {s:ByteArray} {c n:Int} (o:w.a7.length<=12) (j:∀x∈w.a7++[(⟨s,c,n,[]⟩:Cl)],0<=x.aG/\x.aG<=6) (d:Ext w ⟨w.a7++[⟨s,c,n,[]⟩],w.heap,w.aC⟩) {k:Nat} (i:c=(k:Int)) (f:k<w.a7.length) :
  p8 ⟨w.a7++[⟨s,c,n,[]⟩],w.heap,w.aC⟩ (w.a7.length:Int)=p8 w c+n:=by
 have m:0<=n/\n<=6:=j ⟨s,c,n,[]⟩ l9;have b:(w.a7++[(⟨s,c,n,[]⟩:Cl)]).length=w.a7.length+1:=l9;have e1:p8 ⟨w.a7++[⟨s,c,n,[]⟩],w.heap,w.aC⟩ c=p8 w c:=by have e:=d.aG f;rw[<-i] at e;exact e
 rw[<-e1];unfold p8;simp only[b];have hl:=vL ⟨w.a7++[⟨s,c,n,[]⟩],w.heap,w.aC⟩ (w.a7.length+1) c;rw[bf,N2 (Int.natCast_nonneg _),Mg];have a:(w.a7++[(⟨s,c,n,[]⟩:Cl)])[w.a7.length]?=some ⟨s,c,n,[]⟩:=by rw[Ma (It _),Nat.sub_self];rfl
 simp only[a,List.foldl_cons,Mg];have l:bf ⟨w.a7++[⟨s,c,n,[]⟩],w.heap,w.aC⟩ (w.a7.length+1+1) c=bf ⟨w.a7++[⟨s,c,n,[]⟩],w.heap,w.aC⟩ (w.a7.length+1) c:=by
  have g:=d.ql k f (w.a7.length+1) (w.a7.length+1+1) d9 d9;have h:=d.ql k f (w.a7.length+1) (w.a7.length+1) d9 d9;rw[<-i] at g h;rw[g,h]
 rw[l,q9 ino];exact wM (w:=⟨w.a7++[⟨s,c,n,[]⟩],w.heap,w.aC⟩) j n m.1 (bf ⟨w.a7++[⟨s,c,n,[]⟩],w.heap,w.aC⟩ (w.a7.length+1) c) 0 d9 d9
def AK {N:Nat} {w:Wd} (D:4194304<=N) (F:D6 w) (i:I6 N w) {s:ByteArray} {c n:Int} (h:(gx w s c n).2.2=0) :
  I6 N (gx w s c n).1/\D6 (gx w s c n).1/\(gx w s c n).1=⟨w.a7++[⟨s,c,n,[]⟩],w.heap,w.aC⟩/\Ext w (gx w s c n).1:=by
 unfold gx at h⊢;split at h
 ·cases h
 rename_i y;rw[N1 y];split at h
 ·cases h
 rename_i K;rw[N1 K];split at h
 ·cases h
 rename_i L;rw[N1 L];split at h
 ·cases h
 rename_i M;rw[N1 M];simp only;have B:∀{j:Nat} {x:Cl},w.a7[j]?=some x->(w.a7++[⟨s,c,n,[]⟩])[j]?=some x:=fun {j x} a=>by
  rw[Mp (ME.1 a).1];exact a
 have u:∀{j:Nat} {x:Cl},(w.a7++[⟨s,c,n,[]⟩])[j]?=some x->w.a7[j]?=some x\/(j=w.a7.length/\x=⟨s,c,n,[]⟩):=fun {j x} a=>by
  rcases Nat.lt_trichotomy j w.a7.length with b|b|b
  ·rw[Mp b] at a;exact .inl a
  ·subst b;rw[Ma (It _),Nat.sub_self] at a;cases a;exact .inr ⟨rfl,rfl⟩
  ·rw[Md L6] at a;cases a
 have l:Ext w ⟨w.a7++[⟨s,c,n,[]⟩],w.heap,w.aC⟩:=⟨i.sup,fun j x a=>⟨x,B a,rfl,rfl⟩⟩;have p:=i.many;obtain⟨G,z⟩:=Int.eq_ofNat_of_zero_le (show 0<=c by omega);have A:G<w.a7.length:=d9;have t:=pG i;have k:∀x∈w.a7++[(⟨s,c,n,[]⟩:Cl)],0<=x.aG/\x.aG<=6:=fun x a=>by
  rcases MT.1 a with a|a
  ·exact t x a
  ·have:=Mh.1 a;subst this;have:=kH t F.1 c;exact⟨bJ,bJ⟩
 have q:=IB p.2.1 k l z A;have g:(w.a7++[(⟨s,c,n,[]⟩:Cl)]).length=w.a7.length+1:=l9;have E:=xi (w:=⟨w.a7++[⟨s,c,n,[]⟩],w.heap,w.aC⟩) D (by simp only[g];omega) i.aC (fun j x a=>by
  rcases u a with a|⟨rfl,rfl⟩
  ·have b:=(ME.1 a).1;have:=i.cls j x a;unfold lY at this⊢;rw[List.take_append_of_le_length d9];exact this
  ·refine⟨by simpa using fun e=>y (.inl e),fun d hd e=>y (.inr ?_),fun R=>d9,fun _=>⟨bJ,bJ,fun J=>?_⟩,k _ l9⟩
   ·rw[List.take_append_of_le_length (It _),List.take_length] at hd;unfold iU;rw[List.any_eq_true];exact⟨d,hd,by simpa using e⟩
   ·simp only at J⊢;omega) (fun j x a=>by
  rcases u a with a|⟨rfl,rfl⟩
  ·have b:=(ME.1 a).1;obtain⟨g1,v,C,_⟩:=i.al j x a;refine⟨by rw[l.aG b];exact g1,v,C,fun m p=>?_⟩;rcases i.va D F a p with h|⟨f,O,P⟩
   ·exact .inl h
   ·exact .inr (uR (l.aG b) l.len O P)
  ·exact⟨by rw[q];omega,l9,List.Pairwise.nil,fun m p=>by cases p⟩) fun o Q=>by
  obtain⟨g1,v,C,H,I⟩:=i.obj o Q;obtain⟨S,r⟩:=Int.eq_ofNat_of_zero_le g1;exact⟨g1,v,by simp only[g];omega,by rw[r,l.aG d9,<-r];exact H,I⟩
 exact⟨E.1,E.2,trivial,l⟩
theorem xm {m x:Me}:∀{l:List Me},x∈cw m l->x=m\/x∈l
 |[],h=>by simpa[cw] using h
 |y::l,h=>by
  unfold cw at h;split at h
  ·rcases MG.1 h with h|h
   ·exact .inl h
   ·exact .inr (Mr _ h)
  split at h
  ·rcases MG.1 h with h|h
   ·exact .inl h
   ·exact .inr h
  ·rcases MG.1 h with h|h
   ·exact .inr (by rw[h];simp)
   ·rcases xm h with h|h
    ·exact .inl h
    ·exact .inr (Mr _ h)
def Bt {y:Me} {l:List Me} (h:dL (y::l)):(∀x∈l,Y4 y.name x.name=true)/\dL l:=List.pairwise_cons.1 h
theorem Cu {m:Me}:∀{l:List Me},dL l->(cw m l).length<=l.length+1/\((bI m.name l).isSome=true->(cw m l).length=l.length)
 |[],_=>⟨by simp[cw],fun h=>by cases h⟩
 |y::l,hr=>by
  obtain⟨b,c⟩:=Bt hr;have ih:=Cu (m:=m) c;unfold cw bI;split
  ·exact⟨l9,fun _=>l9⟩
  rename_i f;split
  ·rename_i a;refine⟨l9,fun h=>?_⟩;cases q:bI m.name l with
   |none=>rw[q] at h;cases h
   |some i =>
    obtain⟨x,d,e⟩:=jb q;have:=DA (b x (MP d));rw[e,a] at this;cases this
  ·exact⟨by simp only[ML];omega,fun h=>by
    simp only[ML];rw[ih.2 (by cases q:bI m.name l with|none=>rw[q] at h;cases h|some i=>rfl)]⟩
theorem Bi {m:Me}:∀{l:List Me},dL l->dL (cw m l)
 |[],_=>by simp[cw,dL]
 |y::l,hr=>by
  obtain⟨c,e⟩:=Bt hr;have ih:=Bi (m:=m) e;unfold cw;split
  ·rename_i d;exact List.pairwise_cons.2 ⟨fun x b=>by rw[<-d];exact c x b,e⟩
  rename_i d;split
  ·rename_i a;exact List.pairwise_cons.2 ⟨fun x b=>by
    rcases MG.1 b with rfl|b
    ·exact a
    ·exact lt_trans a (c x b),hr⟩
  ·rename_i a;refine List.pairwise_cons.2 ⟨fun x b=>?_,ih⟩;rcases xm b with rfl|b
   ·cases q:Y4 y.name x.name with
    |true=>rfl
    |false=>exact absurd (d64 q (by simpa using a)) d
   ·exact c x b
def AJ {N:Nat} {w:Wd} (Q:4194304<=N) (Y:D6 w) (l:I6 N w) {c:Int} {m:Me} {f:cr} (V:aj N w c m=some f) (J:f.err=0) (he:w.aC<1073741824) (h:(iL w c m).2=0) :
  I6 N (iL w c m).1/\D6 (iL w c m).1/\(iL w c m).1.aC=w.aC+1:=by
 unfold iL at h⊢;by_cases C:0<=c
 ·rw[N2 C] at h⊢;cases A:w.a7[c.toNat]? with
  |none=>rw[A] at h;cases h
  |some x =>
   rw[A] at h;simp only at h⊢;split at h
   ·cases h
   rename_i P;rw[N1 P];simp only;have W:=l.many;have u:wr (w.aC+1)=w.aC+1:=q9 (by unfold I5;have:=l.aC;omega);have I:c.toNat<w.a7.length:=(ME.1 A).1;have aH:∀(j:Nat) y,(w.a7.set c.toNat ⟨x.name,x.aQ,x.aG,cw m x.aB⟩)[j]?=some y->∃z,w.a7[j]?=some z/\y.name=z.name/\y.aQ=z.aQ/\y.aG=z.aG/\((j=c.toNat/\z=x/\y.aB=cw m x.aB)\/y.aB=z.aB):=fun j y k=>by
    rw[MY] at k;split at k
    ·rename_i e;subst e;cases k;exact⟨x,A,rfl,rfl,rfl,.inl ⟨rfl,rfl,rfl⟩⟩
    ·exact⟨y,k,rfl,rfl,rfl,.inr rfl⟩
   have r:Ext w ⟨w.a7.set c.toNat ⟨x.name,x.aQ,x.aG,cw m x.aB⟩,w.heap,wr (w.aC+1)⟩:=⟨l.sup,fun j z a=>by
    by_cases e:c.toNat=j
    ·subst e;rw[A] at a;cases a;exact⟨⟨x.name,x.aQ,x.aG,cw m x.aB⟩,by simp only;rw[List.getElem?_set_self I],rfl,rfl⟩
    ·exact⟨z,by simp only;rw[List.getElem?_set_ne e];exact a,rfl,rfl⟩⟩
   have s:∀(j:Nat),∀d∈(w.a7.set c.toNat ⟨x.name,x.aQ,x.aG,cw m x.aB⟩).take j,∃D∈w.a7.take j,D.name=d.name:=fun j d hd=>by
    obtain⟨i,hi⟩:=Mv.1 hd;rw[Mu] at hi;split at hi
    ·rename_i K;obtain⟨z,a,L,_⟩:=aH i d hi
     exact⟨z,Mv.2 ⟨i,by rw[Mu,N2 K];exact a⟩,L.symm⟩
    ·cases hi
   have R:=xi (w:=⟨w.a7.set c.toNat ⟨x.name,x.aQ,x.aG,cw m x.aB⟩,w.heap,wr (w.aC+1)⟩) Q (by simp only[Mc];exact W) (by simp only;rw[u];have:=l.aC;omega) (fun j y k=>by
    obtain⟨z,a,e1,E,F,_⟩:=aH j y k
    obtain⟨g1,t,p,G,H⟩:=l.cls j z a;refine⟨by rw[e1];exact g1,fun d hd=>?_,fun g=>?_,fun g=>by rw[E];exact G g,by rw[F];exact H⟩
    ·obtain⟨D,M,O⟩:=s j d hd;rw[e1,<-O];exact t D M
    ·obtain⟨ff,M,O,Z,q4⟩:=p g;exact⟨ff,M,by rw[e1];exact O,by rw[E];exact Z,by rw[F];exact q4⟩) (fun j y k=>by
    have g:=(ME.1 k).1;simp only[Mc] at g;obtain⟨z,a,e1,E,F,b⟩:=aH j y k
    obtain⟨g1,t,p,_⟩:=l.al j z a;have B:∀q∈z.aB,o0 j q\/∃f,aj N ⟨w.a7.set c.toNat ⟨x.name,x.aQ,x.aG,cw m x.aB⟩,w.heap,wr (w.aC+1)⟩ (j:Int) q=some f/\f.err=0:=fun q n=>by
     rcases l.va Q Y a n with h|⟨f,S,T⟩
     ·exact .inl h
     ·exact .inr (uR (r.aG g) r.len S T)
    rcases b with⟨rfl,rfl,b⟩|b
    ·have hl:=Cu (m:=m) p;refine⟨by rw[r.aG g];exact g1,?_,by rw[b];exact Bi p,fun q n=>?_⟩
     ·rw[b];by_cases q:(bI m.name z.aB).isSome=true
      ·rw[hl.2 q];exact t
      ·have:¬8<=z.aB.length:=fun U=>P ⟨by simpa using q,U⟩;omega
     ·rw[b] at n;rcases xm n with rfl|n
      ·right;rw[Int.toNat_of_nonneg C];have:=r.aG g;rw[Int.toNat_of_nonneg C] at this;exact uR this r.len V J
      ·exact B q n
    ·exact⟨by rw[r.aG g];exact g1,by rw[b];exact t,by rw[b];exact p,fun q n=>B q (by rw[<-b];exact n)⟩) fun o X=>by
    obtain⟨g1,t,p,G,H⟩:=l.obj o X;obtain⟨oi,v⟩:=Int.eq_ofNat_of_zero_le g1;exact⟨g1,t,by simp only[Mc];exact p,by rw[v,r.aG d9,<-v];exact G,H⟩
   exact⟨R.1,R.2,u⟩
 ·rw[N1 C] at h;cases h
def Av : ∀(u:Nat) (b:UInt8),b∈Lib.decDigits u->48<=b.toNat/\b.toNat<=57:=by
 intro u
 induction u using Nat.strongRecOn with
 |_ u ih =>
  intro b a;have one:∀d:Nat,d<10->(UInt8.ofNat (48+d)).toNat=48+d:=fun d hd=>L6;rw[Lib.decDigits] at a;split at a
  ·simp only[Mh] at a;subst a;rw[one u (by assumption)];omega
  ·rcases MT.1 a with a|a
   ·exact ih (u / 10) d9 b a
   ·simp only[Mh] at a;subst a;rw[one (u % 10) d9];omega
def wg (u:Nat):Lib.decDigits u≠[]:=by
 rw[Lib.decDigits];split<;>simp
def F1 : ∀(u:Nat),u<18446744073709551616->∀r,Lib.parseUint10 0 (Lib.decDigits u++r)=Lib.parseUint10 u r:=by
 intro u
 induction u using Nat.strongRecOn with
 |_ u ih =>
  intro a r;have one:∀d:Nat,d<10->(UInt8.ofNat (48+d)).toNat=48+d:=fun d hd=>L6;rw[Lib.decDigits];split
  ·rename_i h;simp only[List.cons_append,List.nil_append,Lib.parseUint10,one u h];rw[N2 d9,N1 d9,N1 d9];congr 1;omega
  ·rename_i h;rw[MV,ih (u / 10) d9 d9];simp only[List.cons_append,List.nil_append,Lib.parseUint10,one (u % 10) d9];rw[N2 d9,N1 d9,N1 d9];congr 1;omega
def zw {u:Nat} (a:u<18446744073709551616):Lib.parseMag (Lib.decDigits u)=.ok u:=by
 unfold Lib.parseMag;rw[N1 (wg u)];have:=F1 u a [];simpa[Lib.parseUint10] using this
def d95 {n:Int} (d:I5 n):Lib.atoiAll (Lib.itoa n)=.ok n:=by
 unfold I5 at d;unfold Lib.itoa;split
 ·rw[Lib.atoiAll_minus,zw d9];simp only[Lib.signed];rw[N1 d9];congr 1;omega
 ·have a:=zw (u:=n.toNat) d9;have b:=Av n.toNat;cases hd:Lib.decDigits n.toNat with
  |nil=>exact absurd hd (wg _)
  |cons c r =>
   have e:=b c (by rw[hd];simp);rw[hd] at a;rw[Lib.atoiAll_plain c r d9 d9,a];simp only[Lib.signless];rw[N1 d9];congr 1;omega
def Bd (n:Int):Lib.itoa n≠[]/\(32:UInt8) ∉ Lib.itoa n:=by
 have key:∀u:Nat,(32:UInt8) ∉ Lib.decDigits u:=fun u h=>by
  have:=Av u 32 h;have e:(32:UInt8).toNat=32:=rfl;omega
 unfold Lib.itoa;split
 ·refine⟨l9,fun h=>?_⟩;rcases MG.1 h with h|h
  ·cases h
  ·exact key _ h
 ·exact⟨wg _,key _⟩
abbrev BL := List UInt8
def dX (s:ByteArray):BL:=s.data.toList++[32]
def dP (n:Int):BL:=Lib.itoa n++[32]
def cO (l:List Int):BL:=(l.map dP).flatten
def eh (i:Ins):BL:=cO [i.op,i.a]++(if i.op=14 then dX i.name else[])
def ec (m:Me):BL:=dX m.name++(cO [m.args,m.a8,m.aV,(m.code.length:Int)]++(m.code.map eh).flatten)
def fH (c:Cl):BL:=dX c.name++(cO [c.aQ,c.aG,(c.aB.length:Int)]++(c.aB.map ec).flatten)
def vT (v:V):BL:=cO [v.k,v.n]
def fK (o:Ob):BL:=cO [o.cls,(o.aG.length:Int)]++(o.aG.map vT).flatten
def dY (w:Wd):BL:=cO [w.aC,(w.a7.length:Int)]++((w.a7.map fH).flatten++(cO [(w.heap.length:Int)]++(w.heap.map fK).flatten))
def U (t:BL):List Int:=t.map fun b=>(b.toNat:Int)
def kP (a b:BL):U (a++b)=U a++U b:=by simp[U]
def fQ (t:BL):(U t).length=t.length:=by simp[U]
def EB (t:BL):(strOfNums (U t)).data.toList=t:=by
 rw[strOfNums_data,U,List.map_map];have:((fun n:Int=>UInt8.ofNat n.toNat)∘fun b:UInt8=>(b.toNat:Int))=id:=by
  funext b;simp
 rw[this,List.map_id]
theorem xz (s:ByteArray):eX s=U s.data.toList:=rfl
def Dm {a b:ByteArray} (h:a.data.toList=b.data.toList):a=b:=by
 apply ByteArray.ext;exact Array.toList_inj.1 h
def sx (s:ByteArray):s.data.toList.length=s.size:=by rw[Array.length_toList];rfl
def Kf {n:Int} (a:I5 n):(dP n).length<=22:=by
 have:=Lib.itoa_length_le n a.1 a.2;simp only[dP,MK,Mx];omega
def vR (N:Nat) (a:List Int) (s:ByteArray) (h:a.length+(dX s).length<=140737488355328):ku N a s=some (a++U (dX s)):=by
 have b:=sx s;have hl:(eX s).length=s.size:=by rw[xz,fQ,b]
 simp only[dX,MK,Mx,b] at h;unfold ku uA uB;rw[Nat.ble_eq_true_of_le (show a.length+s.size<=140737488355328 by omega)];simp only[Mz,A0];rw[Nat.ble_eq_true_of_le (show((a++eX s).length+[(32:Int)].length)*1<=140737488355328 by simp only[MK,hl,Mx];omega)];simp only[Mz,A0,dX,kP,xz];rw[MV];rfl
theorem DE (N:Nat):∀(l:List Int) (k:Nat) (a:List Int),a.length+(cO l).length<=140737488355328->Y8 N l k a=some (a++U (cO l))
 |[],k,a,_=>by simp[Y8,cO,U]
 |n::l,k,a,h=>by
  have e:cO (n::l)=dP n++cO l:=by simp[cO]
  rw[e,MK] at h;have b:dX ⟨(Lib.itoa n).toArray⟩=dP n:=rfl;rw[Y8];simp only[strconv_Itoa,A0];rw[vR N a _ (by rw[b];omega),b];simp only[A0];rw[DE N l (k+1) _ (by rw[MK,fQ];omega),e,kP,MV]
def na (N:Nat) (a l:List Int) (h:a.length+(cO l).length<=140737488355328):V3 N a l=some (a++U (cO l)):=by
 unfold V3;rw[DE N l 0 a h];rfl
theorem qP {b:Type} (tx:b->BL) (L:List b->Nat->List Int->Option (List Int)) (c:∀k a,L [] k a=some a)
  (d:∀x l k a,a.length+(tx x).length<=140737488355328->L (x::l) k a=L l (k+1) (a++U (tx x))):∀(l:List b) (k:Nat) (a:List Int),a.length+(l.map tx).flatten.length<=140737488355328->L l k a=some (a++U (l.map tx).flatten)
 |[],k,a,_=>by simp[c,U]
 |x::l,k,a,h=>by
  simp only[MS,List.flatten_cons,MK] at h;rw[d x l k a d9,qP tx L c d l (k+1) _ (by rw[MK,fQ];omega),MS,List.flatten_cons,kP,MV]
def HF (N:Nat):∀(l:List Ins) (k:Nat) (a:List Int),a.length+(l.map eh).flatten.length<=140737488355328->V6 N l k a=some (a++U (l.map eh).flatten) :=
 qP eh (V6 N) (fun k a=>rfl) fun i l k a h=>by
  simp only[eh,MK] at h;rw[V6,na N a _ d9];simp only[A0];by_cases b:i.op=14
  ·rw[N2 b] at h;simp only[b,N3,Mz];rw[vR N _ _ (by rw[MK,fQ];rw[b] at h;omega)];simp only[A0,eh,b,if_true,kP,MV]
  ·simp only[b,N4,N0,A0,eh,if_false,kP,U,List.map_nil,List.append_nil]
def d43 (N:Nat) (a:List Int) (m:Me) (h:a.length+(ec m).length<=140737488355328):r8 N a m=some (a++U (ec m)):=by
 simp only[ec,MK] at h;unfold r8;rw[vR N a _ d9];simp only[A0];rw[na N _ _ (by rw[MK,fQ];omega)];simp only[A0];rw[HF N m.code 0 _ (by simp only[MK,fQ];omega)];simp only[A0,ec,kP,MV]
def Hg (N:Nat):∀(l:List Me) (k:Nat) (a:List Int),a.length+(l.map ec).flatten.length<=140737488355328->lD N l k a=some (a++U (l.map ec).flatten) :=
 qP ec (lD N) (fun k a=>rfl) fun m l k a h=>by
  rw[lD,d43 N a m h];rfl
def He (N:Nat):∀(l:List Cl) (k:Nat) (a:List Int),a.length+(l.map fH).flatten.length<=140737488355328->lF N l k a=some (a++U (l.map fH).flatten) :=
 qP fH (lF N) (fun k a=>rfl) fun c l k a h=>by
  simp only[fH,MK] at h;rw[lF,vR N a _ d9];simp only[A0];rw[na N _ _ (by rw[MK,fQ];omega)];simp only[A0];rw[Hg N c.aB 0 _ (by simp only[MK,fQ];omega)];simp only[A0,fH,kP,MV]
def HW (N:Nat):∀(l:List V) (k:Nat) (a:List Int),a.length+(l.map vT).flatten.length<=140737488355328->lI N l k a=some (a++U (l.map vT).flatten) :=
 qP vT (lI N) (fun k a=>rfl) fun v l k a h=>by
  rw[lI,na N a _ h];rfl
def Hb (N:Nat):∀(l:List Ob) (k:Nat) (a:List Int),a.length+(l.map fK).flatten.length<=140737488355328->lE N l k a=some (a++U (l.map fK).flatten) :=
 qP fK (lE N) (fun k a=>rfl) fun o l k a h=>by
  simp only[fK,MK] at h;rw[lE,na N a _ d9];simp only[A0];rw[HW N o.aG 0 _ (by rw[MK,fQ];omega)];simp only[A0,fK,kP,MV]
def d71 (w:Wd):dY w≠[]:=by
 intro h;have:=congrArg List.length h;simp only[dY,cO,MS,List.flatten_cons,dP,MK,Mx,Ms] at this;omega
def Iz (N:Nat) (w:Wd) (h:(dY w).length<=140737488355328):pN N w=some (U (dY w)):=by
 have b:=d71 w;simp only[dY,MK] at h;unfold pN;rw[na N [] _ (by simp only[Ms];omega)];simp only[A0,List.nil_append];rw[He N w.a7 0 _ (by rw[fQ];omega)];simp only[A0];rw[na N _ _ (by simp only[MK,fQ];omega)];simp only[A0];rw[Hb N w.heap 0 _ (by simp only[MK,fQ];omega)];have e:U (cO [w.aC,(w.a7.length:Int)])++U (w.a7.map fH).flatten++U (cO [(w.heap.length:Int)])++U (w.heap.map fK).flatten=U (dY w):=by
  simp only[dY,kP,MV]
 simp only[A0,e];have c:(U (dY w)).isEmpty=false:=by
  cases d:dY w with
  |nil=>exact absurd d b
  |cons a l=>rfl
 rw[c];simp only[MQ,Mz,xz,EB]
def gy : BL->Option (BL×BL)
 |[]=>none
 |b::r=>if b=32 then some ([],r) else(gy r).map fun p=>(b::p.1,p.2)
def index_one (t:BL):(gy t=none/\Lib.index t [32]=-1)\/∃w r,gy t=some (w,r)/\Lib.index t [32]=(w.length:Int)/\t=w++32::r/\(32:UInt8) ∉ w:=by
 induction t with
 |nil=>exact .inl ⟨rfl,rfl⟩
 |cons b t ih =>
  by_cases a:b=32
  ·subst a;exact .inr ⟨[],t,by simp[gy],by simp[Lib.index],rfl,l9⟩
  ·have g:([32]:BL).isPrefixOf (b::t)=false:=by simp[List.isPrefixOf];exact fun e=>a e.symm
   rcases ih with⟨c,d⟩|⟨w,r,c,d,h,i⟩
   ·exact .inl ⟨by simp[gy,a,c],by simp[Lib.index,g,d]⟩
   ·refine .inr ⟨b::w,r,by simp[gy,a,c],?_,by rw[h];rfl,by simp[i,Ne.symm a]⟩;have f:¬((w.length:Int) == -1)=true:=l9;simp only[Lib.index,g,d,ML];rw[N1 l9,N1 f];omega
def Br {t w r:BL} (h:gy t=some (w,r)):t=w++32::r/\(32:UInt8) ∉ w:=by
 rcases index_one t with⟨a,_⟩|⟨w',d,a,_,b,c⟩
 ·rw[a] at h;cases h
 ·rw[a] at h;cases h;exact⟨b,c⟩
def Iu {w:BL} (r:BL) (h:(32:UInt8) ∉ w):gy (w++32::r)=some (w,r):=by
 induction w with
 |nil=>simp[gy]
 |cons b w ih =>
  have a:b≠32:=fun e=>h (by simp[e]);simp[gy,a,ih (fun e=>h (by simp[e]))]
def Ki (t:BL):Lib.cut t [32]=match gy t with
  |some (w,r)=>(w,r,true)
  |none=>(t,[],false):=by
 unfold Lib.cut;rcases index_one t with⟨a,b⟩|⟨w,r,a,b,c,d⟩
 ·rw[a,b];rfl
 ·rw[a,b,N2 d9];simp only[Mg,Mx];subst c;simp
def pw (t:BL):Option (ByteArray×BL):=match gy t with
 |some (w,r)=>if w=[] then none else some (⟨w.toArray⟩,r)
 |none=>none
def iC (s:ByteArray):Prop:=s.data.toList≠[]/\(32:UInt8) ∉ s.data.toList
def tC {t:BL} {s:ByteArray} {r:BL} (h:pw t=some (s,r)):t=dX s++r/\iC s:=by
 unfold pw at h;split at h
 ·rename_i w e c;split at h
  ·cases h
  ·rename_i d;cases h;obtain⟨a,b⟩:=Br c;exact⟨by rw[a];simp[dX],d,b⟩
 ·cases h
def tG {s:ByteArray} (r:BL) (h:iC s):pw (dX s++r)=some (s,r):=by
 have e:dX s++r=s.data.toList++32::r:=by simp[dX]
 unfold pw;rw[e,Iu r h.2];simp only[h.1,if_false]
def pn (t:BL):Option (Int×BL):=(pw t).bind fun p=>match Lib.atoiAll p.1.data.toList with
 |.ok n=>if Lib.itoa n=p.1.data.toList then some (n,p.2) else none
 |_=>none
def gj {t:BL} {n:Int} {r:BL} (h:pn t=some (n,r)):t=dP n++r/\I5 n:=by
 unfold pn at h;cases a:pw t with
 |none=>rw[a] at h;cases h
 |some p =>
  rw[a] at h;simp only[A0] at h;split at h
  ·rename_i m c;split at h
   ·rename_i b;cases h;have:=(tC (s:=p.1) (r:=p.2) a).1;exact⟨by rw[this,dX,<-b];rfl,Lib.atoiAll_bounds c⟩
   ·cases h
  ·cases h
def gp {n:Int} (r:BL) (h:I5 n):pn (dP n++r)=some (n,r):=by
 have a:iC ⟨(Lib.itoa n).toArray⟩:=Bd n;have e:dP n=dX ⟨(Lib.itoa n).toArray⟩:=rfl;unfold pn;rw[e,tG r a];simp only[A0];rw[d95 h];simp
def pc (a:Int) (t:BL):Option (Int×BL):=(pn t).bind fun p=>if p.1<0\/a<p.1 then none else some p
def cT {a:Type} (p:BL->Option (a×BL)):Nat->BL->Option (List a×BL)
 |0,t=>some ([],t)
 |n+1,t=>(p t).bind fun x=>(cT p n x.2).bind fun l=>some (x.1::l.1,l.2)
def qV (t:BL):Option (Ins×BL):=(pn t).bind fun a=>(pn a.2).bind fun b=>if a.1=14 then(pw b.2).bind fun s=>some (⟨a.1,b.1,0,0,s.1⟩,s.2) else some (⟨a.1,b.1,0,0,BY⟩,b.2)
def qj (t:BL):Option (Me×BL):=(pw t).bind fun s=>(pn s.2).bind fun a=>(pn a.2).bind fun b=>(pn b.2).bind fun c=>(pc 60 c.2).bind fun n=>(cT qV n.1.toNat n.2).bind fun l=>some (⟨s.1,a.1,b.1,c.1,l.1⟩,l.2)
def qi (t:BL):Option (Cl×BL):=(pw t).bind fun s=>(pn s.2).bind fun a=>(pn a.2).bind fun b=>(pc 8 b.2).bind fun n=>(cT qj n.1.toNat n.2).bind fun l=>some (⟨s.1,a.1,b.1,l.1⟩,l.2)
def pV (t:BL):Option (V×BL):=(pn t).bind fun a=>(pn a.2).bind fun b=>some (⟨a.1,b.1⟩,b.2)
def qk (t:BL):Option (Ob×BL):=(pn t).bind fun a=>(pc 6 a.2).bind fun n=>(cT pV n.1.toNat n.2).bind fun l=>some (⟨a.1,l.1⟩,l.2)
def oV (t:BL):Option (Wd×BL):=(pn t).bind fun e=>(pc 12 e.2).bind fun n=>(cT qi n.1.toNat n.2).bind fun l=>(pc 60 l.2).bind fun m=>(cT qk m.1.toNat m.2).bind fun h=>some (⟨l.1,h.1,e.1⟩,h.2)
structure I4 {α:Type} (tx:α->BL) (p:BL->Option (α×BL)) (W:α->Prop):Prop where
 there:∀x r,W x->p (tx x++r)=some (x,r)
 back:∀t x r,p t=some (x,r)->t=tx x++r/\W x
theorem I4.word : I4 dX pw iC:=⟨fun x r h=>tG r h,fun t x r h=>tC h⟩
theorem I4.num : I4 dP pn I5:=⟨fun x r h=>gp r h,fun t x r h=>gj h⟩
theorem I4.count (a:Int):I4 dP (pc a) fun n=>I5 n/\0<=n/\n<=a:=by
 refine⟨fun n r h=>?_,fun t n r h=>?_⟩
 ·unfold pc;rw[gp r h.1];simp only[A0];rw[N1 d9]
 ·unfold pc at h;cases b:pn t with
  |none=>rw[b] at h;cases h
  |some p =>
   rw[b] at h;simp only[A0] at h;split at h
   ·cases h
   ·cases h;obtain⟨c,d⟩:=gj b;exact⟨c,d,d9,d9⟩
theorem I4.rep {b:Type} {tx:b->BL} {p:BL->Option (b×BL)} {W:b->Prop} (h:I4 tx p W):∀n:Nat,I4 (fun l=>(l.map tx).flatten) (cT p n) fun l=>l.length=n/\∀x∈l,W x
 |0=>⟨fun l r hl=>by
   have:l=[]:=Mk hl.1;subst this;rfl,fun t l r hl=>by cases hl;exact⟨rfl,rfl,l9⟩⟩
 |n+1=>by
  have ih:=I4.rep h n;refine⟨fun l r hl=>?_,fun t l r hl=>?_⟩
  ·cases l with
   |nil=>simp at hl
   |cons x l =>
    simp only[MS,List.flatten_cons,MV,cT];rw[h.there x _ (hl.2 x l9)];simp only[A0];rw[ih.there l r ⟨by simpa using hl.1,fun y a=>hl.2 y (by simp[a])⟩];rfl
  ·simp only[cT,Option.bind_eq_some_iff] at hl;obtain⟨x,k,m,j,e⟩:=hl;cases e;obtain⟨c,d⟩:=h.back t x.1 x.2 k;obtain⟨f,g,i⟩:=ih.back x.2 m.1 m.2 j;refine⟨by rw[c,f];simp,by simp[g],fun y a=>?_⟩;rcases MG.1 a with rfl|a
   ·exact d
   ·exact i y a
def vh (i:Ins):Prop:=I5 i.op/\I5 i.a/\i.b=0/\i.c=0/\(i.op=14->iC i.name)/\(i.op≠14->i.name=BY)
def tN (m:Me):Prop:=iC m.name/\I5 m.args/\I5 m.a8/\I5 m.aV/\m.code.length<=60/\∀i∈m.code,vh i
def d24 (c:Cl):Prop:=iC c.name/\I5 c.aQ/\I5 c.aG/\c.aB.length<=8/\∀m∈c.aB,tN m
def zS (v:V):Prop:=I5 v.k/\I5 v.n
def yz (o:Ob):Prop:=I5 o.cls/\o.aG.length<=6/\∀v∈o.aG,zS v
def qb (w:Wd):Prop:=I5 w.aC/\w.a7.length<=12/\w.heap.length<=60/\(∀c∈w.a7,d24 c)/\∀o∈w.heap,yz o
def kR (a b:Int):cO [a,b]=dP a++dP b:=by simp[cO]
def E4 (a b c:Int):cO [a,b,c]=dP a++(dP b++dP c):=by simp[cO]
def E3 (a b c d:Int):cO [a,b,c,d]=dP a++(dP b++(dP c++dP d)):=by simp[cO]
def Dz (a:Int):cO [a]=dP a:=by simp[cO]
def tD {n:Nat} {m:Int} (h:(n:Int)<=m) (a:m<=1000):I5 (n:Int)/\(0:Int)<=(n:Int)/\(n:Int)<=m:=ino
theorem I4.ins : I4 eh qV vh:=by
 refine⟨fun i r h=>?_,fun t i r h=>?_⟩
 ·obtain⟨l,m,o,p,q,u⟩:=h;obtain⟨op,a,b,c,nm⟩:=i;simp only at l m o p q u;subst o p;unfold eh qV;simp only[kR,MV];rw[gp _ l];simp only[A0];rw[gp _ m];simp only[A0];by_cases d:op=14
  ·subst d;simp only[if_true];rw[tG r (q rfl)];rfl
  ·simp only[d,if_false,u d,List.nil_append]
 ·unfold qV at h;simp only[Option.bind_eq_some_iff] at h;obtain⟨a,v,b,w,h⟩:=h;obtain⟨f,g⟩:=gj (n:=a.1) (r:=a.2) v;obtain⟨j,k⟩:=gj (n:=b.1) (r:=b.2) w;split at h
  ·rename_i d;simp only[Option.bind_eq_some_iff] at h;obtain⟨s,x,e⟩:=h;cases e;obtain⟨s1,y⟩:=tC (s:=s.1) (r:=s.2) x;refine⟨?_,g,k,rfl,rfl,fun _=>y,fun h=>absurd d h⟩;rw[f,j,s1];simp only[eh,kR,d,if_true,MV]
  ·rename_i d;cases h;refine⟨?_,g,k,rfl,rfl,fun h=>absurd h d,fun _=>rfl⟩;rw[f,j];simp only[eh,kR,d,if_false,MV,List.nil_append]
theorem I4.me : I4 ec qj tN:=by
 refine⟨fun m r h=>?_,fun t m r h=>?_⟩
 ·obtain⟨o,p,q,u,F,v⟩:=h;unfold ec qj;simp only[E3,MV];rw[tG _ o];simp only[A0];rw[gp _ p];simp only[A0];rw[gp _ q];simp only[A0];rw[gp _ u];simp only[A0];rw[(I4.count 60).there _ _ (tD d9 G8)];simp only[A0,Mg];rw[(I4.rep I4.ins m.code.length).there m.code r ⟨rfl,v⟩];rfl
 ·unfold qj at h;simp only[Option.bind_eq_some_iff] at h;obtain⟨s,A,a,w,b,x,c,y,n,z,l,hl,e⟩:=h;cases e;obtain⟨s1,E⟩:=tC (s:=s.1) (r:=s.2) A;obtain⟨d,f⟩:=gj (n:=a.1) (r:=a.2) w;obtain⟨g,i⟩:=gj (n:=b.1) (r:=b.2) x;obtain⟨j,k⟩:=gj (n:=c.1) (r:=c.2) y;obtain⟨D,G,H,I⟩:=(I4.count 60).back _ n.1 n.2 z;obtain⟨B,l2,C⟩:=(I4.rep I4.ins n.1.toNat).back _ l.1 l.2 hl;refine⟨?_,E,f,i,k,by show l.1.length<=60;omega,C⟩;have e:((l.1.length:Nat):Int)=n.1:=d9;simp only[ec,E3,e,MV];rw[s1,d,g,j,D,B]
theorem I4.cl : I4 fH qi d24:=by
 refine⟨fun m r h=>?_,fun t m r h=>?_⟩
 ·obtain⟨i,j,k,A,o⟩:=h;unfold fH qi;simp only[E4,MV];rw[tG _ i];simp only[A0];rw[gp _ j];simp only[A0];rw[gp _ k];simp only[A0];rw[(I4.count 8).there _ _ (tD d9 G8)];simp only[A0,Mg];rw[(I4.rep I4.me m.aB.length).there m.aB r ⟨rfl,o⟩];rfl
 ·unfold qi at h;simp only[Option.bind_eq_some_iff] at h;obtain⟨s,v,a,p,b,q,n,u,l,hl,e⟩:=h;cases e;obtain⟨s1,z⟩:=tC (s:=s.1) (r:=s.2) v;obtain⟨c,d⟩:=gj (n:=a.1) (r:=a.2) p;obtain⟨f,g⟩:=gj (n:=b.1) (r:=b.2) q;obtain⟨y,B,C,D⟩:=(I4.count 8).back _ n.1 n.2 u;obtain⟨w,l2,x⟩:=(I4.rep I4.me n.1.toNat).back _ l.1 l.2 hl;refine⟨?_,z,d,g,by show l.1.length<=8;omega,x⟩;have e:((l.1.length:Nat):Int)=n.1:=d9;simp only[fH,E4,e,MV];rw[s1,c,f,y,w]
theorem I4.v : I4 vT pV zS:=by
 refine⟨fun v r h=>?_,fun t v r h=>?_⟩
 ·unfold vT pV;simp only[kR,MV];rw[gp _ h.1];simp only[A0];rw[gp _ h.2];rfl
 ·unfold pV at h;simp only[Option.bind_eq_some_iff] at h;obtain⟨a,i,b,j,e⟩:=h;cases e;obtain⟨c,d⟩:=gj (n:=a.1) (r:=a.2) i;obtain⟨f,g⟩:=gj (n:=b.1) (r:=b.2) j;refine⟨?_,d,g⟩;simp only[vT,kR,MV];rw[c,f]
theorem I4.ob : I4 fK qk yz:=by
 refine⟨fun m r h=>?_,fun t m r h=>?_⟩
 ·obtain⟨d,p,f⟩:=h;unfold fK qk;simp only[kR,MV];rw[gp _ d];simp only[A0];rw[(I4.count 6).there _ _ (tD d9 G8)];simp only[A0,Mg];rw[(I4.rep I4.v m.aG.length).there m.aG r ⟨rfl,f⟩];rfl
 ·unfold qk at h;simp only[Option.bind_eq_some_iff] at h;obtain⟨a,g,n,i,l,hl,e⟩:=h;cases e;obtain⟨b,c⟩:=gj (n:=a.1) (r:=a.2) g;obtain⟨o,q,s,u⟩:=(I4.count 6).back _ n.1 n.2 i;obtain⟨j,l2,k⟩:=(I4.rep I4.v n.1.toNat).back _ l.1 l.2 hl;refine⟨?_,c,by show l.1.length<=6;omega,k⟩;have e:((l.1.length:Nat):Int)=n.1:=d9;simp only[fK,kR,e,MV];rw[b,o,j]
theorem I4.wo : I4 dY oV qb:=by
 refine⟨fun m r h=>?_,fun t m r h=>?_⟩
 ·obtain⟨f,A,B,g,i⟩:=h;unfold dY oV;simp only[kR,Dz,MV];rw[gp _ f];simp only[A0];rw[(I4.count 12).there _ _ (tD d9 G8)];simp only[A0,Mg];rw[(I4.rep I4.cl m.a7.length).there m.a7 _ ⟨rfl,g⟩];simp only[A0];rw[(I4.count 60).there _ _ (tD d9 G8)];simp only[A0,Mg];rw[(I4.rep I4.ob m.heap.length).there m.heap r ⟨rfl,i⟩];rfl
 ·unfold oV at h;simp only[Option.bind_eq_some_iff] at h;obtain⟨a,j,n,q,l,hl,k,p,o,s,e⟩:=h;cases e;obtain⟨b,c⟩:=gj (n:=a.1) (r:=a.2) j;obtain⟨x,F,G,H⟩:=(I4.count 12).back _ n.1 n.2 q;obtain⟨v,l2,w⟩:=(I4.rep I4.cl n.1.toNat).back _ l.1 l.2 hl;obtain⟨u,C,D,E⟩:=(I4.count 60).back _ k.1 k.2 p;obtain⟨y,I,z⟩:=(I4.rep I4.ob k.1.toNat).back _ o.1 o.2 s;refine⟨?_,c,by show l.1.length<=12;omega,by show o.1.length<=60;omega,w,z⟩;have e:((l.1.length:Nat):Int)=n.1:=d9;have d:((o.1.length:Nat):Int)=k.1:=d9;simp only[dY,kR,Dz,e,d,MV];rw[b,x,v,u,y]
def F7 {α:Type} (f:D8->Option (α×D8)) (p:BL->Option (α×BL)) (A:α->Prop):Prop :=
 ∀r:D8,r.s.size<4294967281->∃a b,f r=some (a,b)/\A a/\b.s.size<=r.s.size/\(r.gW=false->b.gW=false) /\
  (r.gW=true->match p r.s.data.toList with
   |some (x,t)=>a=x/\b.gW=true/\b.s.data.toList=t
   |none=>b.gW=false)
section
variable {α β:Type}
theorem F7.pure {a:α} {A:α->Prop} (h:A a):F7 (fun r=>some (a,r)) (fun t=>some (a,t)) A :=
 fun r _=>⟨a,r,rfl,h,It _,fun h=>h,fun h=>⟨rfl,h,rfl⟩⟩
theorem F7.bind {f:D8->Option (α×D8)} {p:BL->Option (α×BL)} {A:α->Prop} (o:F7 f p A) {k:α×D8->Option (β×D8)} {q:α×BL->Option (β×BL)} {B:β->Prop}
  (u:∀a,A a->F7 (fun r=>k (a,r)) (fun t=>q (a,t)) B):F7 (fun r=>(f r).bind k) (fun t=>(p t).bind q) B:=by
 intro r v;obtain⟨a,w,j,l,C,m,c⟩:=o r v;obtain⟨b,y,g1,g,z,d,i⟩:=u a l w d9;refine⟨b,y,by simp only[j,A0,g1],g,d9,fun h=>d (m h),fun h=>?_⟩;have c:=c h;dsimp only;cases e:p r.s.data.toList with
 |none =>
  rw[e] at c;exact d c
 |some x =>
  rw[e] at c;obtain⟨x,t⟩:=x;obtain⟨rfl,n,rfl⟩:=c;exact i n
theorem F7.dy {L:D8->Option (D8×α)} {p:BL->Option (α×BL)} {A:α->Prop} (e:F7 (fun r=>(L r).map fun y=>(y.2,y.1)) p A) {k:D8×α->Option (β×D8)} {q:α×BL->Option (β×BL)} {B:β->Prop}
  (f:∀a,A a->F7 (fun r=>k (r,a)) (fun t=>q (a,t)) B):F7 (fun r=>(L r).bind k) (fun t=>(p t).bind q) B:=by
 have:=F7.bind e (k:=fun y=>k (y.2,y.1)) f;intro r h;obtain⟨b,c,g1,g⟩:=this r h;refine⟨b,c,?_,g⟩;have d:((L r).map fun y=>(y.2,y.1)).bind (fun y=>k (y.2,y.1))=some (b,c):=g1;show(L r).bind k=some (b,c);rw[<-d];cases L r<;>rfl
theorem F7.loop {p:BL->Option (α×BL)} {step:D8->Option (α×D8)} (o:F7 step p fun _=>True) {L:Nat->Nat->D8->List α->Option (D8×List α)} (m:∀k r l,L 0 k r l=some (r,l))
  (q:∀n k r l,l.length<=1000->L (n+1) k r l=(step r).bind fun y=>L n (k+1) y.2 (l++[y.1])) :
  ∀(n k:Nat) (l:List α),l.length+n<=1000->F7 (fun r=>(L n k r l).map fun y=>(y.2,y.1)) (fun t=>(cT p n t).map fun y=>(l++y.1,y.2)) fun _=>True
 |0,k,l,_=>fun r e=>⟨l,r,by simp[m],trivial,It _,fun h=>h,fun h=>by simp[cT,h]⟩
 |n+1,k,l,hl=>by
  intro r e;obtain⟨a,g,u,B,C,v,d⟩:=o r e;obtain⟨b,i,g1,z,A,j,c⟩:=F7.loop o m q n (k+1) (l++[a]) L6 g d9;have g1:(L n (k+1) g (l++[a])).map (fun y=>(y.2,y.1))=some (b,i):=g1;refine⟨b,i,?_,trivial,d9,fun h=>j (v h),fun h=>?_⟩
  ·show(L (n+1) k r l).map (fun y=>(y.2,y.1))=some (b,i);rw[q n k r l d9,u,<-g1];rfl
  have d:=d h;dsimp only;cases f:p r.s.data.toList with
  |none =>
   rw[f] at d;simp only[cT,f,Option.bind_none,Option.map_none];exact j d
  |some x =>
   rw[f] at d;obtain⟨x,t⟩:=x;obtain⟨rfl,w,rfl⟩:=d;have c:=c w;dsimp only at c;simp only[cT,f,A0];cases e:cT p n g.s.data.toList with
   |none=>rw[e] at c;exact c
   |some y =>
    rw[e] at c;simp only[Mf,MV,List.singleton_append] at c;exact c
theorem F7.rep {p:BL->Option (α×BL)} {step:D8->Option (α×D8)} (c:F7 step p fun _=>True) {L:Nat->Nat->D8->List α->Option (D8×List α)} (a:∀k r l,L 0 k r l=some (r,l))
  (d:∀n k r l,l.length<=1000->L (n+1) k r l=(step r).bind fun y=>L n (k+1) y.2 (l++[y.1])) (n:Nat) (b:n<=1000):F7 (fun r=>(L n 0 r []).map fun y=>(y.2,y.1)) (cT p n) fun _=>True:=by
 have:=F7.loop c a d n 0 [] (by simpa using b);have e:(fun t=>(cT p n t).map fun y=>(([]:List α)++y.1,y.2))=cT p n:=by
  funext t;cases cT p n t<;>rfl
 rwa [e] at this
end
theorem F7.word (N:Nat):F7 (Q0 N) pw fun w=>w.size<4294967281:=by
 intro r i;obtain⟨s,o⟩:=r;simp only at i;have l:=sx s;have c:=Ki s.data.toList;unfold Q0 strings_Cut;have d:(⟨#[32]⟩:ByteArray).data.toList=[32]:=rfl;rw[N6 (show(s.size<4294967281) from i),d];simp only[Mz,A0];cases a:gy s.data.toList with
 |none =>
  rw[a] at c;rw[c];simp only[MQ,Mz,A0];refine⟨_,_,rfl,by show 0<_;omega,It _,fun _=>rfl,fun h=>?_⟩;simp[pw,a]
 |some y =>
  obtain⟨w,t⟩:=y;rw[a] at c;obtain⟨j,k⟩:=Br a;have hl:=congrArg List.length j;simp only[MK,ML] at hl;rw[c];simp only[MH,N0,A0];by_cases g:w=[]
  ·subst g;have:(⟨([]:BL).toArray⟩:ByteArray)=⟨#[]⟩:=rfl;rw[this];simp only[N3,Mz];refine⟨_,_,rfl,by show 0<_;omega,It _,fun _=>rfl,fun h=>?_⟩;simp[pw,a]
  ·have f:¬(⟨w.toArray⟩:ByteArray)=⟨#[]⟩:=fun e=>g (by
    have:=congrArg (fun b:ByteArray=>b.data.toList) e;simpa using this)
   rw[N5 f];simp only[N0];refine⟨_,_,rfl,?_,?_,fun h=>h,fun h=>?_⟩
   ·show w.toArray.size<_;rw[List.size_toArray];omega
   ·show t.toArray.size<=s.size;rw[List.size_toArray];omega
   ·simp[pw,a,g,h]
theorem F7.num (N:Nat):F7 (p9 N) pn fun _=>True:=by
 unfold p9 pn;refine F7.bind (F7.word N) fun w d=>?_;intro r c;obtain⟨s,o⟩:=r;simp only;have f:=sx w;unfold strconv_Atoi strconv_Itoa;rw[N6 (show(w.size<=281474976710656) by omega)];simp only[Mz,A0];cases b:Lib.atoiAll w.data.toList with
 |ok n =>
  simp only[MH,N0,A0];by_cases a:Lib.itoa n=w.data.toList
  ·have e:(⟨(Lib.itoa n).toArray⟩:ByteArray)=w:=Dm a;rw[N6 e];simp only[MH,N0,A0];exact⟨_,_,rfl,trivial,It _,fun h=>h,fun h=>by simp[a,h]⟩
  ·have e:¬(⟨(Lib.itoa n).toArray⟩:ByteArray)=w:=fun e=>a (by rw[<-e]);rw[N5 e];simp only[MQ,Mz,A0];exact⟨_,_,rfl,trivial,It _,fun _=>rfl,fun _=>by simp[a]⟩
 |_ =>
  simp only[MQ,Mz,A0];exact⟨_,_,rfl,trivial,It _,fun _=>rfl,fun _=>rfl⟩
theorem F7.count (N:Nat) (a:Int) (d:0<=a):F7 (fun r=>K9 N r a) (pc a) fun n=>0<=n/\n<=a:=by
 unfold K9 pc;refine F7.bind (F7.num N) fun n _=>?_;intro r e;obtain⟨s,o⟩:=r;simp only;by_cases b:n<0
 ·simp only[b,N3,Mz,A0];exact⟨_,_,rfl,⟨MO _,d⟩,It _,fun _=>rfl,fun _=>by simp[b]⟩
 ·by_cases c:a<n
  ·simp only[b,c,N3,N4,Mz,N0,A0];exact⟨_,_,rfl,⟨MO _,d⟩,It _,fun _=>rfl,fun _=>by simp[c]⟩
  ·simp only[b,c,N4,N0,A0];exact⟨_,_,rfl,⟨d9,d9⟩,It _,fun h=>h,fun h=>by simp[b,c,h]⟩
def vd (a:Int):(a-((0:Nat):Int)).toNat=a.toNat:=l9
def pq {α:Type} {l:List α} {x:α} {B:Nat} (h:l.length<=1000) (a:B<=1000):IN ((l.length+[x].length)*B) 140737488355328=true:=by
 refine Nat.ble_eq_true_of_le ?_;have:(l.length+[x].length)*B<=1001*1000:=Nat.mul_le_mul (by simp only[Mx];omega) a;omega
def vf (N:Nat) (r:D8):Option (Ins×D8):=(p9 N r).bind fun a=>(p9 N a.2).bind fun b=>bif decide (a.1=14) then(Q0 N b.2).bind fun s=>some (⟨a.1,b.1,0,0,s.1⟩,s.2) else some (⟨a.1,b.1,0,0,BY⟩,b.2)
theorem F7.ins (N:Nat):F7 (vf N) qV fun _=>True:=by
 unfold vf qV;refine F7.bind (F7.num N) fun a _=>?_;dsimp only;by_cases h:a=14
 ·simp only[h,N3,Mz,if_true];refine F7.bind (F7.num N) fun b _=>?_;dsimp only;exact F7.bind (F7.word N) fun s _=>by dsimp only;exact F7.pure trivial
 ·simp only[h,N4,N0,if_false];exact F7.bind (F7.num N) fun b _=>by dsimp only;exact F7.pure trivial
def FJ (N:Nat) (n k:Nat) (r:D8) (l:List Ins) (hl:l.length<=1000):P5 N (n+1) k r l=(vf N r).bind fun y=>P5 N n (k+1) y.2 (l++[y.1]):=by
 rw[P5];unfold vf;cases d:p9 N r with
 |none=>rfl
 |some a =>
  simp only[A0];cases e:p9 N a.2 with
  |none=>rfl
  |some b =>
   simp only[A0];by_cases c:a.1=14
   ·simp only[c,N3,Mz];cases f:Q0 N b.2 with
    |none=>rfl
    |some s=>simp only[A0,pq hl (show 48<=1000 by decide),Mz]
   ·simp only[c,N4,N0,A0,pq hl (show 48<=1000 by decide),Mz]
theorem F7.me (N:Nat):F7 (mc N) qj fun _=>True:=by
 unfold mc qj;refine F7.bind (F7.word N) fun w _=>?_;dsimp only;refine F7.bind (F7.num N) fun a _=>?_;dsimp only;refine F7.bind (F7.num N) fun b _=>?_;dsimp only;refine F7.bind (F7.num N) fun c _=>?_;dsimp only;refine F7.bind (F7.count N 60 G8) fun n d=>?_;dsimp only;simp only[vd];exact F7.dy (F7.rep (F7.ins N) (L:=P5 N) (fun k r l=>rfl) (FJ N) n.toNat d9) fun l _=>by dsimp only;exact F7.pure trivial
def Gk (N:Nat) (n k:Nat) (r:D8) (l:List Me) (hl:l.length<=1000):K8 N (n+1) k r l=(mc N r).bind fun y=>K8 N n (k+1) y.2 (l++[y.1]):=by
 rw[K8];cases b:mc N r with
 |none=>rfl
 |some a=>simp only[A0,pq hl (show 64<=1000 by decide),Mz]
def d45 (N:Nat) (r:D8):Option (Cl×D8):=(Q0 N r).bind fun s=>(p9 N s.2).bind fun a=>(p9 N a.2).bind fun b=>(K9 N b.2 8).bind fun n=>(K8 N n.1.toNat 0 n.2 []).bind fun l=>some (⟨s.1,a.1,b.1,l.2⟩,l.1)
theorem F7.cl (N:Nat):F7 (d45 N) qi fun _=>True:=by
 unfold d45 qi;refine F7.bind (F7.word N) fun w _=>?_;dsimp only;refine F7.bind (F7.num N) fun a _=>?_;dsimp only;refine F7.bind (F7.num N) fun b _=>?_;dsimp only;refine F7.bind (F7.count N 8 G8) fun n c=>?_;dsimp only;exact F7.dy (F7.rep (F7.me N) (L:=K8 N) (fun k r l=>rfl) (Gk N) n.toNat d9) fun l _=>by dsimp only;exact F7.pure trivial
def Gj (N:Nat) (n k:Nat) (r:D8) (l:List Cl) (hl:l.length<=1000):R7 N (n+1) k r l=(d45 N r).bind fun y=>R7 N n (k+1) y.2 (l++[y.1]):=by
 rw[R7];unfold d45;cases e:Q0 N r with
 |none=>rfl
 |some s =>
  simp only[A0];cases f:p9 N s.2 with
  |none=>rfl
  |some a =>
   simp only[A0];cases g:p9 N a.2 with
   |none=>rfl
   |some b =>
    simp only[A0];cases h:K9 N b.2 8 with
    |none=>rfl
    |some c =>
     simp only[A0,vd];cases i:K8 N c.1.toNat 0 c.2 [] with
     |none=>rfl
     |some d=>simp only[A0,pq hl (show 56<=1000 by decide),Mz]
def vw (N:Nat) (r:D8):Option (V×D8):=(p9 N r).bind fun a=>(p9 N a.2).bind fun b=>some (⟨a.1,b.1⟩,b.2)
theorem F7.v (N:Nat):F7 (vw N) pV fun _=>True:=by
 unfold vw pV;refine F7.bind (F7.num N) fun a _=>?_;dsimp only;exact F7.bind (F7.num N) fun b _=>by dsimp only;exact F7.pure trivial
def Gs (N:Nat) (n k:Nat) (r:D8) (l:List V) (hl:l.length<=1000):K6 N (n+1) k r l=(vw N r).bind fun y=>K6 N n (k+1) y.2 (l++[y.1]):=by
 rw[K6];unfold vw;cases c:p9 N r with
 |none=>rfl
 |some a =>
  simp only[A0];cases d:p9 N a.2 with
  |none=>rfl
  |some b=>simp only[A0,pq hl (show 16<=1000 by decide),Mz]
def d20 (N:Nat) (r:D8):Option (Ob×D8):=(p9 N r).bind fun a=>(K9 N a.2 6).bind fun n=>(K6 N n.1.toNat 0 n.2 []).bind fun l=>some (⟨a.1,l.2⟩,l.1)
theorem F7.ob (N:Nat):F7 (d20 N) qk fun _=>True:=by
 unfold d20 qk;refine F7.bind (F7.num N) fun a _=>?_;dsimp only;refine F7.bind (F7.count N 6 G8) fun n b=>?_;dsimp only;exact F7.dy (F7.rep (F7.v N) (L:=K6 N) (fun k r l=>rfl) (Gs N) n.toNat d9) fun l _=>by dsimp only;exact F7.pure trivial
def Gn (N:Nat) (n k:Nat) (r:D8) (l:List Ob) (hl:l.length<=1000):R4 N (n+1) k r l=(d20 N r).bind fun y=>R4 N n (k+1) y.2 (l++[y.1]):=by
 rw[R4];unfold d20;cases c:p9 N r with
 |none=>rfl
 |some a =>
  simp only[A0];cases e:K9 N a.2 6 with
  |none=>rfl
  |some b =>
   simp only[A0,vd];cases f:K6 N b.1.toNat 0 b.2 [] with
   |none=>rfl
   |some d=>simp only[A0,pq hl (show 32<=1000 by decide),Mz]
theorem F7.wo (N:Nat):F7 (r9 N) oV fun _=>True:=by
 unfold r9 oV;refine F7.bind (F7.num N) fun e _=>?_;dsimp only;refine F7.bind (F7.count N 12 G8) fun n b=>?_;dsimp only;simp only[vd];refine F7.dy (F7.rep (F7.cl N) (L:=R7 N) (fun k r l=>rfl) (Gj N) n.toNat d9) fun l _=>?_;dsimp only;refine F7.bind (F7.count N 60 G8) fun m a=>?_;dsimp only;exact F7.dy (F7.rep (F7.ob N) (L:=R4 N) (fun k r l=>rfl) (Gn N) m.toNat d9) fun l _=>by dsimp only;exact F7.pure trivial
def d30 (t:BL):Option Wd:=match oV t with
 |some (w,[])=>some w
 |_=>none
def Kg {w:Wd} (h:qb w):d30 (dY w)=some w:=by
 have:=I4.wo.there w [] h;rw[List.append_nil] at this;unfold d30;rw[this]
def JU (N:Nat) (b:List Int) (i:b.length<4294967281):lT N b=match d30 (strOfNums b).data.toList with
  |none=>some (⟨[],[],0⟩,2)
  |some w=>(pS N w).bind fun r=>bif (!decide (r=0)) then some (⟨[],[],0⟩,r) else some (w,0):=by
 unfold lT;obtain⟨w,r,g,_,_,_,c⟩:=F7.wo N ⟨strOfNums b,true⟩ (by rw[strOfNums_size];exact i);have c:=c rfl;rw[g];simp only[A0];simp only at c;unfold d30;cases f:oV (strOfNums b).data.toList with
 |none =>
  rw[f] at c;simp only[c,MQ,Mz,A0]
 |some x =>
  obtain⟨x,t⟩:=x;rw[f] at c;obtain⟨rfl,h,d⟩:=c;simp only[h,MH,N0,A0];cases t with
  |nil =>
   have:r.s=⟨#[]⟩:=Dm d;simp only[this,N3,MH,N0]
  |cons a t =>
   have:¬r.s=⟨#[]⟩:=fun e=>by rw[e] at d;cases d
   simp only[this,N4,MQ,Mz]
def ix (a:List Cl) (s:ByteArray):Bool:=a.any fun d=>decide (d.name=s)
def tP (k:Nat) (c:Cl):Bool:=match N9.a7[k]? with
 |some f=>!decide (c.name=f.name)
 |none=>false
def qY (k:Nat) (c:Cl):Bool:=(match N9.a7[k]? with
 |some f=>!decide (c.aQ=f.aQ) || !decide (c.aG=0)
 |none=>decide (c.aQ<0) || (decide ((k:Int)<=c.aQ) || (!decide (c.aQ=0) && decide (c.aQ<4)))) || (decide (c.aG<0) || decide (6<c.aG))
def lf (a:List Cl) (k:Nat) (c:Cl):Int:=bif !Y1 c.name || (ix a c.name || tP k c) then 7 else bif qY k c then 3 else 0
def jn (w:Wd):List Cl->Nat->H9 Int Unit
 |[],_=>.next ()
 |c::l,k=>bif decide (lf (w.a7.take k) k c=0) then jn w l (k+1) else .ret (lf (w.a7.take k) k c)
def qL (k:Nat) (m:Me):Bool:=decide (k=3) && (U0.any (fun p=>decide (p.name=m.name) && decide (p.aV=m.aV)) && (decide (m.args=1) && (decide (m.a8=0) && decide (m.code=[]))))
def ny (p:Option Me) (m:Me):Bool:=match p with
 |some q=>!Y4 q.name m.name
 |none=>false
def d27 (N:Nat) (w:Wd) (k:Nat) (p:Option Me) (m:Me):Option Int:=bif ny p m then some 7 else bif qL k m then some 0 else(aj N w (k:Int) m).map (·.err)
def pB (N:Nat) (w:Wd) (k:Nat) (ms:List Me):List Me->Nat->Option (H9 Int Unit)
 |[],_=>some (.next ())
 |m::l,j=>(d27 N w k (if j=0 then none else ms[j-1]?) m).bind fun e=>bif decide (e=0) then pB N w k ms l (j+1) else some (.ret e)
def lz (N:Nat) (w:Wd):List Cl->Nat->Option (H9 Int Unit)
 |[],_=>some (.next ())
 |c::l,k=>bif decide (6<p8 w (k:Int)) then some (.ret 3) else bif decide (8<(c.aB.length:Int)) then some (.ret 5) else(pB N w k c.aB c.aB 0).bind fun o=>match o with
  |.ret r=>some (.ret r)
  |.next ()=>lz N w l (k+1)
def ld (n:Int):List V->H9 Int Unit
 |[]=>.next ()
 |v::l=>bif decide (cc v n=0) then ld n l else .ret (cc v n)
def oR (w:Wd) (o:Ob):Bool:=(!decide (o.cls=0) && (decide (o.cls<4) || decide ((w.a7.length:Int)<=o.cls))) || !decide ((o.aG.length:Int)=p8 w o.cls)
def lv (w:Wd):List Ob->H9 Int Unit
 |[]=>.next ()
 |o::l=>bif oR w o then .ret 8 else match ld (w.heap.length:Int) o.aG with
  |.ret r=>.ret r
  |.next ()=>lv w l
def qH (N:Nat) (w:Wd):Option Int :=
 bif decide ((w.a7.length:Int)<4) || (decide (12<(w.a7.length:Int)) || decide (60<(w.heap.length:Int))) then some 5
 else bif decide (w.aC<0) || decide (1073741824<w.aC) then some 3
 else match jn w w.a7 0 with
  |.ret r=>some r
  |.next ()=>(lz N w w.a7 0).bind fun o=>match o with
   |.ret r=>some r
   |.next ()=>match lv w w.heap with
    |.ret r=>some r
    |.next ()=>some 0
theorem Cg {c:Type} [DecidableEq c] (x s:c):∀v:List (c×Bool),fe s (eM x true v)=(decide (x=s) || fe s v)
 |[]=>by
  by_cases h:s=x
  ·simp[eM,fe,h]
  ·simp[eM,fe,h,Ne.symm h]
 |(y,b)::l=>by
  have ih:=Cg x s l;by_cases h:x=y
  ·subst h;by_cases a:s=x
   ·simp[eM,fe,a]
   ·simp[eM,fe,a,Ne.symm a]
  ·by_cases a:s=y
   ·have:¬x=s:=fun e=>h (e.trans a);simp[eM,fe,h,a]
   ·simp only[eM,N1 h,fe,N1 a];exact ih
def d69 (a:List Cl) (c:Cl) (s:ByteArray):ix (a++[c]) s=(decide (c.name=s) || ix a s):=by
 simp only[ix,List.any_append,List.any_cons,List.any_nil,Bool.or_false];exact Bool.or_comm _ _
theorem sn : N9.a7.length=4:=rfl
def Dw {k:Nat} {f:Cl} (h:N9.a7[k]?=some f):k<4:=by
 have:=(ME.1 h).1
 rwa [sn] at this
def Dj {k:Nat} (h:N9.a7[k]?=none):4<=k:=by
 have:=List.getElem?_eq_none_iff.1 h
 rwa [sn] at this
theorem Bl (N:Nat) (w:Wd) (r:w.a7.length<=1048576):∀(l:List Cl) (k:Nat) (v:List (ByteArray×Bool)),l=w.a7.drop k->v.length<=k->(∀s,fe s v=ix (w.a7.take k) s)->my N N9 l k v=some (jn w l k)
 |[],k,v,_,_,_=>rfl
 |c::l,k,v,h,hv,hm=>by
  obtain⟨p,hl,i⟩:=eE h;have i:=of_decide_eq_true i;have t:=xK p;have ih:=Bl N w r l (k+1) (eM c.name true v) hl (by have:=xd c.name true v;omega) (fun s=>by rw[Cg,hm,t,d69]);rw[my,qu,jn,sn];simp only[A0,hm,ih,Nat.ble_eq_true_of_le (show v.length+1<=140737488355328 by omega),Mz];unfold lf tP qY;cases u:Y1 c.name with
  |false=>simp
  |true =>
   cases hd:ix (w.a7.take k) c.name with
   |true=>simp
   |false =>
    cases o:N9.a7[k]? with
    |some f =>
     have q:=Dw o;have e1:decide ((k:Int)<((4:Nat):Int))=true:=N6 d9;have n:decide (((4:Nat):Int)<=(k:Int))=false:=N5 d9;simp only[e1,n,D7,o,A0,Mz,N0,MH,Bool.false_or];by_cases b:c.name=f.name
     ·by_cases a:c.aQ=f.aQ
      ·by_cases d:c.aG=0
       ·simp[b,a,d]
       ·simp[b,a,d]
      ·simp[b,a]
     ·simp[b]
    |none =>
     have q:=Dj o;have e:¬k=0:=d9;have e1:decide ((k:Int)<((4:Nat):Int))=false:=N5 d9;have n:decide (((4:Nat):Int)<=(k:Int))=true:=N6 d9;simp only[e1,n,A0,Mz,N0,MH,Bool.false_or];by_cases b:c.aQ<0
     ·simp[b]
     ·by_cases a:(k:Int)<=c.aQ
      ·simp[b,a]
      ·by_cases d:c.aQ=0
       ·by_cases g:c.aG<0
        ·simp[e,a,d,g]
        ·by_cases j:6<c.aG
         ·simp[e,a,d,g,j]
         ·simp[e,a,d,g,j]
       ·by_cases m:c.aQ<4
        ·simp[b,a,d,m]
        ·by_cases g:c.aG<0
         ·simp[b,a,d,g,m]
         ·by_cases j:6<c.aG
          ·simp[b,a,d,g,j,m]
          ·simp[b,a,d,g,j,m]
theorem Dx {s:ByteArray} {q:Int}:∀{l:List Me},dL l->l.any (fun p=>decide (p.name=s) && decide (p.aV=q))=match bI s l with
  |some i=>(match l[i]? with
   |some x=>decide (x.aV=q)
   |none=>false)
  |none=>false
 |[],_=>rfl
 |m::r,h=>by
  have d:=(List.pairwise_cons.1 h).1;have ih:=Dx (s:=s) (q:=q) (List.pairwise_cons.1 h).2;rw[List.any_cons,bI];by_cases e:m.name=s
  ·rw[N2 e,N6 e];have:r.any (fun p=>decide (p.name=s) && decide (p.aV=q))=false:=by
    rw[List.any_eq_false];intro p f;have a:=d p f;have b:¬p.name=s:=fun c=>by
     rw[e,<-c] at a;rw[jl] at a;cases a
    simp[b]
   rw[this];simp
  ·rw[N1 e,N5 e,ih];cases bI s r with
   |none=>rfl
   |some i=>simp
def CP : dL U0:=by unfold dL;decide +kernel
def d83 : dS N9:=fun x a=>by
 have:x.aB=[]\/x.aB=U0:=by
  simp only[N9,MG,List.not_mem_nil,or_false] at a;rcases a with rfl|rfl|rfl|rfl<;>simp
 rcases this with e|e<;>rw[e]
 ·exact List.Pairwise.nil
 ·exact CP
def uW : D6 N9:=by
 refine⟨G8,G8,fun x b=>?_,fun o c=>by cases c⟩;simp only[N9,MG,List.not_mem_nil,or_false] at b;have a:∀m∈U0,m.code.length<=1048576:=G8;rcases b with rfl|rfl|rfl|rfl
 ·exact⟨G8,fun m a=>by cases a⟩
 ·exact⟨G8,fun m a=>by cases a⟩
 ·exact⟨G8,fun m a=>by cases a⟩
 ·exact⟨G8,a⟩
def JN (s:ByteArray):l7 N9 s 3=match bI s U0 with
  |some i=>(3,(i:Int))
  |none=>(-1,-1):=by
 unfold l7;have a:N9.a7[(3:Int).toNat]?=some ⟨⟨#[73,110,116]⟩,0,0,U0⟩:=rfl;have e0:N9.a7[(0:Int).toNat]?=some ⟨⟨#[79,98,106,101,99,116]⟩,-1,0,[]⟩:=rfl;have b:X3 N9 s 4 0=none:=by
  rw[X3,N2 G8,e0];show X3 N9 s 3 (-1)=none;rw[X3,N1 G8]
 rw[sn,X3,N2 G8,a];show(match bI s U0 with
  |some i=>some ((3:Int),(i:Int))
  |none=>X3 N9 s 4 0).getD (-1,-1)=_
 rw[b];cases bI s U0<;>rfl
def IW (N:Nat) (j:1048578<=N) (m:Me):pf N N9 m=some (U0.any (fun p=>decide (p.name=m.name) && decide (p.aV=m.aV)) && (decide (m.args=1) && (decide (m.a8=0) && decide (m.code=[])))):=by
 have hl:∀i,bI m.name U0=some i->∃x,U0[i]?=some x:=fun i h=>by
  obtain⟨x,b,_⟩:=jb h;exact⟨x,b⟩
 have k:decide ((m.code.length:Int)=0)=decide (m.code=[]):=by
  cases m.code<;>simp;omega
 unfold pf;rw[lH N N9 3 m.name j d83 uW,JN,Dx CP];cases hi:bI m.name U0 with
 |none=>rfl
 |some i =>
  obtain⟨x,b⟩:=hl i hi;have g:j4 N9.a7 3=some ⟨⟨#[73,110,116]⟩,0,0,U0⟩:=rfl;simp only[A0,g,D7,b,N6 (Int.natCast_nonneg i),Mz,k];by_cases a:x.aV=m.aV
  ·by_cases d:m.args=1
   ·by_cases f:m.a8=0
    ·simp[a,d,f]
    ·simp[a,d,f]
   ·simp[a,d]
  ·have c:¬m.aV=x.aV:=fun e=>a e.symm;simp[a,c]
def Io {m:Me} (h:U0.any (fun p=>decide (p.name=m.name) && decide (p.aV=m.aV))=true):m.aV≠0/\∃p∈U0,p.name=m.name/\p.aV=m.aV:=by
 obtain⟨p,a,h⟩:=List.any_eq_true.1 h;simp only[IT,NA] at h;have b:∀q∈U0,q.aV≠0:=G8;exact⟨by rw[<-h.2];exact b p a,p,a,h⟩
theorem Bn (N:Nat) (w:Wd) (k:Nat) (c:Cl) (q:4194304<=N) (i:D6 w) (r:c∈w.a7):∀(l:List Me) (j:Nat),l=c.aB.drop j->nE N w N9 k c l j=pB N w k c.aB l j
 |[],j,_=>rfl
 |m::l,j,h=>by
  obtain⟨y,hl,b⟩:=eE h;have b:=of_decide_eq_true b;have v:=(i.2.2.1 c r).1;have ih:=Bn N w k c q i r l (j+1) hl;have ep:((bif decide ((0:Int)<(j:Int)) then((j4 c.aB (wr ((j:Int)-(1:Int)))).bind fun e=>some ((!Y4 e.name m.name))) else some (false)):Option Bool) =
    some (ny (if j=0 then none else c.aB[j-1]?) m):=by
   by_cases o:j=0
   ·subst o;rfl
   ·have wk:wr ((j:Int)-1)=((j-1:Nat):Int):=by rw[q9 ino];omega
    obtain⟨p,x⟩:∃p,c.aB[j-1]?=some p:=⟨_,IS d9⟩;rw[N6 (show(0:Int)<(j:Int) by omega),N1 o];simp only[Mz,wk,D7,x,A0,ny]
  have eq:((bif (!decide (m.aV=(0:Int))) then(bif decide ((k:Int)=(3:Int)) then((pf N N9 m).bind fun d=>some (d)) else some (false)) else some (false)):Option Bool)=some (qL k m):=by
   rw[IW N d9 m];unfold qL;by_cases g:k=3
   ·have a:(k:Int)=3:=d9;cases t:U0.any (fun p=>decide (p.name=m.name) && decide (p.aV=m.aV)) with
    |true =>
     have:=(Io t).1;simp[g,this]
    |false =>
     by_cases n:m.aV=0<;>simp[g,n]
   ·have a:¬(k:Int)=3:=d9;by_cases n:m.aV=0<;>simp[g,a,n]
  rw[nE,ep,eq,Ap N w _ _ d9 i.1,pB];unfold d27;simp only[A0,ih];cases ny (if j=0 then none else c.aB[j-1]?) m with
  |true=>simp
  |false =>
   cases qL k m with
   |true=>simp
   |false =>
    simp only[N0];obtain⟨f,u⟩:=wJ N w (k:Int) m q;rw[u];simp only[A0,Mf];by_cases s:f.err=0
    ·simp[s]
    ·simp[s]
theorem C5 (N:Nat) (w:Wd) (b:4194304<=N) (a:D6 w):∀(l:List Cl) (k:Nat),l=w.a7.drop k->n5 N w N9 l k=lz N w l k
 |[],k,_=>rfl
 |c::l,k,h=>by
  obtain⟨d,hl,e⟩:=eE h;rw[n5,ou N w _ d9 a.1,lz,Bn N w k c b a (MP d) c.aB 0 rfl];simp only[A0,C5 N w b a l (k+1) hl];rfl
theorem CH (N:Nat) (w:Wd):∀(l:List V) (k:Nat),nM N w l k=some (ld (w.heap.length:Int) l)
 |[],k=>rfl
 |v::l,k=>by
  rw[nM,Ai,ld];simp only[A0,CH N w l (k+1)];by_cases h:cc v (w.heap.length:Int)=0<;>simp[h]
theorem CQ (N:Nat) (w:Wd) (b:1048578<=N) (c:w.a7.length<=1048576) (f:4<=w.a7.length):∀(l:List Ob) (k:Nat),nH N w l k=some (lv w l)
 |[],k=>rfl
 |o::l,k=>by
  rw[nH,ou N w _ b c,lv,CH];simp only[A0,CQ N w b c f l (k+1)];have e:((bif (!decide (o.cls=(0:Int))) then(bif decide (o.cls<(4:Int)) then some (true) else(bif decide ((w.a7.length:Int)<=o.cls) then some (true) else some ((!decide ((o.aG.length:Int)=p8 w o.cls))))) else some ((!decide ((o.aG.length:Int)=p8 w o.cls)))):Option Bool)=some (oR w o):=by
   unfold oR;by_cases a:o.cls=0
   ·simp[a]
   ·by_cases d:o.cls<4
    ·simp[a,d]
    ·by_cases g:(w.a7.length:Int)<=o.cls<;>simp[a,d,g]
  rw[e];simp only[A0];cases oR w o with
  |true=>rfl
  |false =>
   simp only[N0];cases ld (w.heap.length:Int) o.aG<;>rfl
def Gu (N:Nat) (w:Wd) (e:4194304<=N) (b:D6 w):pS N w=qH N w:=by
 unfold pS qH uQ;have e1:((bif decide ((w.a7.length:Int)<(N9.a7.length:Int)) then some (true) else(bif decide ((12:Int)<(w.a7.length:Int)) then some (true) else some (decide ((60:Int)<(w.heap.length:Int))))):Option Bool)=some (decide ((w.a7.length:Int)<4) || (decide (12<(w.a7.length:Int)) || decide (60<(w.heap.length:Int)))):=by
  rw[sn];have:((4:Nat):Int)=4:=rfl;rw[this];by_cases a:(w.a7.length:Int)<4
  ·simp[a]
  ·by_cases g:(12:Int)<(w.a7.length:Int)<;>simp[a,g]
 have c:((bif decide (w.aC<(0:Int)) then some (true) else some (decide ((1073741824:Int)<w.aC))):Option Bool)=some (decide (w.aC<0) || decide (1073741824<w.aC)):=by
  by_cases a:w.aC<0<;>simp[a]
 simp only[A0,e1,c];cases f:(decide ((w.a7.length:Int)<4) || (decide (12<(w.a7.length:Int)) || decide (60<(w.heap.length:Int)))) with
 |true=>rfl
 |false =>
  have d:4<=w.a7.length:=by
   simp only[Bool.or_eq_false_iff,decide_eq_false_iff_not] at f;omega
  simp only[N0];cases (decide (w.aC<0) || decide (1073741824<w.aC)) with
  |true=>rfl
  |false =>
   simp only[N0,Bl N w b.1 w.a7 0 [] rfl (It _) (fun s=>rfl),C5 N w e b w.a7 0 rfl,uS,CQ N w d9 b.1 d w.heap 0,A0];cases jn w w.a7 0 with
   |ret r=>rfl
   |next u =>
    cases lz N w w.a7 0 with
    |none=>rfl
    |some o =>
     cases o with
     |ret r=>rfl
     |next u =>
      simp only[A0];cases lv w w.heap<;>rfl
end Go.Proofs.YtibjcppjfkamhaaGreatDoor
