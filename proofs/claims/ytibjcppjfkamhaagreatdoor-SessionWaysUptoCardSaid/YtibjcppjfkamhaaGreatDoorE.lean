import Derived.Test.YtibjcppjfkamhaaGreatDoorC
set_option linter.unusedVariables false
set_option linter.defProp false
set_option linter.unusedSimpArgs false
namespace Go.Proofs.YtibjcppjfkamhaaGreatDoor
open Go.RowKit
open _root_.Bool renaming and_eq_true->IT,not_true->MK,not_false->MU,false_eq_true->Mp
open _root_.ByteArray renaming empty->BY
open _root_.Int renaming le_refl->MS,toNat_natCast->Mk
open _root_.List renaming getElem?_eq_getElem->IS,getElem?_eq_some_iff->MI,mem_cons->MJ,replicate->MM,length_append->MN,length_cons->MO,map->MQ,mem_of_getElem?->MT,all_eq_true->MV,map_cons->MW,mem_map->MX,mem_append->MY,append_assoc->MZ,length_map->Mb,getElem?_set->Mc,getElem?_append_right->Mf,sum_cons->Mg,length_set->Mh,getElem?_eq_none->Mi,mem_singleton->Ml,eq_nil_of_length_eq_zero->Mo,length_nil->Mt,getElem?_append_left->Mu,mem_cons_of_mem->Mv,getElem?_take->My,length_singleton->Mz,mem_iff_getElem?->N0,getElem?_cons_zero->N2
open _root_.Nat renaming ble->IN,le_refl->It
open _root_.Option renaming bind_some->A0,map_eq_some_iff->MP,map_some->Mj
open _root_.Or renaming inl->ML
def qG (a b:V):cT (eV a) (eV b)=decide (a=b):=Lp a b
def iq (a b:St):cT (bT a) (bT b)=decide (a=b):=yo a b
def ph (a b:Ln):cT (V7 a) (V7 b)=decide (a=b):=Hv a b
def pZ (a b:Ins):cT (bZ a) (bZ b)=decide (a=b):=La a b
def rN {b:Type} {l:List b} {k n:Nat} (h:n+1=(l.drop k).length):∃y,l[k]?=some y/\l.drop k=y::l.drop (k+1)/\n=(l.drop (k+1)).length:=by
 rw[List.length_drop] at h;have a:k<l.length:=d9;refine⟨l[k],IS a,List.drop_eq_getElem_cons a,by rw[List.length_drop];omega⟩
def rS {a:Type} {l:List a} {k:Nat} (h:0=(l.drop k).length):l.drop k=[]:=Mo h.symm
theorem BZ (N:Nat) (b:List Ins):∀(l:List Ins) (k:Nat),l.length=(b.drop k).length->mg N b l k=some (if l=b.drop k then .next () else .ret false)
 |[],k,h=>by rw[rS h];rfl
 |x::l,k,h=>by
  obtain⟨y,a,hd,hl⟩:=rN h;rw[hd,mg];simp only[A0,Option.bind_none,N3,N4,Bool.cond_decide,qG,iq,ph,pZ,MK,MU,D5,a,BZ N b l (k+1) hl];by_cases e:x=y<;>simp[e]
def HW (N:Nat) (a b:List Ins):rE N a b=some (decide (a=b)):=by
 unfold rE;by_cases h:a.length=b.length
 ·rw[BZ N b a 0 (by simpa using h)];by_cases e:a=b<;>simp[h,e]
 ·have:a≠b:=fun e=>h (by rw[e]);have c:¬((a.length:Int)=b.length):=d9;simp[this,c]
theorem BB (N:Nat) (b:Wd) (i:Nat) (o:Ob) (a:b.heap[i]?=some o):∀(l:List V) (k:Nat),l.length=(o.aG.drop k).length->mf N b i l k=some (if l=o.aG.drop k then .next () else .ret false)
 |[],k,h=>by rw[rS h];rfl
 |x::l,k,h=>by
  obtain⟨y,c,hd,hl⟩:=rN h;rw[hd,mf];simp only[A0,Option.bind_none,N3,N4,Bool.cond_decide,qG,iq,ph,pZ,MK,MU,D5,c,a,BB N b i o a l (k+1) hl];by_cases e:x=y<;>simp[e]
theorem B9 (N:Nat) (b:Wd):∀(l:List Ob) (k:Nat),l.length=(b.heap.drop k).length->mb N b l k=some (if l=b.heap.drop k then .next () else .ret false)
 |[],k,h=>by rw[rS h];rfl
 |x::l,k,h=>by
  obtain⟨y,i,hd,hl⟩:=rN h;rw[hd,mb];simp only[A0,Option.bind_none,N3,N4,Bool.cond_decide,qG,iq,ph,pZ,MK,MU,D5,i,B9 N b l (k+1) hl];obtain⟨m,a⟩:=x;obtain⟨j,c⟩:=y;by_cases e1:m=j
  ·by_cases f:a.length=c.length
   ·have:=BB N b k ⟨j,c⟩ i a 0 (by simpa using f);simp only[List.drop_zero] at this;by_cases d:a=c
    ·subst d;simp[e1,this]
    ·simp[e1,f,d,this]
   ·have d:a≠c:=fun e=>f (by rw[e]);have g:¬((a.length:Int)=c.length):=d9;simp[e1,g,d]
  ·simp[e1]
theorem BH (N:Nat) (c:Cl):∀(l:List Me) (k:Nat),l.length=(c.aC.drop k).length->ma N c l k=some (if l=c.aC.drop k then .next () else .ret false)
 |[],k,h=>by rw[rS h];rfl
 |x::l,k,h=>by
  obtain⟨y,f,hd,hl⟩:=rN h;rw[hd,ma];simp only[A0,Option.bind_none,N3,N4,Bool.cond_decide,qG,iq,ph,pZ,MK,MU,D5,f,BH N c l (k+1) hl,HW];obtain⟨g,i,j,m,n⟩:=x;obtain⟨o,p,q,r,s⟩:=y;by_cases e1:g=o
  ·by_cases a:i=p
   ·by_cases b:j=q
    ·by_cases d:m=r
     ·by_cases e:n=s<;>simp[e1,a,b,d,e]
     ·simp[e1,a,b,d]
    ·simp[e1,a,b]
   ·simp[e1,a]
  ·simp[e1]
theorem BE (N:Nat) (b:Wd):∀(l:List Cl) (k:Nat),l.length=(b.a7.drop k).length->mc N b l k=some (if l=b.a7.drop k then .next () else .ret false)
 |[],k,h=>by rw[rS h];rfl
 |x::l,k,h=>by
  obtain⟨y,p,hd,hl⟩:=rN h;rw[hd,mc];simp only[A0,Option.bind_none,N3,N4,Bool.cond_decide,qG,iq,ph,pZ,MK,MU,D5,p,BE N b l (k+1) hl];obtain⟨q,r,s,c⟩:=x;obtain⟨m,n,o,d⟩:=y;by_cases e1:q=m
  ·by_cases a:r=n
   ·by_cases f:s=o
    ·by_cases i:c.length=d.length
     ·have:=BH N ⟨m,n,o,d⟩ c 0 (by simpa using i);simp only[List.drop_zero] at this;by_cases g:c=d
      ·subst g;simp[e1,a,f,this]
      ·simp[e1,a,f,i,g,this]
     ·have g:c≠d:=fun e=>i (by rw[e]);have j:¬((c.length:Int)=d.length):=d9;simp[e1,a,f,j,g]
    ·simp[e1,a,f]
   ·simp[e1,a]
  ·simp[e1]
def BK (N:Nat) (a b:Wd):rD N a b=some (decide (a=b)):=by
 unfold rD;obtain⟨g,h,q⟩:=a;obtain⟨c,d,m⟩:=b;by_cases f:q=m
 ·by_cases j:g.length=c.length
  ·by_cases k:h.length=d.length
   ·have l:=BE N ⟨c,d,m⟩ g 0 (by simpa using j);have p:=B9 N ⟨c,d,m⟩ h 0 (by simpa using k);simp only[List.drop_zero] at l p;by_cases e1:g=c
    ·subst e1;by_cases i:h=d
     ·subst i;simp[f,l,p]
     ·simp[i,f,k,l,p]
    ·simp[e1,f,j,k,l]
   ·have i:h≠d:=fun e=>k (by rw[e]);have o:¬((h.length:Int)=d.length):=d9;simp[i,f,j,o]
  ·have e1:g≠c:=fun e=>j (by rw[e]);have n:¬((g.length:Int)=c.length):=d9;simp[e1,f,n]
 ·simp[f]
def F9 {a b:Nat} (h:a<=b):IN a b=true:=by rw[Nat.ble_eq];exact h
def xp {a:Type} {l:List a} {i:Int} (h:¬(i<l.length)):l[i.toNat]?=none:=Mi d9
def fC {a:Type} {l:List a} {i:Int} (h:0<=i):j4 l i=l[i.toNat]?:=by
 unfold j4;rw[ND h];rfl
def dc {a:Type} {l:List a} {i:Int} (h:0<=i) (b:i<l.length):∃x,l[i.toNat]?=some x/\j4 l i=some x:=by
 have hl:i.toNat<l.length:=d9;exact⟨l[i.toNat],IS hl,by rw[fC h,IS hl]⟩
def ca (v:V) (n:Int):Int :=
 if v.k=0\/v.k=1\/v.k=2 then(if v.n=0 then 0 else 2)
 else if v.k=3 then(if v.n < -1073741824\/1073741824<v.n then 3 else 0)
 else if v.k=4 then(if v.n<0\/n<=v.n then 6 else 0) else 1
def Ae (N:Nat) (v:V) (n:Int):p7 N v n=some (ca v n):=by
 unfold p7 ca;by_cases b:v.k=0
 ·by_cases h:v.n=0<;>simp[b,h]
 by_cases c:v.k=1
 ·by_cases h:v.n=0<;>simp[c,h]
 by_cases d:v.k=2
 ·by_cases h:v.n=0<;>simp[d,h]
 by_cases e:v.k=3
 ·by_cases h:v.n < -1073741824<;>by_cases a:1073741824<v.n<;>simp[e,h,a]
 by_cases f:v.k=4
 ·by_cases h:v.n<0<;>by_cases a:n<=v.n<;>simp[f,h,a]
 simp[b,c,d,e,f]
def wP (N:Nat) (v:V) (n:Int):wA N v n=some (ca v n):=by
 unfold wA ca;by_cases b:v.k=0
 ·by_cases h:v.n=0<;>simp[b,h]
 by_cases c:v.k=1
 ·by_cases h:v.n=0<;>simp[c,h]
 by_cases d:v.k=2
 ·by_cases h:v.n=0<;>simp[d,h]
 by_cases e:v.k=3
 ·by_cases h:v.n < -1073741824<;>by_cases a:1073741824<v.n<;>simp[e,h,a]
 by_cases f:v.k=4
 ·by_cases h:v.n<0<;>by_cases a:n<=v.n<;>simp[f,h,a]
 by_cases g:v.k<0
 ·simp[b,c,d,e,f,g]
 ·have i:4<v.k:=d9;simp[b,c,d,e,f,g,i]
def H5 (h:List Ob) (v:V):Int :=
 if v.k=0 then 1 else if v.k=1\/v.k=2 then 2 else if v.k=3 then 3
 else if v.k=4/\0<=v.n then(match h[v.n.toNat]? with|some o=>o.cls|none=>0) else 0
def rG (N:Nat) (h:List Ob) (v:V):kL N h v=some (H5 h v):=by
 unfold kL H5;by_cases d:v.k=0
 ·simp[d]
 by_cases e:v.k=1
 ·simp[e]
 by_cases f:v.k=2
 ·simp[f]
 by_cases g:v.k=3
 ·simp[g]
 by_cases a:v.k=4
 ·by_cases b:0<=v.n
  ·by_cases c:v.n<h.length
   ·obtain⟨x,i,j⟩:=dc b c;simp[a,b,c,j];exact(congrArg Ob.cls (MI.1 i).2).symm
   ·simp[a,b,c]
  ·simp[a,b]
 ·simp[d,e,f,g,a]
def lZ (h:List Ob) (v:V) (n:Int):V :=
 if v.k=4/\0<=v.n/\0<=n then(match h[v.n.toNat]? with|some o=>o.aG.getD n.toNat ⟨0,0⟩|none=>⟨0,0⟩) else⟨0,0⟩
def B3 (N:Nat) (h:List Ob) (v:V) (n:Int):pN N h v n=some (lZ h v n):=by
 unfold pN lZ;by_cases e:v.k=4
 ·by_cases f:0<=v.n
  ·have a:¬v.n<0:=d9;by_cases o:v.n<h.length
   ·have b:¬((h.length:Int)<=v.n):=d9;obtain⟨x,l,m⟩:=dc f o;by_cases g:0<=n
    ·have c:¬n<0:=d9;by_cases p:n<x.aG.length
     ·have d:¬((x.aG.length:Int)<=n):=d9;obtain⟨y,i,j⟩:=dc g p;simp[e,f,a,b,g,c,l,m,d,i,j,List.getD_eq_getElem?_getD]
     ·have d:((x.aG.length:Int)<=n):=d9;simp[e,f,a,b,g,c,l,m,d,List.getD_eq_getElem?_getD]
    ·have c:n<0:=d9;simp[e,f,a,b,g,c]
   ·have b:((h.length:Int)<=v.n):=d9;simp[e,f,a,b]
  ·have a:v.n<0:=d9;simp[e,f,a]
 ·simp[e]
def wU (N:Nat) (b:Bool):pG N b=some (if b=true then⟨2,0⟩ else⟨1,0⟩):=by cases b<;>rfl
def uB (N:Nat) {l:List V} (h:l.length<=1048576):mr N l=some l:=by
 unfold mr;rw[F9 d9];rfl
theorem zb (N:Nat):∀(l:List Ob) (k:Nat) (a:List Ob),(∀o∈l,o.aG.length<=1048576)->a.length+l.length<=1048576->lO N l k a=some (a++l)
 |[],k,a,_,_=>by simp[lO]
 |x::l,k,a,h,hl=>by
  rw[lO,uB N (h x l9)];simp only[A0];rw[F9 (by simp at hl⊢;omega)];simp only[N3];rw[zb N l (k+1) _ (fun o b=>h o (by simp[b])) (by simp at hl⊢;omega)];simp
def ra (N:Nat) {l:List Ob} (h:∀o∈l,o.aG.length<=1048576) (hl:l.length<=1048576):ky N l=some l:=by
 unfold ky;rw[zb N l 0 [] h (by simpa using hl)];rfl
def HH (N:Nat) {l:List Ob} (c s:Int) (h:∀o∈l,o.aG.length<=1048576) (hl:l.length<=1048575) (e:0<=s) (f:s<=1000) :
  ja N l c s=some (if 60<=l.length then([],⟨0,0⟩,15) else(l++[⟨c,MM s.toNat ⟨0,0⟩⟩],⟨4,(l.length:Int)⟩,0)):=by
 unfold ja;have d:max s 0=s:=d9;by_cases b:60<=l.length
 ·have a:(60:Int)<=l.length:=d9;simp[b,a]
 ·have a:¬(60:Int)<=l.length:=d9;rw[ra N h d9,d];have e1:(decide (0<=s) && decide (s<=140737488355328) && decide (s*16<=140737488355328))=true:=by
   simp only[IT,NF];omega
  rw[e1];simp only[A0,N3];rw[F9 L9];simp[b,a]
def qU (n:Int):V:=⟨3,n.tmod 1073741825⟩
def eg (p:Int) (a b:V):V×Int :=
 if a.k≠3\/b.k≠3 then(⟨0,0⟩,12)
 else if p=1 then(qU (a.n+b.n),0) else if p=2 then(qU (a.n-b.n),0) else if p=3 then(qU (a.n*b.n),0)
 else if p=4 then(if a.n<b.n then⟨2,0⟩ else⟨1,0⟩,0) else if p=5 then(if a.n=b.n then⟨2,0⟩ else⟨1,0⟩,0) else(⟨0,0⟩,1)
def Kl (n:Int):I4 (n.tmod 1073741825):=by
 have a:=Int.tmod_lt_of_pos n (show(0:Int)<1073741825 by omega);have b:-1073741825<n.tmod 1073741825:=by
  rcases Int.le_total 0 n with h|h
  ·have:=Int.tmod_nonneg (1073741825:Int) h;omega
  ·have:=Int.tmod_lt_of_pos (-n) (show(0:Int)<1073741825 by omega);rw[Int.neg_tmod] at this;omega
 exact⟨d9,d9⟩
def FY (N:Nat) (n:Int):nL N n=some (qU n):=by
 first
  |rfl
  |(unfold nL qU
    have:=Kl n;simp[this])
def gL (n:Int):Prop:=-1073741824<=n/\n<=1073741824
def KU {a b:Int} (c:gL a) (d:gL b):-1152921504606846976<=a*b/\a*b<=1152921504606846976:=by
 have h:(a*b).natAbs<=1073741824*1073741824:=by
  rw[Int.natAbs_mul];exact Nat.mul_le_mul (by have:=c.1;have:=c.2;omega) (by have:=d.1;have:=d.2;omega)
 omega
def Gm (N:Nat) (p:Int) (a b:V) (c:a.k=3->gL a.n) (d:b.k=3->gL b.n):sE N p a b=some (eg p a b):=by
 unfold sE eg;by_cases e:a.k=3
 ·by_cases f:b.k=3
  ·have c:=c e;have d:=d f;have o:=KU c d;have l:wr (a.n+b.n)=a.n+b.n:=u7 (by unfold I4;unfold gL at c d;omega);have m:wr (a.n-b.n)=a.n-b.n:=u7 (by unfold I4;unfold gL at c d;omega);have w3:wr (a.n*b.n)=a.n*b.n:=u7 ino;simp only[e,f,l,m,w3,FY,wU,A0,Option.bind_none,N3,N4,Bool.cond_decide,qG,iq,ph,pZ,MK,MU,D5,NA,NF,ne_eq,not_true_eq_false,or_self,if_false];by_cases e1:p=1
   ·simp[e1]
   by_cases g:p=2
   ·simp[g]
   by_cases h:p=3
   ·simp[h]
   by_cases i:p=4
   ·simp[i]
   by_cases j:p=5
   ·simp[j]
   simp[e1,g,h,i,j]
  ·simp[e,f]
 ·simp[e]
theorem d77 : ∀a:List UInt8,Op.bytesLess a a=false
 |[]=>rfl
 |a::x=>by simp[Op.bytesLess,d77 x]
theorem Cu : ∀a b c:List UInt8,Op.bytesLess a b=true->Op.bytesLess b c=true->Op.bytesLess a c=true
 |_,[],_,h,_=>by simp[Op.bytesLess] at h
 |_,_::_,[],_,h=>by simp[Op.bytesLess] at h
 |[],_::_,_::_,_,_=>rfl
 |a::x,b::y,c::z,h,d=>by
  simp only[Op.bytesLess,Bool.or_eq_true,IT,NF,beq_iff_eq] at h d⊢;rcases h with h|⟨rfl,h⟩
  ·rcases d with d|⟨rfl,_⟩
   ·exact ML (UInt8.lt_trans h d)
   ·exact ML h
  ·rcases d with d|⟨rfl,d⟩
   ·exact ML d
   ·exact Or.inr ⟨rfl,Cu x y z h d⟩
theorem d84 : ∀a b:List UInt8,Op.bytesLess a b=false->Op.bytesLess b a=false->a=b
 |[],[],_,_=>rfl
 |[],_::_,h,_=>by simp[Op.bytesLess] at h
 |_::_,[],_,h=>by simp[Op.bytesLess] at h
 |a::x,b::y,h,h'=>by
  simp only[Op.bytesLess,Bool.or_eq_false_iff,decide_eq_false_iff_not,Bool.and_eq_false_iff,beq_eq_false_iff_ne,ne_eq] at h h';have e:a=b:=by
   rcases h with⟨c,_⟩
   rcases h' with⟨d,_⟩
   exact UInt8.le_antisymm (UInt8.not_lt.1 d) (UInt8.not_lt.1 c)
  subst e;have c:Op.bytesLess x y=false:=h.2.resolve_left (fun h=>h rfl);have d:Op.bytesLess y x=false:=h'.2.resolve_left (fun h=>h rfl);rw[d84 x y c d]
def CC (b:ByteArray):b.toList=b.data.toList:=by
 have:∀(n i:Nat) (r:List UInt8),n=b.size-i->ByteArray.toList.loop b i r=r.reverse++b.data.toList.drop i:=by
  intro n
  induction n with
  |zero =>
   intro i r h;unfold ByteArray.toList.loop;rw[N5 d9];have:b.data.toList.length<=i:=by simpa using(show b.size<=i by omega)
   rw[List.drop_eq_nil_of_le this];simp
  |succ n ih =>
   intro i r h;have hi:i<b.size:=d9;have a:i<b.data.toList.length:=by simpa using hi
   unfold ByteArray.toList.loop;rw[N6 hi,ih (i+1) _ d9,List.drop_eq_getElem_cons a];have e:b.get! i=b.data.toList[i]:=by
    show b.data[i]! = _;rw[getElem!_pos b.data i hi,Array.getElem_toList]
   simp[e]
 have:=this b.size 0 [] d9;simpa[ByteArray.toList] using this
def toList_inj {a b:ByteArray} (h:a.toList=b.toList):a=b:=by
 rw[CC,CC] at h;cases a;cases b;congr;exact Array.toList_inj.1 h
def jk (a:ByteArray):Y5 a a=false:=d77 _
def lt_trans {a b c:ByteArray} (h:Y5 a b=true) (d:Y5 b c=true):Y5 a c=true:=Cu _ _ _ h d
def E0 {a b:ByteArray} (h:Y5 a b=false) (c:Y5 b a=false):a=b:=toList_inj (d84 _ _ h c)
def LY {a b:ByteArray} (h:Y5 a b=true):a≠b:=fun e=>by rw[e,jk] at h;cases h
def DO {a b:ByteArray} (h:Y5 a b=true):Y5 b a=false:=by
 cases e:Y5 b a with
 |false=>rfl
 |true=>have:=lt_trans h e;rw[jk] at this;cases this
def dK (ms:List Me):Prop:=ms.Pairwise fun a b=>Y5 a.name b.name=true
def bJ (s:ByteArray):List Me->Option Nat
 |[]=>none
 |m::r=>if m.name=s then some 0 else(bJ s r).map (·+1)
theorem jb {s:ByteArray}:∀{ms:List Me} {i:Nat},bJ s ms=some i->∃m,ms[i]?=some m/\m.name=s
 |m::r,i,h=>by
  unfold bJ at h;by_cases e:m.name=s
  ·rw[N6 e] at h;cases h;exact⟨m,rfl,e⟩
  ·rw[N5 e] at h;cases a:bJ s r with
   |none=>rw[a] at h;cases h
   |some j=>rw[a] at h;cases h;obtain⟨d,b,c⟩:=jb a;exact⟨d,b,c⟩
theorem CZ {s:ByteArray}:∀{ms:List Me},bJ s ms=none->∀m∈ms,m.name≠s
 |[],_=>fun m c=>by cases c
 |m::r,h=>by
  unfold bJ at h;by_cases e:m.name=s
  ·rw[N6 e] at h;cases h
  ·rw[N5 e] at h;cases b:bJ s r with
   |some j=>rw[b] at h;cases h
   |none =>
    intro x a;rcases MJ.1 a with rfl|a
    ·exact e
    ·exact CZ b x a
def lr {ms:List Me} (h:dK ms) {i j:Nat} {a b:Me} (hi:ms[i]?=some a) (f:ms[j]?=some b) (d:i<j):Y5 a.name b.name=true:=by
 obtain⟨c,rfl⟩:=MI.1 hi;obtain⟨e,rfl⟩:=MI.1 f;exact List.pairwise_iff_getElem.1 h i j c e d
def DQ {ms:List Me} (h:dK ms) {i:Nat} {m:Me} (b:ms[i]?=some m):bJ m.name ms=some i:=by
 cases e:bJ m.name ms with
 |none=>exact absurd rfl (CZ e m (MT b))
 |some j =>
  obtain⟨f,c,d⟩:=jb e;rcases Nat.lt_trichotomy i j with a|a|a
  ·have:=lr h b c a;rw[d,jk] at this;cases this
  ·rw[a]
  ·have:=lr h c b a;rw[d,jk] at this;cases this
def KC {ms:List Me} (h:∀i m p,0<i->ms[i]?=some m->ms[i-1]?=some p->Y5 p.name m.name=true):dK ms:=by
 have key:∀(d i:Nat) (a b:Me),ms[i]?=some a->ms[i+d+1]?=some b->Y5 a.name b.name=true:=by
  intro d
  induction d with
  |zero=>intro i a b e c;exact h (i+1) b a d9 c (by simpa using e)
  |succ d ih =>
   intro i a b e c;have l:=(MI.1 c).1;obtain⟨x,f⟩:∃x,ms[i+d+1]?=some x:=⟨_,IS d9⟩;exact lt_trans (ih i a x e f) (h (i+(d+1)+1) b x d9 c (by rw[show i+(d+1)+1-1=i+d+1 by omega];exact f))
 refine List.pairwise_iff_getElem.2 fun i j hi k g=>?_;refine key (j-i-1) i _ _ (IS hi) ?_;rw[show i+(j-i-1)+1=j by omega];exact IS k
def Al (N:Nat) (m:Me) (s:ByteArray):jY N m s=some (if Y5 m.name s=true then -1 else if m.name=s then 0 else 1):=by
 unfold jY u9 cmp_isNaN_string;cases h:Y5 m.name s
 ·by_cases e:m.name=s<;>simp[e]
 ·simp
theorem xB (N:Nat) (ms:List Me) (s:ByteArray) (hl:ms.length<=1048576) (l:dK ms):∀(n:Nat) (a b:Nat),a<=b->b<=ms.length->b-a<n ->
  (∀i m,i<a->ms[i]?=some m->Y5 m.name s=true)->(∀i m,b<=i->ms[i]?=some m->Y5 m.name s=false) ->
  ∃v:Nat,w9 N ms s (fun o p=>jY N o p) n (a:Int) (b:Int)=some (v:Int)/\v<=ms.length /\
   (∀i m,i<v->ms[i]?=some m->Y5 m.name s=true)/\(∀i m,v<=i->ms[i]?=some m->Y5 m.name s=false)
 |0,a,b,_,_,h,_,_=>d9
 |n+1,a,b,t,r,D,q,f=>by
  rw[w9];by_cases u:a<b
  ·have c:(a:Int)<(b:Int):=d9;have A:wr ((a:Int)+(b:Int))=((a+b:Nat):Int):=by rw[u7 ino];omega
   have B:((a+b:Nat):Int) / 2=(((a+b) / 2:Nat):Int):=d9;have w3:decide (I4 ((((a+b) / 2:Nat):Int)))=true:=ND ino;have C:wr ((((a+b) / 2:Nat):Int)+1)=(((a+b) / 2+1:Nat):Int):=by rw[u7 ino];omega
   have g:(a+b) / 2<ms.length:=d9;obtain⟨x,j⟩:∃x,ms[(a+b) / 2]?=some x:=⟨_,IS g⟩;have w5:(0:Int)<=((a+b:Nat):Int):=d9;have w:=Al N x s;simp only[A,B,w3,C,w5,c,D5,j,w,NA,N3,A0];cases k:Y5 x.name s with
   |true =>
    simp only[if_true,show((-1:Int)<0)=True by simp,NA,N3,A0];refine xB N ms s hl l n _ b d9 r d9 (fun i m hi d=>?_) f;rcases Nat.lt_or_ge i ((a+b) / 2) with h|h
    ·exact lt_trans (lr l d j h) k
    ·have e:i=(a+b) / 2:=d9;subst e;rw[j] at d;cases d;exact k
   |false =>
    have hd:∀i m,(a+b) / 2<=i->ms[i]?=some m->Y5 m.name s=false:=by
     intro i m hi d;rcases Nat.lt_or_ge ((a+b) / 2) i with h|h
     ·cases y:Y5 m.name s with
      |false=>rfl
      |true=>have:=lt_trans (lr l j d h) y;rw[k] at this;cases this
     ·have e:i=(a+b) / 2:=d9;subst e;rw[j] at d;cases d;exact k
    have z:decide ((if false=true then(-1:Int) else if x.name=s then 0 else 1)<0)=false:=by
     by_cases e:x.name=s<;>simp[e]
    rw[z];simp only[N4,A0];exact xB N ms s hl l n a _ d9 d9 d9 q hd
  ·have c:¬(a:Int)<(b:Int):=d9;simp only[c,NB,N4];have e:a=b:=d9;subst e;exact⟨a,rfl,r,q,f⟩
def AW (N:Nat) (ms:List Me) (s:ByteArray) (y:1048577<=N) (hl:ms.length<=1048576) (l:dK ms) :
  ∃v:Nat,y7 N ms s (fun f g=>jY N f g)=some ((v:Int),(bJ s ms).isSome)/\(∀i:Nat,bJ s ms=some i->(v:Int)=i)/\v<=ms.length /\
   (∀i m,i<v->ms[i]?=some m->Y5 m.name s=true)/\(∀i m,v<=i->ms[i]?=some m->Y5 m.name s=false):=by
 obtain⟨v,w,o,k,n⟩:=xB N ms s hl l N 0 ms.length d9 d9 d9 (fun i m h=>absurd h d9) (fun i m h u=>by
  have:=(MI.1 u).1;omega)
 refine⟨v,?_,?_,o,k,n⟩
 ·unfold y7;have q:w9 N ms s (fun f g=>jY N f g) N (0:Int) (ms.length:Int)=some (v:Int):=w;rw[q];simp only[A0];by_cases p:v<ms.length
  ·have c:(v:Int)<(ms.length:Int):=d9;obtain⟨x,d⟩:∃x,ms[v]?=some x:=⟨_,IS p⟩;have r:=n v x (It _) d;simp only[c,NA,N3,D5,d,A0,Al,r];by_cases e:x.name=s
   ·have:=DQ l d;rw[e] at this;simp[e,this]
   ·cases hi:bJ s ms with
    |none=>simp[e]
    |some i =>
     obtain⟨j,a,b⟩:=jb hi;rcases Nat.lt_trichotomy i v with h|h|h
     ·have:=k i j h a;rw[b,jk] at this;cases this
     ·subst h;rw[d] at a;cases a;exact absurd b e
     ·have:=lr l d a h;rw[b] at this;rw[r] at this;cases this
  ·have c:¬(v:Int)<(ms.length:Int):=d9;simp only[c,NB,N4,A0];cases hi:bJ s ms with
   |none=>rfl
   |some i =>
    obtain⟨j,a,b⟩:=jb hi;have:=(MI.1 a).1;have:=k i j d9 a;rw[b,jk] at this;cases this
 ·intro i hi;obtain⟨j,a,b⟩:=jb hi;have t:=(MI.1 a).1;rcases Nat.lt_trichotomy i v with h|h|h
  ·have:=k i j h a;rw[b,jk] at this;cases this
  ·rw[h]
  ·obtain⟨x,d⟩:∃x,ms[v]?=some x:=⟨ms[v]' d9,IS d9⟩;have:=lr l d a h;rw[b] at this;rw[n v x (It _) d] at this;cases this
def fo (N:Nat) (ms:List Me) (s:ByteArray) (e:1048577<=N) (hl:ms.length<=1048576) (f:dK ms) :
  ∃v:Int,y7 N ms s (fun a b=>jY N a b)=some (v,(bJ s ms).isSome)/\∀i:Nat,bJ s ms=some i->v=i:=by
 obtain⟨v,c,d,_⟩:=AW N ms s e hl f;exact⟨_,c,d⟩
def X3 (w:Wd) (s:ByteArray):Nat->Int->Option (Int×Int)
 |0,_=>none
 |n+1,c=>if 0<=c then(match w.a7[c.toNat]? with
  |some x=>(match bJ s x.aC with|some i=>some (c,(i:Int))|none=>X3 w s n x.aR)
  |none=>none) else none
def l7 (w:Wd) (s:ByteArray) (c:Int):Int×Int:=(X3 w s (w.a7.length+1) c).getD (-1,-1)
def dT (w:Wd):Prop:=∀x∈w.a7,dK x.aC
def D7 (w:Wd):Prop:=w.a7.length<=1048576/\w.heap.length<=1048576/\(∀x∈w.a7,x.aC.length<=1048576/\∀m∈x.aC,m.code.length<=1048576)/\∀o∈w.heap,o.aG.length<=1048576
def EL {a:Type} (o:Option (Int×Int)) (s:a):H9 (Int×Int) a:=match o with|some p=>.ret p|none=>.next s
theorem AF (N:Nat) (w:Wd) (s:ByteArray) (m:1048577<=N) (o:dT w) (j:D7 w):∀(n:Nat) (k:Nat) (c:Int),k<=w.a7.length+1->w.a7.length+1-k<n ->
  nC N w s n c (k:Int)=some (EL (X3 w s (w.a7.length+1-k) c) ())
 |0,k,c,_,h=>d9
 |n+1,k,c,t,u=>by
  rw[nC];by_cases a:0<=c
  ·by_cases d:c<w.a7.length
   ·obtain⟨x,p,f⟩:=dc a d;by_cases r:k<=w.a7.length
    ·have b:(k:Int)<=(w.a7.length:Int):=d9;have g:=MT p;obtain⟨v,q,l⟩:=fo N x.aC s m (j.2.2.1 x g).1 (o x g);have e:w.a7.length+1-k=(w.a7.length+1-(k+1))+1:=d9;have wk:wr ((k:Int)+1)=((k+1:Nat):Int):=by rw[u7 (by have:=j.1;unfold I4;omega)];omega
     rw[e,X3];simp only[a,d,b,NA,N3,A0,f,q,p,if_true,wk];cases hi:bJ s x.aC with
     |some i=>have:=l i hi;subst this;rfl
     |none =>
      simp only[Option.isSome_none,N4];exact AF N w s m o j n (k+1) x.aR d9 d9
    ·have b:¬(k:Int)<=(w.a7.length:Int):=d9;have e:w.a7.length+1-k=0:=d9;simp only[a,d,b,NA,NB,N3,N4,A0,e];rfl
   ·have:X3 w s (w.a7.length+1-k) c=none:=by
     cases w.a7.length+1-k with
     |zero=>rfl
     |succ n=>rw[X3,N6 a,xp d]
    simp only[a,d,NA,NB,N3,N4,A0,this];rfl
  ·have:X3 w s (w.a7.length+1-k) c=none:=by
    cases w.a7.length+1-k with
    |zero=>rfl
    |succ n=>rw[X3,N5 a]
   simp only[a,NB,N4,A0,this];rfl
def lM (N:Nat) (w:Wd) (c:Int) (s:ByteArray) (e:1048578<=N) (d:dT w) (a:D7 w):fU N w c s=some (l7 w s c):=by
 unfold fU l7;have h:=AF N w s d9 d a N 0 c d9 (by have:=a.1;omega);have b:nC N w s N c (0:Int)=some (EL (X3 w s (w.a7.length+1) c) ()):=h;rw[b];cases X3 w s (w.a7.length+1) c<;>rfl
def bf (w:Wd):Nat->Int->List Int
 |0,_=>[]
 |n+1,c=>if 0<=c then(match w.a7[c.toNat]? with|some x=>c::bf w n x.aR|none=>[]) else[]
theorem vN (w:Wd):∀(n:Nat) (c:Int),(bf w n c).length<=n
 |0,_=>It _
 |n+1,c=>by
  rw[bf];split
  ·split
   ·have:=vN w n;simp only[MO];exact Nat.succ_le_succ (this _)
   ·simp
  ·simp
theorem yM (w:Wd):∀(n:Nat) (c:Int),∀k∈bf w n c,0<=k/\k<w.a7.length
 |0,_,k,h=>by cases h
 |n+1,c,k,h=>by
  rw[bf] at h;split at h
  ·split at h
   ·rename_i a _ x b;rcases MJ.1 h with rfl|h
    ·exact⟨a,by have:=(MI.1 b).1;omega⟩
    ·exact yM w n _ k h
   ·cases h
  ·cases h
theorem zQ (N:Nat) (w:Wd) (j:w.a7.length<=1048576):∀(n:Nat) (c:Int) (a:List Int),a.length<=w.a7.length+1->w.a7.length+1-a.length<n ->
  uZ N w n c a=some (a++bf w (w.a7.length+1-a.length) c)
 |0,c,a,_,h=>d9
 |n+1,c,a,m,o=>by
  rw[uZ];by_cases b:0<=c
  ·by_cases f:c<w.a7.length
   ·obtain⟨x,k,g⟩:=dc b f;by_cases l:a.length<=w.a7.length
    ·have d:(a.length:Int)<=(w.a7.length:Int):=d9;have e:w.a7.length+1-a.length=(w.a7.length+1-(a++[c]).length)+1:=L9;have i:IN ((a.length+[c].length)*8) 140737488355328=true:=F9 L9;rw[e,bf];simp only[b,f,d,NA,N3,A0,g,k,if_true,i];rw[zQ N w j n x.aR (a++[c]) L9 L9];simp
    ·have d:¬(a.length:Int)<=(w.a7.length:Int):=d9;have e:w.a7.length+1-a.length=0:=d9;simp[b,f,d,e,bf]
   ·have:bf w (w.a7.length+1-a.length) c=[]:=by
     cases w.a7.length+1-a.length with
     |zero=>rfl
     |succ n=>rw[bf,N6 b,xp f]
    simp[b,f,this]
  ·have:bf w (w.a7.length+1-a.length) c=[]:=by
    cases w.a7.length+1-a.length with
    |zero=>rfl
    |succ n=>rw[bf,N5 b]
   simp[b,this]
def Gj (N:Nat) (w:Wd) (c:Int) (b:1048578<=N) (a:w.a7.length<=1048576):x9 N w c=some (bf w (w.a7.length+1) c):=by
 unfold x9;rw[zQ N w a N c [] l9 L9];rfl
def p8 (w:Wd) (c:Int):Int:=(bf w (w.a7.length+1) c).foldl (fun n k=>match w.a7[k.toNat]? with|some x=>wr (n+x.aG)|none=>n) 0
theorem zy (N:Nat) (w:Wd) (L:List Int) (d:∀k∈L,0<=k/\k<w.a7.length):∀(l:List Int) (k:Nat) (n:Int),l=L.drop k ->
  uT N w L l k n=some (l.foldl (fun n k=>match w.a7[k.toNat]? with|some x=>wr (n+x.aG)|none=>n) n)
 |[],k,n,_=>rfl
 |c::l,k,n,h=>by
  obtain⟨b,g,_⟩:=Z6 h;obtain⟨e,f⟩:=d c (MT b);obtain⟨x,i,a⟩:=dc e f;rw[uT];simp only[D5,b,A0,a,List.foldl_cons,i];exact zy N w L d l (k+1) _ g
def lC (N:Nat) (w:Wd) (c:Int) (a:1048578<=N) (b:w.a7.length<=1048576):ox N w c=some (p8 w c):=by
 unfold ox p8;rw[Gj N w c a b];simp only[A0];rw[zy N w _ (yM w _ c) (bf w (w.a7.length+1) c) 0 0 rfl];rfl
theorem CQ (w:Wd) (s:ByteArray):∀(n:Nat) (c:Int) (p:Int×Int),X3 w s n c=some p->0<=p.1/\0<=p.2/\∃x m,w.a7[p.1.toNat]?=some x/\x.aC[p.2.toNat]?=some m/\m.name=s
 |0,c,p,h=>by cases h
 |n+1,c,p,h=>by
  rw[X3] at h;by_cases a:0<=c
  ·rw[N6 a] at h;cases b:w.a7[c.toNat]? with
   |none=>rw[b] at h;cases h
   |some x =>
    rw[b] at h;simp only at h;cases hi:bJ s x.aC with
    |none=>rw[hi] at h;exact CQ w s n _ p h
    |some i =>
     rw[hi] at h;cases h;obtain⟨m,d,e⟩:=jb hi;exact⟨a,Int.natCast_nonneg _,x,m,b,d,e⟩
  ·rw[N5 a] at h;cases h
def rP {w:Wd} {s:ByteArray} {c:Int} (h:0<=(l7 w s c).2):∃x m,j4 w.a7 (l7 w s c).1=some x/\j4 x.aC (l7 w s c).2=some m/\m.name=s:=by
 unfold l7 at h⊢;cases a:X3 w s (w.a7.length+1) c with
 |none=>rw[a] at h;exact absurd h G7
 |some p =>
  obtain⟨b,d,x,m,g,e,f⟩:=CQ w s _ c p a;exact⟨x,m,by rw[Option.getD_some,fC b,g],by rw[Option.getD_some,fC d,e],f⟩
def vY (p:Int×Int) (x:Ln):Int×Int:=if p.2<x.found\/(x.found=p.2/\0<p.2/\x.cls<p.1) then(x.cls,x.found) else p
def jD (s:St) (l:List Tl):Int×Int:=l.foldl (fun p t=>if t.site=s then t.a7.foldl vY p else p) (-1,0)
def nO (n:Int) (x:Ln):Int:=wr (n+x.found)
def tI (s:St) (l:List Tl):Int:=l.foldl (fun n t=>if t.site=s then t.a7.foldl nO n else n) 0
theorem zV (N:Nat):∀(l:List Ln) (k:Nat) (p:Int×Int),mv N l k p.1 p.2=some (l.foldl vY p)
 |[],k,p=>rfl
 |x::l,k,p=>by
  rw[mv,List.foldl_cons,<-zV N l (k+1)];unfold vY;by_cases b:p.2<x.found
  ·simp[b]
  ·by_cases a:x.found=p.2
   ·by_cases c:0<p.2
    ·by_cases d:x.cls<p.1<;>simp[a,c,d]
    ·simp[a,c]
   ·simp[b,a]
theorem zU (N:Nat) (s:St):∀(l:List Tl) (k:Nat) (p:Int×Int),mw N s l k p.1 p.2=some (l.foldl (fun p t=>if t.site=s then t.a7.foldl vY p else p) p)
 |[],k,p=>rfl
 |t::l,k,p=>by
  rw[mw,List.foldl_cons,<-zU N s l (k+1)];by_cases h:t.site=s
  ·simp[h,iq,zV]
  ·simp[h,iq]
def Gs (N:Nat) (l:List Tl) (s:St):sH N l s=some (jD s l):=by
 unfold sH;rw[zU N s l 0 (-1,0)];rfl
theorem ze (N:Nat):∀(l:List Ln) (k:Nat) (n:Int),nJ N l k n=some (l.foldl nO n)
 |[],k,n=>rfl
 |x::l,k,n=>by rw[nJ,List.foldl_cons,ze N l (k+1)];rfl
theorem za (N:Nat) (s:St):∀(l:List Tl) (k:Nat) (n:Int),nK N s l k n=some (l.foldl (fun n t=>if t.site=s then t.a7.foldl nO n else n) n)
 |[],k,n=>rfl
 |t::l,k,n=>by
  rw[nK,List.foldl_cons,<-za N s l (k+1)];by_cases h:t.site=s
  ·simp[h,iq,ze]
  ·simp[h,iq]
def HE (N:Nat) (l:List Tl) (s:St):sJ N l s=some (tI s l):=by
 unfold sJ;rw[za N s l 0 0];rfl
def sends (i:Ins):Bool:=decide (i.op=14) || decide (i.op=13)
def fR (m:Me):Bool:=decide (m.aU=0) && !m.code.any sends
def GG (N:Nat) (i:Ins):ou N i=some (sends i):=by
 unfold ou sends;by_cases h:i.op=14<;>simp[h]
theorem Dh (N:Nat):∀(l:List Ins) (k:Nat),∃o,G6 N (fun a=>ou N a) l k=some o/\(match o with|.ret r=>0<=r/\l.any sends=true|.next ()=>l.any sends=false)
 |[],k=>⟨_,rfl,rfl⟩
 |x::l,k=>by
  rw[G6,GG];cases h:sends x with
  |true=>exact⟨_,rfl,by simp[h]⟩
  |false =>
   obtain⟨o,c,b⟩:=Dh N l (k+1);refine⟨o,c,?_⟩;cases o with
   |ret r=>simpa[h] using b
   |next u=>simpa[h] using b
def wR (N:Nat) (m:Me):pA N m=some (fR m):=by
 unfold pA fR U7 X6;by_cases h:m.aU=0
 ·obtain⟨o,b,a⟩:=Dh N m.code 0;rw[b];cases o with
  |ret r=>simp[h,a.1,a.2]
  |next u =>
   have a:m.code.any sends=false:=a;simp only[h,NA,N3,A0,a];rfl
 ·simp[h]
def ER (w:Wd) (f:Int×Int) (args:Int):Bool:=match j4 w.a7 f.1 with
 |some x=>(match j4 x.aC f.2 with|some m=>fR m && decide (m.args=args)|none=>false)
 |none=>false
def ED (w:Wd) (t:List Tl) (s:St) (name:ByteArray) (args:Int):Int :=
 if(jD s t).1<0\/tI s t<2\/wr (2*(jD s t).2)<=tI s t then -1
 else if 0<=(l7 w name (jD s t).1).2/\ER w (l7 w name (jD s t).1) args=true then(jD s t).1 else -1
def GV (N:Nat) (w:Wd) (t:List Tl) (s:St) (name:ByteArray) (args:Int) (g:1048578<=N) (j:dT w) (i:D7 w):ri N w t s name args=some (ED w t s name args):=by
 unfold ri ED;rw[Gs,HE];simp only[A0];by_cases b:(jD s t).1<0
 ·simp[b]
 by_cases c:tI s t<2
 ·simp[c]
 by_cases e:wr (2*(jD s t).2)<=tI s t
 ·simp[b,c,e]
 simp only[b,c,e,NB,N4,A0,or_self,if_false];rw[lM N w _ name g j i];simp only[A0];by_cases d:0<=(l7 w name (jD s t).1).2
 ·obtain⟨x,m,k,h,_⟩:=rP d;have a:¬(l7 w name (jD s t).1).2<0:=d9;simp only[d,a,NB,N4,k,h,A0,wR,ER,true_and];cases l:fR m
  ·simp
  ·by_cases f:m.args=args<;>simp[f]
 ·have a:(l7 w name (jD s t).1).2<0:=d9;simp[d,a]
theorem wL (N:Nat) (w:Wd) (t:List Tl) (c:Int) (m:Me) (b:1048578<=N) (e:dT w) (d:D7 w):∀(l:List Ins) (k:Nat) (a:List Int),a.length+l.length<=1048576 ->
  ∃r,mq N w t c m l k a=some r
 |[],k,a,_=>⟨_,rfl⟩
 |x::l,k,a,h=>by
  simp only[MO] at h;rw[mq,GV N w t _ _ _ b e d];simp only[A0];have g:∀n:Int,IN ((a.length+[n].length)*8) 140737488355328=true:=fun n=>F9 L9;by_cases f:x.op=14
  ·simp only[f,NA,N3,A0,g];exact wL N w t c m b e d l (k+1) _ L9
  ·simp only[f,NB,N4,A0,g,N3];exact wL N w t c m b e d l (k+1) _ L9
def G4 (N:Nat) (w:Wd) (t:List Tl) (c k:Int) (j:1048578<=N) (p:dT w) (h:D7 w):∃r,nI N w t c k=some r:=by
 unfold nI;by_cases a:c<0
 ·simp[a]
 by_cases b:(w.a7.length:Int)<=c
 ·simp[a,b]
 by_cases d:k<0
 ·simp[a,b,d]
 obtain⟨x,q,g⟩:=dc (l:=w.a7) (i:=c) d9 d9;by_cases f:(x.aC.length:Int)<=k
 ·simp[a,b,d,f,g]
 obtain⟨m,n,e⟩:=dc (l:=x.aC) (i:=k) d9 d9;simp only[a,b,d,f,g,e,NB,N4,A0];obtain⟨r,o⟩:=wL N w t c m j p h m.code 0 [] (by
  have:=(h.2.2.1 x (MT q)).2 m (MT n);simpa using this)
 rw[o];exact⟨r,rfl⟩
def kR {d:Type} {b:Bool} {x y:Option d} (a:b=true->∃r,x=some r) (c:b=false->∃r,y=some r):∃r,(bif b then x else y)=some r:=by
 cases b
 ·exact c rfl
 ·exact a rfl
def vJ {b e:Type} {x:Option b} {f:b->Option e} (d:∃a,x=some a) (c:∀a,x=some a->∃r,f a=some r):∃r,x.bind f=some r:=by
 obtain⟨a,rfl⟩:=d;exact c a rfl
def er (u:UInt8):Bool:=!decide ((u.toNat:Int)<33) && !decide (126<(u.toNat:Int))
def Y4 (s:ByteArray):Bool:=s.data.toList.all er && (decide (0<s.size) && decide (s.size<=12))
def DN (s:ByteArray) (k:Nat):mD s (k:Int)=s.data.toList[k]?:=by
 unfold mD;rw[ND (Int.natCast_nonneg k)];show s[k]?=_;by_cases h:k<s.size
 ·rw[getElem?_pos s k h,IS (by simpa using h)];rfl
 ·rw[getElem?_neg s k h,Mi (by simpa using h)]
theorem A4 (N:Nat) (s:ByteArray):∀(n k:Nat),n+k=s.size->uY N s n k=some (if(s.data.toList.drop k).all er=true then .next () else .ret false)
 |0,k,h=>by
  rw[List.drop_eq_nil_of_le (by rw[show s.data.toList.length=s.size from rfl];omega)];rfl
 |n+1,k,h=>by
  have d:k<s.data.toList.length:=by rw[show s.data.toList.length=s.size from rfl];omega
  rw[uY,List.drop_eq_getElem_cons d,DN,IS d,A4 N s n (k+1) d9];simp only[A0,List.all_cons];generalize s.data.toList[k]=u;generalize s.data.toList.drop (k+1)=b;by_cases a:(u.toNat:Int)<33
  ·have e:er u=false:=(by simp[er,a]);simp only[a,e,NA,N3,A0,Bool.false_and];rfl
  ·by_cases c:126<(u.toNat:Int)
   ·have e:er u=false:=(by simp only[er,a,c,NA,NB,MK,Bool.and_false]);simp only[a,c,e,NA,NB,N3,N4,A0,Bool.false_and];rfl
   ·have e:er u=true:=(by simp only[er,a,c,NB,MU,Bool.and_true]);simp only[a,c,e,NB,N4,A0,Bool.true_and]
def kJ (N:Nat) (s:ByteArray):s8 N s=some (Y4 s):=by
 unfold s8 Y4;have e:((s.size:Int)-((0:Nat):Int)).toNat=s.size:=d9;rw[e,A4 N s s.size 0 d9,List.drop_zero];cases h:s.data.toList.all er
 ·simp
 ·by_cases c:0<s.size
  ·by_cases d:s.size<=12
   ·have b:(0:Int)<(s.size:Int):=d9;have a:(s.size:Int)<=12:=d9;simp[c,d,a]
   ·have a:¬(s.size:Int)<=12:=d9;have b:(0:Int)<(s.size:Int):=d9;simp[d,a]
  ·have b:¬(0:Int)<(s.size:Int):=d9;simp[c]
def zu (N:Nat) (w:Wd) (c:Int) (m:Me) (i:Ins) (b:1048578<=N) (d:w.a7.length<=1048576):∃r,M7 N w c m i=some r:=by
 unfold M7;simp only[lC N w c b d,kJ]
 repeat (first|exact⟨_,rfl⟩|refine kR (fun _=>?_) (fun _=>?_)|refine vJ ?_ (fun a _=>?_)|split)
def Fu (N:Nat) (w:Wd) (c:Int) (m:Me) (i:Ins) (h:M7 N w c m i=some 0) (e:i.op=14):0<=i.a/\i.a<=4:=by
 unfold M7 at h;simp only[e,kJ,show((14:Int)=1)=False by decide,show((14:Int)=2)=False by decide,show((14:Int)=3)=False by decide,show((14:Int)=4)=False by decide,show((14:Int)=5)=False by decide,show((14:Int)=6)=False by decide,show((14:Int)=7)=False by decide,show((14:Int)=8)=False by decide,show((14:Int)=9)=False by decide,show((14:Int)=10)=False by decide,show((14:Int)=11)=False by decide,show((14:Int)=12)=False by decide,show((14:Int)=13)=False by decide,show((14:Int)=17)=False by decide,NA,NB,N3,N4,A0] at h;by_cases b:i.a<0
 ·simp[b] at h
 ·by_cases d:4<i.a
  ·simp[b,d] at h
  ·omega
def ll (m:Me):Prop:=∀i∈m.code,i.op=14->0<=i.a/\i.a<=4
def U4 (i:Ins) (p:Int):Int×Int×List Int :=
 if i.op=9\/i.op=11\/i.op=12 then(1,-1,[wr (p+1)]) else if i.op=10 then(1,1,[wr (p+1)])
 else if i.op=14 then(wr (i.a+1),-i.a,[wr (p+1)]) else if i.op=15 then(0,0,[i.a])
 else if i.op=16 then(1,-1,[wr (p+1),i.a]) else if i.op=17 then(1,-1,[]) else(0,1,[wr (p+1)])
def yI (i:Ins) (p:Int):(U4 i p).2.2.length<=2:=by
 unfold U4
 (repeat' split)<;>simp
def GP (N:Nat) (i:Ins) (p:Int) (h:i.op=14->0<=i.a/\i.a<=4):wI N i p=some (U4 i p):=by
 unfold wI U4;by_cases c:i.op=9
 ·simp[c]
 by_cases d:i.op=11
 ·simp[d]
 by_cases f:i.op=12
 ·simp[f]
 by_cases g:i.op=10
 ·simp[g]
 by_cases b:i.op=14
 ·have:=h b;have e:decide (I4 (-i.a))=true:=ND ino;simp only[b,e,NA,N3,show((14:Int)=9)=False by decide,show((14:Int)=11)=False by decide,show((14:Int)=12)=False by decide,show((14:Int)=10)=False by decide,NB,N4,A0,or_self,if_false,if_true]
 by_cases j:i.op=15
 ·simp[j]
 by_cases k:i.op=16
 ·simp[k]
 by_cases l:i.op=17
 ·simp[l]
 simp[c,d,f,g,b,j,k,l]
def uJ {i:Ins} {p:Int} {x:Int} (l:0<=x) (k:x<=12) (c:¬x<(U4 i p).1) (b:¬12<wr (x+(U4 i p).2.1)) (hi:i.op=14->0<=i.a/\i.a<=4) :
  0<=wr (x+(U4 i p).2.1)/\wr (x+(U4 i p).2.1)<=12/\wr (x+(U4 i p).2.1)=x+(U4 i p).2.1:=by
 unfold U4 at c b⊢;split at c
 ·rename_i e;simp only[e,if_true] at b⊢;rw[u7 ino];omega
 ·rename_i e;simp only[e,if_false] at b⊢;split at c
  ·rename_i f;simp only[f,if_true] at b⊢;rw[u7 ino] at b⊢;omega
  ·rename_i f;simp only[f,if_false] at b⊢;split at c
   ·rename_i d;have hi:=hi d;simp only[d,if_true] at b⊢;simp only at c;rw[u7 ino] at c b⊢;omega
   ·rename_i d;simp only[d,if_false] at b⊢;split at c
    ·rename_i g;simp only[g,if_true] at b⊢;rw[u7 ino] at b⊢;omega
    ·rename_i g;simp only[g,if_false] at b⊢;split at c
     ·rename_i h;simp only[h,if_true] at b⊢;rw[u7 ino] at b⊢;omega
     ·rename_i h;simp only[h,if_false] at b⊢;split at c
      ·rename_i j;simp only[j,if_true] at b⊢;rw[u7 ino] at b⊢;omega
      ·rename_i j;simp only[j,if_false] at b⊢;rw[u7 ino] at b⊢;omega
theorem zs (N:Nat):∀(n k:Nat) (v:List Int),n+k=v.length->r8 N n k v=some (v.take k++MM n (-1))
 |0,k,v,h=>by rw[r8,List.take_of_length_le d9];simp
 |n+1,k,v,h=>by
  have a:k<v.length:=d9;rw[r8,D5,IS a];simp only[A0,Mk];rw[zs N n (k+1) _ L9];congr 1;rw[List.take_add_one,List.take_set_of_le (It _),List.getElem?_set_self a,List.replicate_succ];simp
theorem zt (N:Nat) (x:Int) (r:Int×Int×List Int):∀(l:List Int) (k:Nat) (a b:List Int),l=r.2.2.drop k->a.length+l.length<=17592186044416->b.length+l.length<=17592186044416 ->
  r9 N x r l k a b=some (a++l,b++MM l.length (wr (x+r.2.1)))
 |[],k,a,b,_,_,_=>by simp[r9]
 |y::l,k,a,b,h,ha,hb=>by
  obtain⟨d,e,_⟩:=Z6 h;simp only[MO] at ha hb;rw[r9];have e1:IN ((a.length+[y].length)*8) 140737488355328=true:=F9 L9;have c:IN ((b.length+[wr (x+r.2.1)].length)*8) 140737488355328=true:=F9 L9;simp only[D5,d,A0,e1,c,N3];rw[zt N x r l (k+1) _ _ e L9 L9];simp[List.replicate_succ]
def kg (h:List Int):Nat:=h.countP fun x=>decide (x<0)
def xK {h:List Int} {i:Nat} {x y:Int} (hi:h[i]?=some x) (b:x<0) (c:0<=y):kg (h.set i y)+1=kg h:=by
 induction h generalizing i with
 |nil=>simp at hi
 |cons a h ih =>
  cases i with
  |zero =>
   simp only[N2,Option.some.injEq] at hi;subst hi;have:¬y<0:=d9;simp[kg,b,this]
  |succ i =>
   have:=ih (i:=i) (by simpa using hi);simp only[kg,List.set_cons_succ,List.countP_cons] at this⊢;omega
def bx (m:Me):Nat->List Int->List (Int×Int)->Option (H9 (List Int×cu) (List Int))
 |0,_,_=>none
 |_+1,h,[]=>some (.next h)
 |n+1,h,(p,x)::r =>
  if(m.code.length:Int)<=p\/p<0 then some (.ret ([],⟨9,m.code.length⟩)) else
  match h[p.toNat]?,m.code[p.toNat]? with
  |some y,some i =>
   if 0<=y then(if y=x then bx m n h r else some (.ret ([],⟨8,p⟩)))
   else if x<(U4 i p).1\/(i.op=17/\x≠1) then some (.ret ([],⟨8,p⟩))
   else if 12<wr (x+(U4 i p).2.1) then some (.ret ([],⟨4,p⟩))
   else bx m n (h.set p.toNat x) (r++(U4 i p).2.2.map fun q=>(q,wr (x+(U4 i p).2.1)))
  |_,_=>none
def kn (l:List (Int×Int)):Prop:=∀q∈l,0<=q.2/\q.2<=12
theorem vC (m:Me) (d:ll m):∀(n:Nat) (h:List Int) (l:List (Int×Int)),h.length=m.code.length->kn l->l.length+3*kg h<n->∃r,bx m n h l=some r
 |0,h,l,_,_,o=>d9
 |n+1,h,[],_,_,_=>⟨_,rfl⟩
 |n+1,h,(p,x)::r,hh,hl,o=>by
  rw[bx];simp only[MO] at o;have e:=hl (p,x) l9;have t:kn r:=fun q a=>hl q (by simp[a]);by_cases g:(m.code.length:Int)<=p\/p<0
  ·rw[N6 g];exact⟨_,rfl⟩
  rw[N5 g];have s:p.toNat<m.code.length:=d9;have e1:h[p.toNat]?=some (h[p.toNat]' d9):=IS d9;have f:m.code[p.toNat]?=some m.code[p.toNat]:=IS s;generalize h[p.toNat]' d9=y at e1;have hi:=d _ (List.getElem_mem s);generalize m.code[p.toNat]=i at f hi;rw[e1,f];simp only;by_cases j:0<=y
  ·rw[N6 j];by_cases b:y=x
   ·rw[N6 b];exact vC m d n h r hh t d9
   ·rw[N5 b];exact⟨_,rfl⟩
  rw[N5 j];by_cases b:x<(U4 i p).1\/(i.op=17/\x≠1)
  ·rw[N6 b];exact⟨_,rfl⟩
  rw[N5 b];by_cases c:12<wr (x+(U4 i p).2.1)
  ·rw[N6 c];exact⟨_,rfl⟩
  rw[N5 c];have k:=uJ e.1 e.2 (fun h=>b (ML h)) c hi;have v:=xK (y:=x) e1 d9 e.1;have u:=yI i p;refine vC m d n _ _ (by simpa using hh) (fun q a=>?_) L9;rcases MY.1 a with a|a
  ·exact t q a
  ·obtain⟨z,_,rfl⟩:=MX.1 a;exact⟨k.1,k.2.1⟩
theorem vv (N:Nat) (m:Me) (C:ll m) (I:m.code.length<=1048576):∀(n:Nat) (h:List Int) (b c:List Int) (k:Nat),b.length=c.length->k<=b.length->b.length+2*kg h<=4194304->h.length=m.code.length ->
  kn ((b.drop k).zip (c.drop k))->r7 N m n h b c (k:Int)=bx m n h ((b.drop k).zip (c.drop k))
 |0,_,_,_,_,_,_,_,_,_=>rfl
 |n+1,h,b,c,k,hl,T,O,J,K=>by
  rw[r7];by_cases s:k<b.length
  ·have d:(k:Int)<(b.length:Int):=d9;have f:k<c.length:=d9;have D:b[k]?=some b[k]:=IS s;have E:c[k]?=some c[k]:=IS f;have l:(b.drop k).zip (c.drop k)=(b[k],c[k])::(b.drop (k+1)).zip (c.drop (k+1)):=by
    rw[List.drop_eq_getElem_cons s,List.drop_eq_getElem_cons f];rfl
   have v:=K (b[k],c[k]) (by rw[l];simp);have M:kn ((b.drop (k+1)).zip (c.drop (k+1))):=fun q e=>K q (by rw[l];simp[e]);have wk:wr ((k:Int)+1)=((k+1:Nat):Int):=by rw[u7 ino];omega
   rw[l,bx];generalize U:b[k]=p at D v;generalize Q:c[k]=x at E v;simp only[d,NA,N3,D5,D,E,A0,wk];by_cases B:(m.code.length:Int)<=p
   ·simp only[B,NA,N3,A0,true_or,if_true]
   by_cases o:p<0
   ·simp only[B,o,NA,NB,N3,N4,A0,or_true,if_true]
   simp only[B,o,NB,N4,A0,or_self,if_false];have u:p.toNat<m.code.length:=d9;have t:0<=p:=d9;have e1:h[p.toNat]?=some (h[p.toNat]' d9):=IS d9;have A:m.code[p.toNat]?=some m.code[p.toNat]:=IS u;generalize h[p.toNat]' d9=y at e1;have hi:=C _ (List.getElem_mem u);generalize m.code[p.toNat]=i at A hi;have R:j4 h p=some y:=by rw[fC t,e1]
   have S:j4 m.code p=some i:=(by rw[fC t,A]);simp only[R,S,e1,A,A0,GP N i p hi];by_cases G:0<=y
   ·simp only[G,NA,N3,if_true];by_cases g:y=x
    ·simp only[g,NA,MK,N4,A0,if_true];exact vv N m C I n h b c (k+1) hl d9 O J M
    ·simp only[g,NB,MU,N3,A0,if_false]
   simp only[G,NB,N4,if_false];by_cases g:x<(U4 i p).1
   ·simp only[g,NA,N3,A0,true_or,if_true]
   by_cases w:i.op=17/\x≠1
   ·simp only[g,w.1,w.2,NA,NB,N3,N4,A0,MU,or_true,if_true,ne_eq,not_false_eq_true,and_self]
   have e:((bif decide (i.op=(17:Int)) then some ((!decide (x=(1:Int)))) else some (false)):Option Bool)=some false:=by
    by_cases j:i.op=17
    ·by_cases H:x=1
     ·simp[H]
     ·exact absurd ⟨j,H⟩ w
    ·simp[j]
   simp only[g,w,e,NB,N4,A0,or_self,if_false];by_cases j:12<wr (x+(U4 i p).2.1)
   ·simp only[j,NA,N3,A0,if_true]
   simp only[j,NB,N4,if_false];have r:=uJ v.1 v.2 g j hi;have V:=xK (y:=x) e1 d9 v.1;have P:=yI i p;rw[zt N x (U4 i p) (U4 i p).2.2 0 b c rfl d9 d9];simp only[A0];have F:((b++(U4 i p).2.2).drop (k+1)).zip ((c++MM (U4 i p).2.2.length (wr (x+(U4 i p).2.1))).drop (k+1)) =
     (b.drop (k+1)).zip (c.drop (k+1))++(U4 i p).2.2.map fun q=>(q,wr (x+(U4 i p).2.1)):=by
    rw[List.drop_append_of_le_length d9,List.drop_append_of_le_length d9,List.zip_append L9];congr 1;generalize (U4 i p).2.2=L
    induction L with
    |nil=>rfl
    |cons a L ih=>simp[List.replicate_succ,ih]
   rw[vv N m C I n _ _ _ (k+1) L9 L9 L9 (by simpa using J) (by
    rw[F];intro q e;rcases MY.1 e with e|e
    ·exact M q e
    ·obtain⟨z,_,rfl⟩:=MX.1 e;exact⟨r.1,r.2.1⟩),F]
  ·have d:¬(k:Int)<(b.length:Int):=d9;have l:(b.drop k).zip (c.drop k)=[]:=by rw[List.drop_eq_nil_of_le d9];rfl
   rw[l,bx];simp only[d,NB,N4]
def qa (o:H9 (List Int×cu) (List Int)):List Int×cu:=match o with|.ret r=>r|.next h=>(h,⟨0,0⟩)
def uR (n:Nat):kg (MM n (-1))=n:=by
 induction n with
 |zero=>rfl
 |succ n ih=>simp only[kg,List.replicate_succ,List.countP_cons] at ih⊢;rw[ih];rfl
def AB (N:Nat) (m:Me) (d:ll m) (c:m.code.length<=1048576):uX N m=(bx m N (MM m.code.length (-1)) [(0,0)]).map qa:=by
 unfold uX;have e0:(decide (0<=(m.code.length:Int)) && decide ((m.code.length:Int)<=140737488355328) && decide ((m.code.length:Int)*8<=140737488355328))=true:=by
  simp only[IT,NF];omega
 have e1:(((MM (m.code.length:Int).toNat (0:Int)).length:Int)-((0:Nat):Int)).toNat=m.code.length:=l9;rw[e0,e1,zs N _ 0 _ l9];simp only[N3,A0,List.take_zero,List.nil_append];have h:=vv N m d c N (MM m.code.length (-1)) [0] [0] 0 rfl l9 (by rw[uR];simp;omega) l9 (by
  intro q a;simp only[List.drop_zero,List.zip_cons_cons,List.zip_nil_right,MJ,List.not_mem_nil,or_false] at a;subst a;decide)
 have b:r7 N m N (MM m.code.length (-1)) [(0:Int)] [(0:Int)] (0:Int)=bx m N (MM m.code.length (-1)) [(0,0)]:=h;rw[b];cases bx m N (MM m.code.length (-1)) [(0,0)] with
 |none=>rfl
 |some o=>cases o<;>rfl
def Fq (N:Nat) (m:Me) (e:4194304<=N) (a:ll m) (c:m.code.length<=1048576):∃r,uX N m=some r:=by
 rw[AB N m a c];obtain⟨o,d⟩:=vC m a N (MM m.code.length (-1)) [(0,0)] l9 (by
  intro q b;simp only[MJ,List.not_mem_nil,or_false] at b;subst b;decide) (by rw[uR];simp;omega)
 rw[d];exact⟨_,rfl⟩
theorem vu (N:Nat) (w:Wd) (c:Int) (m:Me) (a:1048578<=N) (d:w.a7.length<=1048576):∀(l:List Ins) (k:Nat),∃o,kB N w c m l k=some o/\(o=.next ()->∀i∈l,M7 N w c m i=some 0)
 |[],k=>⟨_,rfl,fun _ i hi=>by cases hi⟩
 |x::l,k=>by
  obtain⟨r,b⟩:=zu N w c m x a d;rw[kB,b];simp only[A0];by_cases h:r=0
  ·subst h;simp only[NA,MK,N4];obtain⟨o,f,g⟩:=vu N w c m a d l (k+1);refine⟨o,f,fun e i hi=>?_⟩;rcases MJ.1 hi with rfl|hi
   ·exact b
   ·exact g e i hi
  ·simp only[h,NB,MU,N3];exact⟨_,rfl,fun e=>by cases e⟩
def A9 (N:Nat) (w:Wd) (c:Int) (m:Me) (e:4194304<=N) (k:w.a7.length<=1048576) (g:m.code.length<=1048576):∃f,kK N w c m=some f:=by
 unfold kK;simp only[kJ,A0];refine vJ ?_ fun a _=>?_
 ·repeat (first|exact⟨_,rfl⟩|refine kR (fun _=>?_) (fun _=>?_))
 refine kR (fun _=>⟨_,rfl⟩) fun _=>?_;refine kR (fun _=>⟨_,rfl⟩) fun _=>?_;refine vJ ?_ fun a _=>?_
 ·repeat (first|exact⟨_,rfl⟩|refine kR (fun _=>?_) (fun _=>?_))
 refine kR (fun _=>⟨_,rfl⟩) fun _=>?_;refine kR (fun _=>⟨_,rfl⟩) fun _=>?_;refine vJ ?_ fun a _=>?_
 ·repeat (first|exact⟨_,rfl⟩|refine kR (fun _=>?_) (fun _=>?_))
 refine kR (fun _=>⟨_,rfl⟩) fun _=>?_;obtain⟨o,b,d⟩:=vu N w c m d9 k m.code 0;rw[b];simp only[A0];cases o with
 |ret r=>exact⟨_,rfl⟩
 |next u =>
  obtain⟨r,j⟩:=Fq N m e (fun i hi h=>Fu N w c m i (d rfl i hi) h) g;simp only[j,A0];exact⟨_,rfl⟩
def Good (x:Option (H9 Int Unit)) (P:Prop):Prop:=∃o,x=some o/\(∀r,o=.ret r->r≠0)/\(o=.next ()->P)
theorem Good.ret {r:Int} {P:Prop} (h:r≠0):Good (some (.ret r)) P:=⟨.ret r,rfl,(fun r e=>by cases e;exact h),fun e=>by cases e⟩
theorem Good.next {P:Prop} (h:P):Good (some (.next ())) P:=⟨.next (),rfl,(fun r e=>by cases e),fun _=>h⟩
theorem Good.bind {x:Option (H9 Int Unit)} {P Q:Prop} {y:Option (H9 Int Unit)} (h:Good x P) (c:P->Good y Q):Good (x.bind fun o=>match o with|.ret r=>some (.ret r)|.next ()=>y) Q:=by
 obtain⟨o,rfl,a,b⟩:=h;cases o with
 |ret r=>exact Good.ret (a r rfl)
 |next u=>exact c (b rfl)
theorem Good.imp {x:Option (H9 Int Unit)} {P Q:Prop} (h:Good x P) (d:P->Q):Good x Q:=by
 obtain⟨o,a,b,c⟩:=h;exact⟨o,a,b,fun e=>d (c e)⟩
theorem B8 (N:Nat) (x:Cl):∀(l:List Cl) (k:Nat),Good (kD N x l k) (∀d∈l,d.name≠x.name)
 |[],k=>Good.next fun d hd=>by cases hd
 |d::l,k=>by
  rw[kD];by_cases h:d.name=x.name
  ·simp only[h,NA,N3];exact Good.ret G7
  ·simp only[h,NB,N4];exact(B8 N x l (k+1)).imp fun hl e a=>by
    rcases MJ.1 a with rfl|a
    ·exact h
    ·exact hl e a
def lp (w:Wd) (k:Nat) (c:Cl):Prop:=Y4 c.name=true/\(∀d∈w.a7.take k,d.name≠c.name) /\
 (k<4->∃f,N8.a7[k]?=some f/\c.name=f.name/\c.aR=f.aR/\c.aG=0) /\
 (4<=k->0<=c.aR/\c.aR<k/\(0<c.aR->4<=c.aR))/\0<=c.aG/\c.aG<=6
theorem At (N:Nat) (w:Wd):∀(l:List Cl) (k:Nat),l=w.a7.drop k->Good (jV N w N8 l k) (∀j c,k<=j->w.a7[j]?=some c->lp w j c)
 |[],k,h=>Good.next fun j c p q=>by
   have D:=(MI.1 q).1;have E:=List.drop_eq_nil_iff.1 h.symm;omega
 |c::l,k,h=>by
  obtain⟨q,hl,n⟩:=Z6 h;have n:=of_decide_eq_true n;rw[jV,kJ];simp only[A0];cases v:Y4 c.name with
  |false=>simp only[MU,N3,A0];exact Good.ret G7
  |true =>
   simp only[MK,N4];have z:(decide (0<=(k:Int)) && decide ((k:Int)<=(w.a7.length:Int)))=true:=by simp only[IT,NF];omega
   have step:∀(P:Prop) (y:Option (H9 Int Unit)),((∀d∈w.a7.take k,d.name≠c.name)->Good y P) ->
     Good ((bif (decide (0<=(k:Int)) && decide ((k:Int)<=(w.a7.length:Int))) then((kD N c (w.a7.take (k:Int).toNat) 0).bind fun o=>match o with|.ret r=>some (.ret r)|.next ()=>y) else none)) P:=by
    intro P y C;rw[z];exact(B8 N c _ 0).bind fun hd=>C (by simpa using hd)
   have g:∀(P:Prop),lp w k c->Good (jV N w N8 l (k+1)) (∀j c,k<=j->w.a7[j]?=some c->lp w j c):=fun _ A =>
    (At N w l (k+1) hl).imp fun ih j d p hd=>by
     rcases Nat.eq_or_lt_of_le p with rfl|p
     ·rw[q] at hd;cases hd;exact A
     ·exact ih j d p hd
   by_cases x:k<4
   ·have i:(k:Int)<4:=d9;obtain⟨f,u⟩:∃f,N8.a7[k]?=some f:=⟨_,IS (by simpa[N8] using x)⟩;simp only[i,NA,N3,D5,u,A0];by_cases s:c.name=f.name
    ·simp only[s,NA,MK,N4];refine step _ _ fun hd=>?_;by_cases b:c.aR=f.aR
     ·simp only[b,NA,MK,N4,A0];by_cases e:c.aG<0
      ·simp only[e,NA,N3,A0];exact Good.ret G7
      ·by_cases a:0<c.aG
       ·simp only[e,a,NA,NB,N3,N4,A0];exact Good.ret G7
       ·simp only[e,a,NB,N4,A0];exact g True ⟨v,hd,fun _=>⟨f,u,s,b,d9⟩,fun h=>d9,d9,d9⟩
     ·simp only[b,NB,MU,N3,A0];exact Good.ret G7
    ·simp only[s,NB,MU,N3];exact Good.ret G7
   ·have i:¬(k:Int)<4:=d9;simp only[i,NB,N4,A0];refine step _ _ fun hd=>?_;by_cases b:c.aR<0
    ·simp only[b,NA,N3,A0];exact Good.ret G7
    by_cases e:(k:Int)<=c.aR
    ·simp only[b,e,NA,NB,N3,N4,A0];exact Good.ret G7
    have tail:(0<c.aR->4<=c.aR)->Good (((bif decide (c.aG<(0:Int)) then some (true) else some (decide ((6:Int)<c.aG))):Option Bool).bind fun t=>(bif t then some (.ret (3:Int)) else jV N w N8 l (k+1))) (∀j c,k<=j->w.a7[j]?=some c->lp w j c):=by
     intro B;by_cases a:c.aG<0
     ·simp only[a,NA,N3,A0];exact Good.ret G7
     ·by_cases m:6<c.aG
      ·simp only[a,m,NA,NB,N3,N4,A0];exact Good.ret G7
      ·simp only[a,m,NB,N4,A0];exact g True ⟨v,hd,fun h=>d9,fun _=>⟨d9,d9,B⟩,d9,d9⟩
    by_cases a:0<c.aR
    ·by_cases m:c.aR<4
     ·simp only[b,e,a,m,NA,NB,N3,N4,A0];exact Good.ret G7
     ·simp only[b,e,a,m,NA,NB,N3,N4,A0];exact tail fun _=>d9
    ·simp only[b,e,a,NB,N4,A0];exact tail fun h=>absurd h a
def ns (k:Nat) (m:Me):Prop:=k=3/\∃p∈bt,p.name=m.name/\p.aU=m.aU/\m.args=1/\m.a8=0/\m.code=[]
theorem wV (N:Nat) (k:Nat) (m:Me):∀(l:List Me) (j:Nat) (b:Bool),(∀p∈l,p∈bt)->(b=true->ns k m)->∃t,O8 N k m l j b=some t/\(t=true->ns k m)
 |[],j,b,_,s=>⟨b,rfl,s⟩
 |p::l,j,b,hl,s=>by
  rw[O8];have go:=wV N k m l (j+1);have d:∀p∈l,p∈bt:=fun q u=>hl q (by simp[u]);cases b with
  |true=>simp only[N3,A0];exact go true d (fun _=>s rfl)
  |false =>
   have f:=go false d (fun h=>by cases h);simp only[N4];by_cases a:(k:Int)=3
   ·by_cases c:p.name=m.name
    ·by_cases g:p.aU=m.aU
     ·by_cases i:m.args=1
      ·by_cases n:m.a8=0
       ·by_cases o:m.code=[]
        ·simp only[a,c,g,i,n,o,NA,N3,A0];exact go _ d fun _=>⟨d9,p,hl p l9,c,g,i,n,o⟩
        ·have r:¬(m.code.length:Int)=0:=fun e=>o (Mo d9);simp only[a,c,g,i,n,r,NA,NB,N3,A0];exact f
       ·simp only[a,c,g,i,n,NA,NB,N3,N4,A0];exact f
      ·simp only[a,c,g,i,NA,NB,N3,N4,A0];exact f
     ·simp only[a,c,g,NA,NB,N3,N4,A0];exact f
    ·simp only[a,c,NA,NB,N3,N4,A0];exact f
   ·simp only[a,NB,N4,A0];exact f
def mI (N:Nat) (w:Wd) (k:Nat) (m:Me):Prop:=ns k m\/∃f,kK N w (k:Int) m=some f/\f.err=0
theorem Au (N:Nat) (w:Wd) (k:Nat) (c:Cl) (D:4194304<=N) (y:D7 w) (B:c∈w.a7):∀(l:List Me) (j:Nat),l=c.aC.drop j ->
  Good (jU N w N8 k c l j) (∀i m,j<=i->c.aC[i]?=some m->mI N w k m/\∀p,0<i->c.aC[i-1]?=some p->Y5 p.name m.name=true)
 |[],j,h=>Good.next fun i m v x=>by
   have K:=(MI.1 x).1;have L:=List.drop_eq_nil_iff.1 h.symm;omega
 |m::l,j,h=>by
  obtain⟨x,hl,o⟩:=Z6 h;have o:=of_decide_eq_true o;have I:=(y.2.2.1 c B).1;rw[jU];have G:j4 N8.a7 3=some ⟨⟨#[73,110,116]⟩,0,0,bt⟩:=rfl;have C:=(y.2.2.1 c B).2 m (MT x);obtain⟨b,z,A⟩:=wV N k m bt 0 false (fun p a=>a) (fun h=>by cases h);obtain⟨f,E⟩:=A9 N w (k:Int) m D y.1 C;have tail:(∀p,0<j->c.aC[j-1]?=some p->Y5 p.name m.name=true)->Good ((j4 N8.a7 (3:Int)).bind fun t=>((O8 N k m t.aC 0 false).bind fun r=>((kK N w (k:Int) m).bind fun e=>(((bif (!r) then some ((!decide (e.err=(0:Int)))) else some (false)):Option Bool).bind fun s=>(bif s then some (.ret e.err) else jU N w N8 k c l (j+1))))))
    (∀i m,j<=i->c.aC[i]?=some m->mI N w k m/\∀p,0<i->c.aC[i-1]?=some p->Y5 p.name m.name=true):=by
   intro a;have g:mI N w k m->Good (jU N w N8 k c l (j+1)) (∀i m,j<=i->c.aC[i]?=some m->mI N w k m/\∀p,0<i->c.aC[i-1]?=some p->Y5 p.name m.name=true):=fun H =>
    (Au N w k c D y B l (j+1) hl).imp fun ih i d v hd=>by
     rcases Nat.eq_or_lt_of_le v with rfl|v
     ·rw[x] at hd;cases hd;exact⟨H,a⟩
     ·exact ih i d v hd
   rw[G];simp only[A0,z,E];cases b with
   |true=>simp only[MK,N4,A0];exact g (ML (A rfl))
   |false =>
    simp only[MU,N3,A0];by_cases u:f.err=0
    ·simp only[u,NA,MK,N4];exact g (Or.inr ⟨f,E,u⟩)
    ·simp only[u,NB,MU,N3];exact Good.ret u
  by_cases F:0<j
  ·have n:(0:Int)<(j:Int):=d9;have wk:wr ((j:Int)-1)=((j-1:Nat):Int):=by rw[u7 ino];omega
   obtain⟨p,a⟩:∃p,c.aC[j-1]?=some p:=⟨_,IS d9⟩;simp only[n,NA,N3,wk,D5,a,A0];cases J:Y5 p.name m.name with
   |true=>simp only[MK,N4];exact tail fun M _ q=>by rw[a] at q;cases q;exact J
   |false=>simp only[MU,N3];exact Good.ret G7
  ·have n:¬(0:Int)<(j:Int):=d9;simp only[n,NB,N4,A0];exact tail fun p a=>absurd a F
theorem Ar (N:Nat) (w:Wd) (r:4194304<=N) (q:D7 w):∀(l:List Cl) (k:Nat),l=w.a7.drop k ->
  Good (lA N w N8 l k) (∀j c,k<=j->w.a7[j]?=some c->p8 w (j:Int)<=6/\c.aC.length<=8/\dK c.aC/\∀m∈c.aC,mI N w j m)
 |[],k,h=>Good.next fun j c e b=>by
   have a:=(MI.1 b).1;have f:=List.drop_eq_nil_iff.1 h.symm;omega
 |c::l,k,h=>by
  obtain⟨b,hl,t⟩:=Z6 h;rw[lA,lC N w _ d9 q.1];simp only[A0];by_cases a:6<p8 w (k:Int)
  ·simp only[a,NA,N3];exact Good.ret G7
  by_cases f:(8:Int)<(c.aC.length:Int)
  ·simp only[a,f,NA,NB,N3,N4];exact Good.ret G7
  simp only[a,f,NB,N4];refine(Au N w k c r q (MT b) c.aC 0 rfl).bind fun s=>?_;refine(Ar N w r q l (k+1) hl).imp fun ih j d e hd=>?_;rcases Nat.eq_or_lt_of_le e with rfl|e
  ·rw[b] at hd;cases hd;refine⟨d9,d9,KC fun i m p hi g o=>(s i m d9 g).2 p hi o,fun m n=>?_⟩;obtain⟨i,hi⟩:=N0.1 n;exact(s i m d9 hi).1
  ·exact ih j d e hd
theorem Ap (N:Nat) (w:Wd):∀(l:List V) (k:Nat),Good (kE N w l k) (∀v∈l,ca v (w.heap.length:Int)=0)
 |[],k=>Good.next fun v b=>by cases b
 |v::l,k=>by
  rw[kE,wP];simp only[A0];by_cases h:ca v (w.heap.length:Int)=0
  ·simp only[h,NA,MK,N4];exact(Ap N w l (k+1)).imp fun ih u a=>by
    rcases MJ.1 a with rfl|a
    ·exact h
    ·exact ih u a
  ·simp only[h,NB,MU,N3];exact Good.ret h
def tL (w:Wd) (o:Ob):Prop:=0<=o.cls/\(0<o.cls->4<=o.cls)/\o.cls<w.a7.length/\(o.aG.length:Int)=p8 w o.cls/\∀v∈o.aG,ca v (w.heap.length:Int)=0
theorem Ao (N:Nat) (w:Wd) (m:4194304<=N) (j:D7 w):∀(l:List Ob) (k:Nat),Good (kF N w l k) (∀o∈l,tL w o)
 |[],k=>Good.next fun o n=>by cases n
 |o::l,k=>by
  rw[kF];have d:(0<=o.cls/\(0<o.cls->4<=o.cls)/\o.cls<w.a7.length/\(o.aG.length:Int)=p8 w o.cls)->Good ((kE N w o.aG 0).bind fun o=>match o with|.ret r=>some (.ret r)|.next ()=>kF N w l (k+1)) (∀x∈o::l,tL w x):=fun h =>
   (Ap N w o.aG 0).bind fun p=>(Ao N w m j l (k+1)).imp fun ih x i=>by
    rcases MJ.1 i with rfl|i
    ·exact⟨h.1,h.2.1,h.2.2.1,h.2.2.2,p⟩
    ·exact ih x i
  by_cases b:o.cls<0
  ·simp only[b,NA,N3,A0];exact Good.ret G7
  have a:=lC N w o.cls d9 j.1;by_cases c:0<o.cls
  ·by_cases g:o.cls<4
   ·simp only[b,c,g,NA,NB,N3,N4,A0];exact Good.ret G7
   ·by_cases e:(w.a7.length:Int)<=o.cls
    ·simp only[b,c,g,e,NA,NB,N3,N4,A0];exact Good.ret G7
    ·by_cases f:(o.aG.length:Int)=p8 w o.cls
     ·simp only[b,c,g,e,a,f,NA,NB,N3,N4,A0,MK];exact d ⟨d9,fun _=>d9,d9,f⟩
     ·simp only[b,c,g,e,a,f,NA,NB,N3,N4,A0,MU];exact Good.ret G7
  ·by_cases e:(w.a7.length:Int)<=o.cls
   ·simp only[b,c,e,NA,NB,N3,N4,A0];exact Good.ret G7
   ·by_cases f:(o.aG.length:Int)=p8 w o.cls
    ·simp only[b,c,e,a,f,NA,NB,N4,A0,MK];exact d ⟨d9,fun h=>absurd h c,d9,f⟩
    ·simp only[b,c,e,a,f,NB,N3,N4,A0,MU];exact Good.ret G7
structure I5 (N:Nat) (w:Wd):Prop where
 many:4<=w.a7.length/\w.a7.length<=12/\w.heap.length<=60
 aB:0<=w.aB/\w.aB<=1073741824
 cls:∀(j:Nat) c,w.a7[j]?=some c->lp w j c
 ak:∀(j:Nat) c,w.a7[j]?=some c->p8 w (j:Int)<=6/\c.aC.length<=8/\dK c.aC/\∀m∈c.aC,mI N w j m
 obj:∀o∈w.heap,tL w o
theorem Good.end_ {x:Option (H9 Int Unit)} {P:Prop} {y:Option Int} {Q:Prop} (h:Good x P) (c:P->∃r,y=some r/\(r=0->Q)):∃r,(x.bind fun o=>match o with|.ret r=>some r|.next ()=>y)=some r/\(r=0->Q):=by
 obtain⟨o,rfl,a,b⟩:=h;cases o with
 |ret r=>exact⟨r,rfl,fun e=>absurd e (a r rfl)⟩
 |next u=>exact c (b rfl)
def d57 (N:Nat) (w:Wd) (i:4194304<=N) (k:D7 w):∃r,nG N w=some r/\(r=0->I5 N w):=by
 unfold nG uq;simp only[A0];by_cases a:(w.a7.length:Int)<4
 ·exact⟨5,by simp[a],fun h=>by cases h⟩
 by_cases b:(12:Int)<(w.a7.length:Int)
 ·exact⟨5,by simp[a,b],fun h=>by cases h⟩
 by_cases d:(60:Int)<(w.heap.length:Int)
 ·exact⟨5,by simp[a,b,d],fun h=>by cases h⟩
 by_cases e:w.aB<0
 ·exact⟨3,by simp[a,b,d,e],fun h=>by cases h⟩
 by_cases g:1073741824<w.aB
 ·exact⟨3,by simp[a,b,d,e,g],fun h=>by cases h⟩
 simp only[a,b,d,e,g,NB,N4,A0];refine(At N w w.a7 0 rfl).end_ fun l=>?_;refine(Ar N w i k w.a7 0 rfl).end_ fun m=>?_;refine(Ao N w i k w.heap 0).end_ fun n=>?_;exact⟨0,rfl,fun _=>⟨d9,d9,fun j c f=>l j c d9 f,fun j c f=>m j c d9 f,n⟩⟩
theorem I5.ct {N:Nat} {w:Wd} (h:I5 N w):dT w:=fun c a=>by
 obtain⟨i,hi⟩:=N0.1 a;exact(h.ak i c hi).2.2.1

def gw (c:Int):List Ln->List Ln×Bool
 |[]=>([],false)
 |x::l=>if x.cls=c then(⟨x.cls,wr (x.found+1)⟩::l,true) else(x::(gw c l).1,(gw c l).2)
def qP (c:Int) (l:List Ln):List Ln:=if(gw c l).2=true then(gw c l).1 else(gw c l).1++[⟨c,1⟩]
def fT (s:St) (c:Int):List Tl->List Tl×Bool
 |[]=>([],false)
 |x::l=>if x.site=s then(⟨x.site,qP c x.a7⟩::l,true) else(x::(fT s c l).1,(fT s c l).2)
def nu (s:St) (c:Int) (l:List Tl):List Tl:=if(fT s c l).2=true then(fT s c l).1 else(fT s c l).1++[⟨s,[⟨c,1⟩]⟩]
theorem C0 (c:Int):∀l,(gw c l).1.length=l.length
 |[]=>rfl
 |x::l=>by
  unfold gw;split
  ·rfl
  ·simp[C0 c l]
def d99 (c:Int) (l:List Ln):(qP c l).length<=l.length+1:=by
 unfold qP;have:=C0 c l;split<;>simp<;>omega
theorem Br (s:St) (c:Int):∀l,(fT s c l).1.length=l.length
 |[]=>rfl
 |x::l=>by
  unfold fT;split
  ·rfl
  ·simp[Br s c l]
def DX (c:Int) (l:List Ln):fk c l=qP c l:=by
 unfold fk qP bb;have key:∀l:List Ln,(match l.findIdx? (fun x=>decide (x.cls=c)) with|some k=>(gw c l).2=true/\l.modify k (fun x=>⟨x.cls,wr (x.found+1)⟩)=(gw c l).1|none=>(gw c l).2=false/\(gw c l).1=l):=by
  intro l
  induction l with
  |nil=>exact⟨rfl,rfl⟩
  |cons x l ih =>
   rw[List.findIdx?_cons];by_cases d:x.cls=c
   ·simp[d,gw]
   ·simp only[d,NB,Mp,if_false,gw];cases b:l.findIdx? (fun x=>decide (x.cls=c)) with
    |none=>rw[b] at ih;exact⟨ih.1,by rw[ih.2]⟩
    |some k=>rw[b] at ih;exact⟨ih.1,by simp only[List.modify_succ_cons];rw[ih.2]⟩
 have:=key l;cases b:l.findIdx? (fun x=>decide (x.cls=c)) with
 |some k=>rw[b] at this;simp only[this.1,if_true];exact this.2
 |none =>
  rw[b] at this;have g:wr ((0:Int)+1)=1:=G7;simp only[this.1,this.2,if_false,Mp];have e:∀(l:List Ln) (y:Ln) (f:Ln->Ln),(l++[y]).modify l.length f=l++[f y]:=by
   intro l y f
   induction l with
   |nil=>rfl
   |cons a l ih=>simp only[List.cons_append,MO,List.modify_succ_cons,ih]
  rw[e,g]
def KK (s:St) (c:Int) (l:List Tl):tJ s c l=nu s c l:=by
 unfold tJ nu bb;have key:∀l:List Tl,(match l.findIdx? (fun x=>decide (x.site=s)) with|some k=>(fT s c l).2=true/\l.modify k (fun x=>⟨x.site,fk c x.a7⟩)=(fT s c l).1|none=>(fT s c l).2=false/\(fT s c l).1=l):=by
  intro l
  induction l with
  |nil=>exact⟨rfl,rfl⟩
  |cons x l ih =>
   rw[List.findIdx?_cons];by_cases d:x.site=s
   ·simp[d,fT,DX]
   ·simp only[d,NB,Mp,if_false,fT];cases b:l.findIdx? (fun x=>decide (x.site=s)) with
    |none=>rw[b] at ih;exact⟨ih.1,by rw[ih.2]⟩
    |some k=>rw[b] at ih;exact⟨ih.1,by simp only[List.modify_succ_cons];rw[ih.2]⟩
 have:=key l;cases b:l.findIdx? (fun x=>decide (x.site=s)) with
 |some k=>rw[b] at this;simp only[this.1,if_true];exact this.2
 |none =>
  rw[b] at this;simp only[this.1,this.2,if_false,Mp];have e:∀(l:List Tl) (y:Tl) (f:Tl->Tl),(l++[y]).modify l.length f=l++[f y]:=by
   intro l y f
   induction l with
   |nil=>rfl
   |cons a l ih=>simp only[List.cons_append,MO,List.modify_succ_cons,ih]
  rw[e,DX];rfl
def HC (N:Nat) (l:List Tl) (s:St) (c:Int) (hl:∀t∈l,t.a7.length<=1099511627776) (h:l.length<=1099511627776):sR N l s c=some (nu s c l):=by
 unfold sR;have e:(IN ((l.length+1)*56) 140737488355328 && l.all fun t=>IN ((t.a7.length+1)*16) 140737488355328)=true:=by
  rw[IT,MV];exact⟨F9 d9,fun t a=>F9 (by have:=hl t a;omega)⟩
 rw[e,KK];rfl
def Fw (N:Nat) {l:List Ln} (h:l.length<=1099511627776):X4 N l=some l:=by
 unfold X4;rw[F9 d9];rfl
theorem zf (N:Nat):∀(l:List Tl) (k:Nat) (a:List Tl),(∀t∈l,t.a7.length<=1099511627776)->a.length+l.length<=1099511627776->lQ N l k a=some (a++l)
 |[],k,a,_,_=>by simp[lQ]
 |x::l,k,a,h,hl=>by
  rw[lQ,Fw N (h x l9)];simp only[A0];rw[F9 (by simp at hl⊢;omega)];simp only[N3];rw[zf N l (k+1) _ (fun o b=>h o (by simp[b])) (by simp at hl⊢;omega)];simp
def BF (N:Nat) {l:List Tl} (h:∀t∈l,t.a7.length<=1099511627776) (hl:l.length<=1099511627776):pX N l=some l:=by
 unfold pX;rw[zf N l 0 [] h (by simpa using hl)];rfl
def ke (c:Int):List Ln->Int
 |[]=>-1
 |y::l=>if y.cls=c then y.found else ke c l
def dv (s:St) (e c:Int):List Ce->Int
 |[]=>-1
 |x::l=>if x.site=s then(if x.aB=e then ke c x.lines else -1) else dv s e c l
theorem Dm (N:Nat) (s:St):∀(l:List Ce) (k:Nat),y9 N (fun x=>nA N x s) l k=some (match l.findIdx? (fun t=>decide (t.site=s)) with|some i=>.ret ((k+i:Nat):Int)|none=>.next ())
 |[],k=>rfl
 |x::l,k=>by
  rw[y9,nb,Dm N s l (k+1)];unfold nA;rw[iq];by_cases e:x.site=s
  ·simp[e]
  ·cases l.findIdx? (fun t=>decide (t.site=s))<;>simp[e];omega
def GS (N:Nat) (l:List Ce) (s:St):nN N l s=some (fu (fun t=>decide (t.site=s)) l):=by
 unfold nN M8 fu;rw[Dm];cases l.findIdx? (fun t=>decide (t.site=s))<;>simp
theorem zW (N:Nat) (c:Int):∀(l:List Ln) (k:Nat),∃o,nE N c l k=some o/\(match o with|.ret r=>r|.next ()=>-1)=ke c l
 |[],k=>⟨.next (),rfl,rfl⟩
 |y::l,k=>by
  rw[nE,ke];by_cases h:y.cls=c
  ·exact⟨.ret y.found,by simp[h],by simp[h]⟩
  ·obtain⟨o,a,b⟩:=zW N c l (k+1);exact⟨o,by simp[h,a],by rw[N5 h];exact b⟩
theorem DA (s:St) (e c:Int):∀l:List Ce,dv s e c l=match l.findIdx? (fun t=>decide (t.site=s)) with
   |some i=>(match l[i]? with|some x=>(if x.aB=e then ke c x.lines else -1)|none=>-1)|none=>-1
 |[]=>rfl
 |x::l=>by
  rw[dv,nb];by_cases h:x.site=s
  ·simp[h]
  ·simp only[h,NB,Mp,if_false];rw[DA s e c l];cases l.findIdx? (fun t=>decide (t.site=s))<;>simp
def HG (N:Nat) (l:List Ce) (s:St) (e c:Int):sO N l s e c=some (dv s e c l):=by
 unfold sO;rw[GS,DA];simp only[A0];rcases vO (fun t:Ce=>decide (t.site=s)) l with⟨k,x,e1,a,i,d⟩|⟨e1,a⟩
 ·rw[e1,d];have f:¬((k:Int)<0):=d9;simp only[f,NB,N4,D5,a,A0];by_cases b:x.aB=e
  ·obtain⟨o,g,h⟩:=zW N c x.lines 0;simp only[b,NA,MK,N4,g,A0,if_true,<-h];cases o<;>rfl
  ·simp[b]
 ·rw[e1,a];simp
def yh (l:List Ce):Prop:=l.length<=1099511627776/\∀x∈l,x.lines.length<=1099511627776
def iT (s:St) (e c f:Int):List Ce->List Ce
 |[]=>[iR e c f ⟨s,e,false,[]⟩]
 |x::l=>if x.site=s then iR e c f x::l else x::iT s e c f l
def HB (N:Nat) (l:List Ce) (s:St) (e c f:Int) (h:yh l):sK N l s e c f=some (iT s e c f l):=by
 unfold sK;have a:(IN ((l.length+1)*72) 140737488355328 && l.all fun t=>IN ((t.lines.length+1)*16) 140737488355328)=true:=by
  rw[IT,MV];exact⟨F9 (by have:=h.1;omega),fun t d=>F9 (by have:=h.2 t d;omega)⟩
 rw[a];simp only[N3];congr 1;clear a h;unfold bb
 induction l with
 |nil=>rfl
 |cons x l ih =>
  rw[nb,iT];by_cases b:x.site=s
  ·simp[b]
  ·simp only[b,NB,Mp,if_false];rw[<-ih];cases l.findIdx? (fun t=>decide (t.site=s)) with
   |none=>simp
   |some i=>simp
def Fl (N:Nat) {l:List Ln} (h:l.length<=1099511627776):X4 N l=some l:=by
 unfold X4;rw[F9 d9];rfl
theorem zX (N:Nat):∀(l:List Ce) (k:Nat) (a:List Ce),(∀t∈l,t.lines.length<=1099511627776)->a.length+l.length<=1099511627776->lR N l k a=some (a++l)
 |[],k,a,_,_=>by simp[lR]
 |x::l,k,a,h,hl=>by
  rw[lR,Fl N (h x l9)];simp only[A0];rw[F9 (by simp at hl⊢;omega)];simp only[N3];rw[zX N l (k+1) _ (fun o b=>h o (by simp[b])) (by simp at hl⊢;omega)];simp
def w8 (N:Nat) {l:List Ce} (h:yh l):lX N l=some l:=by
 unfold lX;rw[zX N l 0 [] h.2 (by simpa using h.1)];rfl
def iG (w:Wd) (s:St) (c:Int) (name:ByteArray) (l:List Ce):List Ce×Int×Int×Bool :=
 if 0<=dv s w.aB c l/\dv s w.aB c l<w.a7.length then(l,(l7 w name (dv s w.aB c l)).1,(l7 w name (dv s w.aB c l)).2,true)
 else if(l7 w name c).2<0 then(l,(l7 w name c).1,(l7 w name c).2,false)
 else(iT s w.aB c (l7 w name c).1 l,(l7 w name c).1,(l7 w name c).2,false)
def Gu (N:Nat) (l:List Ce) (w:Wd) (s:St) (c:Int) (name:ByteArray) (e:1048578<=N) (g:dT w) (f:D7 w) (hl:yh l):sI N l w s c name=some (iG w s c name l):=by
 unfold sI iG;rw[HG];simp only[A0,lM N w _ name e g f,w8 N hl,HB N l s _ _ _ hl];by_cases a:0<=dv s w.aB c l
 ·by_cases d:dv s w.aB c l<w.a7.length
  ·simp[a,d]
  ·by_cases b:(l7 w name c).2<0<;>simp[a,d,b]
 ·by_cases b:(l7 w name c).2<0<;>simp[a,b]
theorem BU {w:Wd} {s:ByteArray}:∀{n:Nat} {c:Int} {p:Int×Int},X3 w s n c=some p->∀m,X3 w s (m+1) p.1=some p
 |0,c,p,h,m=>by cases h
 |n+1,c,p,h,m=>by
  rw[X3] at h;by_cases a:0<=c
  ·rw[N6 a] at h;cases b:w.a7[c.toNat]? with
   |none=>rw[b] at h;cases h
   |some x =>
    rw[b] at h;simp only at h;cases hi:bJ s x.aC with
    |none=>rw[hi] at h;exact BU h m
    |some i =>
     rw[hi] at h;cases h;rw[X3,N6 a,b];simp only[hi]
  ·rw[N5 a] at h;cases h
def HZ {w:Wd} {s:ByteArray} {c:Int} (h:0<=(l7 w s c).2):l7 w s (l7 w s c).1=l7 w s c:=by
 unfold l7 at h⊢;cases a:X3 w s (w.a7.length+1) c with
 |none=>rw[a] at h;exact absurd h G7
 |some p =>
  rw[Option.getD_some,BU a (w.a7.length),Option.getD_some]

def d56 (N:Nat) (w:Wd) (c:Int) (m:Me) (i:Ins) (v:1048578<=N) (x:w.a7.length<=1048576) (h:M7 N w c m i=some 0):1<=i.op/\i.op<=17:=by
 by_cases l:1<=i.op/\i.op<=17
 ·exact l
 ·exfalso;unfold M7 at h;have n:¬i.op=1:=d9;have o:¬i.op=2:=d9;have p:¬i.op=3:=d9;have q:¬i.op=4:=d9;have r:¬i.op=5:=d9;have n6:¬i.op=6:=d9;have s:¬i.op=7:=d9;have t:¬i.op=8:=d9;have u:¬i.op=9:=d9;have a:¬i.op=10:=d9;have b:¬i.op=11:=d9;have d:¬i.op=12:=d9;have e:¬i.op=13:=d9;have f:¬i.op=14:=d9;have g:¬i.op=15:=d9;have j:¬i.op=16:=d9;have k:¬i.op=17:=d9;simp only[n,o,p,q,r,n6,s,t,u,a,b,d,e,f,g,j,k,NB,N4,A0] at h;cases h
def HJ (N:Nat) (w:Wd) (c:Int) (m:Me) (i:Ins) (B:m.code.length<=1048576) (h:M7 N w c m i=some 0) (b:i.op=15\/i.op=16):0<=i.a/\i.a<m.code.length:=by
 have r:wr ((m.code.length:Int)-1)=(m.code.length:Int)-1:=u7 ino;have key:∀o:Int,(o=15\/o=16)->i.op=o->0<=i.a/\i.a<m.code.length:=by
  intro o b p;unfold M7 at h;have s:¬o=1:=d9;have t:¬o=2:=d9;have u:¬o=3:=d9;have v:¬o=4:=d9;have x:¬o=5:=d9;have n6:¬o=6:=d9;have y:¬o=7:=d9;have z:¬o=8:=d9;have A:¬o=9:=d9;have d:¬o=10:=d9;have e:¬o=11:=d9;have f:¬o=12:=d9;have g:¬o=13:=d9;have j:¬o=14:=d9;have k:¬o=17:=d9;have q:((bif decide (o=(15:Int)) then some (decide (o=(15:Int))) else some (decide (o=(16:Int)))):Option Bool)=some true:=by
   rcases b with rfl|rfl<;>rfl
  simp only[p,s,t,u,v,x,n6,y,z,A,d,e,f,g,j,k,q,NB,N4,N3,A0,r] at h;by_cases l:i.a<0
  ·simp only[l,NA,N3,A0] at h;cases h
  ·by_cases n:(m.code.length:Int)-1<i.a
   ·simp only[l,n,NA,NB,N3,N4,A0] at h;cases h
   ·omega
 exact key i.op b rfl
structure zJ (N:Nat) (w:Wd) (k:Int) (m:Me):Prop where
 args:0<=m.args/\m.args<=4
 a8:0<=m.a8/\m.a8<=6
 len:m.code.length<=60
 num:∀i∈m.code,M7 N w k m i=some 0
def JV (N:Nat) (w:Wd) (k:Int) (m:Me) (f:cu) (y:1048578<=N) (A:w.a7.length<=1048576) (h:kK N w k m=some f) (a:f.err=0):zJ N w k m:=by
 unfold kK at h;simp only[kJ,A0] at h;by_cases d:k<0
 ·simp only[d,NA,N3,A0] at h;cases h;cases a
 by_cases n:(w.a7.length:Int)<=k
 ·simp only[d,n,NA,NB,N3,N4,A0] at h;cases h;cases a
 simp only[d,n,NB,N4,A0] at h;cases z:Y4 m.name with
 |false=>rw[z] at h;simp only[MU,N3] at h;cases h;cases a
 |true =>
  rw[z] at h;simp only[MK,N4] at h;by_cases b:m.args<0
  ·simp only[b,NA,N3,A0] at h;cases h;cases a
  by_cases c:4<m.args
  ·simp only[b,c,NA,NB,N3,N4,A0] at h;cases h;cases a
  by_cases e:m.a8<0
  ·simp only[b,c,e,NA,NB,N3,N4,A0] at h;cases h;cases a
  by_cases p:6<m.a8
  ·simp only[b,c,e,p,NA,NB,N3,N4,A0] at h;cases h;cases a
  simp only[b,c,e,p,NB,N4,A0] at h;by_cases s:m.aU=0
  ·simp only[s,NA,MK,N4] at h;by_cases g:(m.code.length:Int)=0
   ·simp only[g,NA,N3,A0] at h;cases h;cases a
   by_cases t:(60:Int)<(m.code.length:Int)
   ·simp only[g,t,NA,NB,N3,N4,A0] at h;cases h;cases a
   simp only[g,t,NB,N4,A0] at h;obtain⟨o,v,B⟩:=vu N w k m y A m.code 0;rw[v] at h;simp only[A0] at h;cases o with
   |next u=>exact⟨d9,d9,d9,B rfl⟩
   |ret r =>
    have h:some r=some f:=h;cases h;exfalso;have key:∀(l:List Ins) (j:Nat) (r:cu),kB N w k m l j=some (.ret r)->r.err≠0:=by
     intro l
     induction l with
     |nil=>intro j r h;rw[kB] at h;cases h
     |cons x l ih =>
      intro j r h;obtain⟨q,C⟩:=zu N w k m x y A;rw[kB,C] at h;simp only[A0] at h;by_cases i:q=0
      ·simp only[i,NA,MK,N4] at h;exact ih _ _ h
      ·simp only[i,NB,MU,N3] at h;cases h;exact i
    exact key _ _ _ v a
  ·simp only[s,NB,MU,N3] at h;cases h;cases a
def Dy {N:Nat} {w:Wd} (e:1048578<=N) (l:w.a7.length<=1048576) (h:I5 N w) {k:Nat} {c:Cl} (g:w.a7[k]?=some c) {m:Me} (j:m∈c.aC):zJ N w (k:Int) m:=by
 rcases(h.ak k c g).2.2.2 m j with⟨_,p,_,_,_,a,b,d⟩|⟨f,a,b⟩
 ·exact⟨d9,d9,by rw[d];simp,by rw[d];intro i hi;cases hi⟩
 ·exact JV N w k m f e l a b
structure Leafy (x:Me):Prop where
 args:0<=x.args/\x.args<=4
 a8:0<=x.a8/\x.a8<=6
 len:x.code.length<=60
 op:∀i∈x.code,1<=i.op/\i.op<=17
 jump:∀i∈x.code,(i.op=15\/i.op=16)->0<=i.a/\i.a<x.code.length
def put_eq (N:Nat) (w:Wd) (m:Me) (out:List Ins) (t:Int) (aH fix:List Int) (op a b c:Int) (h:out.length<=1000000) :
  G8 N (⟨w,m,out,t,aH,fix⟩:fY) op a b c=some ⟨w,m,out++[⟨op,a,b,c,BY⟩],t,aH,fix⟩:=by
 unfold G8;rw[F9 L9];rfl
def R5 (y:Me):Nat:=3+y.args.toNat+2*y.a8.toNat+y.code.length
def size_eq (N:Nat) (y:Me) (a:Leafy y):pB N y=some ((R5 y:Nat):Int):=by
 unfold pB R5;have e:=a.args;have f:=a.a8;have g:=a.len;have e1:wr (3+y.args)=3+y.args:=u7 ino;have b:wr (2*y.a8)=2*y.a8:=u7 ino;have c:wr (3+y.args+2*y.a8)=3+y.args+2*y.a8:=u7 ino;have d:wr (3+y.args+2*y.a8+(y.code.length:Int))=3+y.args+2*y.a8+y.code.length:=u7 ino;rw[e1,b,c,d];congr 1;omega
theorem A7 (N:Nat) (w:Wd) (l:w.a7.length<=1048576):∀(n:Nat) (k:Nat) (c a:Int),k<=w.a7.length+1->w.a7.length+1-k<n ->
  oo N w n c a (k:Int)=some ((bf w (w.a7.length+1-k) c).foldl (fun n k=>match w.a7[k.toNat]? with|some x=>wr (n+x.aG)|none=>n) a)
 |0,k,c,a,_,h=>d9
 |n+1,k,c,a,p,q=>by
  rw[oo];by_cases b:0<=c
  ·by_cases f:c<w.a7.length
   ·obtain⟨x,i,g⟩:=dc b f;by_cases o:k<=w.a7.length
    ·have d:(k:Int)<=(w.a7.length:Int):=d9;have e:w.a7.length+1-k=(w.a7.length-k)+1:=d9;have wk:wr ((k:Int)+1)=((k+1:Nat):Int):=by rw[u7 ino];omega
     simp only[b,f,d,NA,N3,A0,g,wk];rw[A7 N w l n (k+1) _ _ d9 d9,e,bf,N6 b,i];simp only[List.foldl_cons,i];rw[show w.a7.length+1-(k+1)=w.a7.length-k by omega]
    ·have d:¬(k:Int)<=(w.a7.length:Int):=d9;have e:w.a7.length+1-k=0:=d9;simp only[b,f,d,NA,NB,N3,N4,A0,e];rfl
   ·have i:w.a7[c.toNat]?=none:=xp f;simp only[b,f,NA,NB,N3,N4,A0];cases j:w.a7.length+1-k with
    |zero=>rfl
    |succ m=>rw[bf,N6 b,i];rfl
  ·simp only[b,NB,N4,A0];cases j:w.a7.length+1-k with
   |zero=>rfl
   |succ m=>rw[bf,N5 b];rfl
def oq (N:Nat) (w:Wd) (c:Int) (b:1048578<=N) (a:w.a7.length<=1048576):iI N w c=some (p8 w c):=by
 unfold iI p8;have h:=A7 N w a N 0 c 0 d9 d9;simp only[Nat.sub_zero,Int.ofNat_zero] at h;rw[h];rfl
theorem zP (N:Nat) (s:ByteArray):∀(n k:Nat),n+k=s.size->my N s n k=some (if(s.data.toList.drop k).all er=true then .next () else .ret false)
 |0,k,h=>by
  rw[List.drop_eq_nil_of_le (by rw[show s.data.toList.length=s.size from rfl];omega)];rfl
 |n+1,k,h=>by
  have f:k<s.data.toList.length:=by rw[show s.data.toList.length=s.size from rfl];omega
  rw[my,List.drop_eq_getElem_cons f,DN,IS f,zP N s n (k+1) d9];simp only[A0,List.all_cons];generalize s.data.toList[k]=u;generalize s.data.toList.drop (k+1)=b;by_cases d:(u.toNat:Int)<=32
  ·have a:(u.toNat:Int)<33:=d9;have e:er u=false:=by simp[er,a]
   simp only[d,e,NA,N3,A0,Bool.false_and];rfl
  ·have a:¬(u.toNat:Int)<33:=d9;by_cases c:126<(u.toNat:Int)
   ·have e:er u=false:=(by simp only[er,a,c,NA,NB,MK,Bool.and_false]);simp only[d,c,e,NA,NB,N3,N4,A0,Bool.false_and];rfl
   ·have e:er u=true:=(by simp only[er,a,c,NB,MU,Bool.and_true]);simp only[d,c,e,NB,N4,A0,Bool.true_and]
def qn (N:Nat) (s:ByteArray):kN N s=some (Y4 s):=by
 unfold kN Y4;have e:((s.size:Int)-((0:Nat):Int)).toNat=s.size:=d9;rw[e,zP N s s.size 0 d9,List.drop_zero];by_cases c:(s.size:Int)<1
 ·have a:¬0<s.size:=d9;simp[c,a]
 ·have a:0<s.size:=d9;by_cases d:(12:Int)<(s.size:Int)
  ·have b:¬s.size<=12:=d9;simp[c,d,b]
  ·have b:s.size<=12:=d9;cases h:s.data.toList.all er<;>simp[c,d,a,b]
theorem uo {w:Wd} (c:∀x∈w.a7,0<=x.aG/\x.aG<=6):∀(l:List Int) (a:Int),0<=a->a+6*l.length<=100000000 ->
  0<=l.foldl (fun n k=>match w.a7[k.toNat]? with|some x=>wr (n+x.aG)|none=>n) a/\l.foldl (fun n k=>match w.a7[k.toNat]? with|some x=>wr (n+x.aG)|none=>n) a<=a+6*l.length
 |[],a,b,d=>⟨by simpa using b,l9⟩
 |k::l,a,b,d=>by
  simp only[List.foldl_cons,MO] at d⊢;cases e:w.a7[k.toNat]? with
  |none =>
   have:=uo c l a b d9;simp only;omega
  |some x =>
   have:=c x (MT e);simp only;rw[u7 ino];have:=uo c l (a+x.aG) d9 d9;omega
def kP {w:Wd} (a:∀x∈w.a7,0<=x.aG/\x.aG<=6) (b:w.a7.length<=1048576) (c:Int):0<=p8 w c/\p8 w c<=1000000000:=by
 have hl:=vN w (w.a7.length+1) c;have:=uo a (bf w (w.a7.length+1) c) 0 d9 d9;unfold p8;exact⟨this.1,Int.le_trans this.2 d9⟩
def fb (w:Wd) (c:Int) (m:Me) (i:Ins):Option Bool :=
 if i.op=1\/i.op=6\/i.op=7\/i.op=8\/i.op=9\/i.op=10\/i.op=17 then some (decide (i.a=0))
 else if i.op=2 then some (decide (0<=i.a) && decide (i.a<m.args))
 else if i.op=3\/i.op=11 then some (decide (0<=i.a) && decide (i.a<m.a8))
 else if i.op=4\/i.op=12 then some (decide (0<=i.a) && decide (i.a<p8 w c))
 else if i.op=5 then some (decide (-1073741824<=i.a) && decide (i.a<=1073741824))
 else if i.op=13 then some (decide (i.a=0) || (decide (4<=i.a) && decide (i.a<w.a7.length)))
 else if i.op=14 then some (decide (0<=i.a) && decide (i.a<5))
 else if i.op=15\/i.op=16 then some (decide (0<=i.a) && decide (i.a<m.code.length))
 else none
def jm (i:Ins):Bool:=(decide (i.op=14) && !Y4 i.name) || (!decide (i.op=14) && !decide (i.name=(⟨#[]⟩:ByteArray))) || !decide (i.b=0) || !decide (i.c=0)
def bo (w:Wd) (c:Int) (m:Me) (i:Ins):Int:=match fb w c m i with
 |none=>1
 |some ok=>if ok=true then(if jm i=true then 2 else 0) else 3
def Fz (N:Nat) (a b:Int):kH N a b=some (decide (0<=a) && decide (a<b)):=by
 unfold kH;by_cases h:0<=a<;>simp[h]
def FN (N:Nat) (w:Wd) (c:Int) (m:Me) (i:Ins) (L:1048578<=N) (O:w.a7.length<=1048576):rY N w c m i=some (bo w c m i):=by
 unfold rY bo fb jm;simp only[oq N w c L O,qn,Fz,A0];generalize decide (i.b=0)=B;generalize decide (i.c=0)=C;generalize decide (i.name=(⟨#[]⟩:ByteArray))=E;generalize decide (i.a=0)=d;generalize decide (0<=i.a)=e;generalize decide (i.a<m.args)=F;generalize decide (i.a<m.a8)=q;generalize decide (i.a<p8 w c)=r;generalize decide (-1073741824<=i.a)=G;generalize decide (i.a<=1073741824)=H;generalize decide (4<=i.a)=I;generalize decide (i.a<(w.a7.length:Int))=J;generalize decide (i.a<5)=K;generalize decide (i.a<(m.code.length:Int))=f;generalize Y4 i.name=M;by_cases s:i.op=1
 ·simp only[s];cases d<;>cases B<;>cases C<;>cases E<;>simp
 by_cases y:i.op=6
 ·simp only[y];cases d<;>cases B<;>cases C<;>cases E<;>simp
 by_cases z:i.op=7
 ·simp only[z];cases d<;>cases B<;>cases C<;>cases E<;>simp
 by_cases A:i.op=8
 ·simp only[A];cases d<;>cases B<;>cases C<;>cases E<;>simp
 by_cases D:i.op=9
 ·simp only[D];cases d<;>cases B<;>cases C<;>cases E<;>simp
 by_cases g:i.op=10
 ·simp only[g];cases d<;>cases B<;>cases C<;>cases E<;>simp
 by_cases p:i.op=17
 ·simp only[p];cases d<;>cases B<;>cases C<;>cases E<;>simp
 by_cases t:i.op=2
 ·simp only[t];cases e<;>cases F<;>cases B<;>cases C<;>cases E<;>simp
 by_cases u:i.op=3
 ·simp only[u];cases e<;>cases q<;>cases B<;>cases C<;>cases E<;>simp
 by_cases h:i.op=11
 ·simp only[h];cases e<;>cases q<;>cases B<;>cases C<;>cases E<;>simp
 by_cases v:i.op=4
 ·simp only[v];cases e<;>cases r<;>cases B<;>cases C<;>cases E<;>simp
 by_cases j:i.op=12
 ·simp only[j];cases e<;>cases r<;>cases B<;>cases C<;>cases E<;>simp
 by_cases x:i.op=5
 ·simp only[x];cases G<;>cases H<;>cases B<;>cases C<;>cases E<;>simp
 by_cases k:i.op=13
 ·simp only[k];cases d<;>cases I<;>cases J<;>cases B<;>cases C<;>cases E<;>simp
 by_cases l:i.op=14
 ·simp only[l];cases e<;>cases K<;>cases B<;>cases C<;>cases M<;>simp
 by_cases n:i.op=15
 ·simp only[n];cases e<;>cases f<;>cases B<;>cases C<;>cases E<;>simp
 by_cases o:i.op=16
 ·simp only[o];cases e<;>cases f<;>cases B<;>cases C<;>cases E<;>simp
 simp[s,y,z,A,D,g,p,t,u,h,v,j,x,k,l,n,o]
def AD (N:Nat) (w:Wd) (c:Int) (m:Me) (i:Ins) (I:1048578<=N) (J:w.a7.length<=1048576) (hl:1<=w.a7.length) (O:0<=m.args/\m.args<=1000) (Q:0<=m.a8/\m.a8<=1000)
  (K:0<=p8 w c/\p8 w c<=1000000000) (P:m.code.length<=1048576):M7 N w c m i=some (bo w c m i):=by
 unfold M7 bo fb jm;simp only[lC N w c I J,kJ,A0,u7 (show I4 (m.args-1) by unfold I4;omega),u7 (show I4 (m.a8-1) by unfold I4;omega),u7 (show I4 (p8 w c-1) by unfold I4;omega),
  u7 (show I4 ((w.a7.length:Int)-1) by unfold I4;omega),u7 (show I4 ((m.code.length:Int)-1) by unfold I4;omega)]
 by_cases o:i.op=13
 ·have L:(!decide (i.op=14))=true:=by rw[o];rfl
  simp only[o];rcases(by omega:i.a<0\/i.a=0\/(0<i.a/\i.a<4)\/4<=i.a) with h|h|h|h
  ·simp[h,show¬i.a=0 by omega,show¬0<i.a by omega,show¬4<=i.a by omega]
  ·have G:¬((w.a7.length:Int)-1<0):=d9;have q:¬((w.a7.length:Int)<1):=d9;generalize decide (i.b=0)=B;generalize decide (i.c=0)=C;generalize decide (i.name=(⟨#[]⟩:ByteArray))=E;simp only[h];cases B<;>cases C<;>cases E<;>simp[G]
  ·simp[h.1,h.2,show¬i.a=0 by omega,show¬4<=i.a by omega]
  ·have G:¬i.a<4:=d9;have q:¬i.a<0:=d9;have r:¬i.a=0:=d9;have s:0<i.a:=d9;generalize decide (i.b=0)=B;generalize decide (i.c=0)=C;generalize decide (i.name=(⟨#[]⟩:ByteArray))=E;by_cases H:i.a<(w.a7.length:Int)
   ·have p:¬((w.a7.length:Int)-1<i.a):=d9;cases B<;>cases C<;>cases E<;>simp[G,q,r,s,h,H,p]
   ·have p:((w.a7.length:Int)-1<i.a):=d9;simp[G,q,r,s,h,H,p]
 generalize decide (i.b=0)=B;generalize decide (i.c=0)=C;generalize decide (i.name=(⟨#[]⟩:ByteArray))=E;generalize Y4 i.name=M;by_cases t:i.op=1
 ·rcases Int.lt_trichotomy i.a 0 with h|h|h
  ·simp[t,h,show¬i.a=0 by omega]
  ·cases B<;>cases C<;>cases E<;>simp[t,h]
  ·simp[t,h,show¬i.a<0 by omega,show¬i.a=0 by omega]
 by_cases z:i.op=6
 ·rcases Int.lt_trichotomy i.a 0 with h|h|h
  ·simp[z,h,show¬i.a=0 by omega]
  ·cases B<;>cases C<;>cases E<;>simp[z,h]
  ·simp[z,h,show¬i.a<0 by omega,show¬i.a=0 by omega]
 by_cases A:i.op=7
 ·rcases Int.lt_trichotomy i.a 0 with h|h|h
  ·simp[A,h,show¬i.a=0 by omega]
  ·cases B<;>cases C<;>cases E<;>simp[A,h]
  ·simp[A,h,show¬i.a<0 by omega,show¬i.a=0 by omega]
 by_cases D:i.op=8
 ·rcases Int.lt_trichotomy i.a 0 with h|h|h
  ·simp[D,h,show¬i.a=0 by omega]
  ·cases B<;>cases C<;>cases E<;>simp[D,h]
  ·simp[D,h,show¬i.a<0 by omega,show¬i.a=0 by omega]
 by_cases F:i.op=9
 ·rcases Int.lt_trichotomy i.a 0 with h|h|h
  ·simp[F,h,show¬i.a=0 by omega]
  ·cases B<;>cases C<;>cases E<;>simp[F,h]
  ·simp[F,h,show¬i.a<0 by omega,show¬i.a=0 by omega]
 by_cases e:i.op=10
 ·rcases Int.lt_trichotomy i.a 0 with h|h|h
  ·simp[e,h,show¬i.a=0 by omega]
  ·cases B<;>cases C<;>cases E<;>simp[e,h]
  ·simp[e,h,show¬i.a<0 by omega,show¬i.a=0 by omega]
 by_cases n:i.op=17
 ·rcases Int.lt_trichotomy i.a 0 with h|h|h
  ·simp[n,h,show¬i.a=0 by omega]
  ·cases B<;>cases C<;>cases E<;>simp[n,h]
  ·simp[n,h,show¬i.a<0 by omega,show¬i.a=0 by omega]
 by_cases u:i.op=2
 ·by_cases h:0<=i.a
  ·by_cases d:i.a<m.args
   ·cases B<;>cases C<;>cases E<;>simp[u,h,d,show¬i.a<0 by omega,show¬(m.args-1<i.a) by omega]
   ·simp[u,h,d,show¬i.a<0 by omega,show(m.args-1<i.a) by omega]
  ·simp[u,h,show i.a<0 by omega]
 by_cases v:i.op=3
 ·by_cases h:0<=i.a
  ·by_cases d:i.a<m.a8
   ·cases B<;>cases C<;>cases E<;>simp[v,h,d,show¬i.a<0 by omega,show¬(m.a8-1<i.a) by omega]
   ·simp[v,h,d,show¬i.a<0 by omega,show(m.a8-1<i.a) by omega]
  ·simp[v,h,show i.a<0 by omega]
 by_cases f:i.op=11
 ·by_cases h:0<=i.a
  ·by_cases d:i.a<m.a8
   ·cases B<;>cases C<;>cases E<;>simp[f,h,d,show¬i.a<0 by omega,show¬(m.a8-1<i.a) by omega]
   ·simp[f,h,d,show¬i.a<0 by omega,show(m.a8-1<i.a) by omega]
  ·simp[f,h,show i.a<0 by omega]
 by_cases x:i.op=4
 ·by_cases h:0<=i.a
  ·by_cases d:i.a<p8 w c
   ·cases B<;>cases C<;>cases E<;>simp[x,h,d,show¬i.a<0 by omega,show¬(p8 w c-1<i.a) by omega]
   ·simp[x,h,d,show¬i.a<0 by omega,show(p8 w c-1<i.a) by omega]
  ·simp[x,h,show i.a<0 by omega]
 by_cases g:i.op=12
 ·by_cases h:0<=i.a
  ·by_cases d:i.a<p8 w c
   ·cases B<;>cases C<;>cases E<;>simp[g,h,d,show¬i.a<0 by omega,show¬(p8 w c-1<i.a) by omega]
   ·simp[g,h,d,show¬i.a<0 by omega,show(p8 w c-1<i.a) by omega]
  ·simp[g,h,show i.a<0 by omega]
 by_cases y:i.op=5
 ·by_cases h:-1073741824<=i.a
  ·by_cases d:i.a<=1073741824
   ·cases B<;>cases C<;>cases E<;>simp[y,h,d,show¬i.a < -1073741824 by omega,show¬(1073741824<i.a) by omega]
   ·simp[y,h,d,show¬i.a < -1073741824 by omega,show(1073741824<i.a) by omega]
  ·simp[y,h,show i.a < -1073741824 by omega]
 by_cases j:i.op=14
 ·by_cases h:0<=i.a
  ·by_cases d:i.a<5
   ·cases B<;>cases C<;>cases M<;>simp[j,h,d,show¬i.a<0 by omega,show¬(4<i.a) by omega]
   ·simp[j,h,d,show¬i.a<0 by omega,show(4<i.a) by omega]
  ·simp[j,h,show i.a<0 by omega]
 by_cases k:i.op=15
 ·by_cases h:0<=i.a
  ·by_cases d:i.a<(m.code.length:Int)
   ·cases B<;>cases C<;>cases E<;>simp[k,h,d,show¬i.a<0 by omega,show¬((m.code.length:Int)-1<i.a) by omega]
   ·simp[k,h,d,show¬i.a<0 by omega,show((m.code.length:Int)-1<i.a) by omega]
  ·simp[k,h,show i.a<0 by omega]
 by_cases l:i.op=16
 ·by_cases h:0<=i.a
  ·by_cases d:i.a<(m.code.length:Int)
   ·cases B<;>cases C<;>cases E<;>simp[l,h,d,show¬i.a<0 by omega,show¬((m.code.length:Int)-1<i.a) by omega]
   ·simp[l,h,d,show¬i.a<0 by omega,show((m.code.length:Int)-1<i.a) by omega]
  ·simp[l,h,show i.a<0 by omega]
 simp[t,u,v,x,y,z,A,D,F,e,f,g,o,j,k,l,n]
def d85 (N:Nat) (i:Ins) (p:Int) (h:i.op=14->0<=i.a/\i.a<=4):∃g,rz N i=some ((U4 i p).1,g)/\wr (g-(U4 i p).1)=(U4 i p).2.1:=by
 unfold rz U4;by_cases l:i.op=9
 ·exact⟨0,by simp[l],by simp[l];rw[u7 ino]⟩
 by_cases d:i.op=11
 ·exact⟨0,by simp[d],by simp[d];rw[u7 ino]⟩
 by_cases e:i.op=12
 ·exact⟨0,by simp[e],by simp[e];rw[u7 ino]⟩
 by_cases j:i.op=16
 ·exact⟨0,by simp[j],by simp[j];rw[u7 ino]⟩
 by_cases k:i.op=17
 ·exact⟨0,by simp[k],by simp[k];rw[u7 ino]⟩
 by_cases c:i.op=10
 ·exact⟨2,by simp[c],by simp[c];rw[u7 ino]⟩
 by_cases b:i.op=14
 ·have:=h b;exact⟨1,by simp[b],by simp[b];rw[u7 (show I4 (i.a+1) by unfold I4;omega),u7 ino];omega⟩
 by_cases f:i.op=15
 ·exact⟨0,by simp[f],by simp[f];rw[u7 ino]⟩
 exact⟨1,by simp[l,c,d,e,b,f,j,k],by simp[l,c,d,e,b,f,j,k];rw[u7 ino]⟩
theorem zz (N:Nat):∀(n k:Nat) (v:List Int),n+k=v.length->lB N n k v=some (v.take k++MM n (-1))
 |0,k,v,h=>by rw[lB,List.take_of_length_le d9];simp
 |n+1,k,v,h=>by
  have a:k<v.length:=d9;rw[lB,D5,IS a];simp only[A0,Mk];rw[zz N n (k+1) _ L9];congr 1;rw[List.take_add_one,List.take_set_of_le (It _),List.getElem?_set_self a,List.replicate_succ];simp
def ew (a:du):Int×Int:=(a.f0,a.f1)
def gu (i:Ins) (p h:Int) (q:List du):List du :=
 let b:=if i.op=15\/i.op=17 then q else q++[⟨wr (p+1),h⟩]
 if i.op=15\/i.op=16 then b++[⟨i.a,h⟩] else b
def xv (i:Ins) (p h:Int) (q:List du):(gu i p h q).map ew=q.map ew++(U4 i p).2.2.map fun x=>(x,h):=by
 unfold gu U4;by_cases e:i.op=15
 ·simp[e,ew]
 by_cases f:i.op=16
 ·simp[f,ew]
 by_cases g:i.op=17
 ·simp[g]
 by_cases j:i.op=9
 ·simp[j,ew]
 by_cases b:i.op=11
 ·simp[b,ew]
 by_cases c:i.op=12
 ·simp[c,ew]
 by_cases a:i.op=10
 ·simp[a,ew]
 by_cases d:i.op=14
 ·simp[d,ew]
 simp[e,f,g,j,b,c,a,d,ew]
theorem wK (N:Nat) (m:Me) (B:ll m) (I:m.code.length<=1048576):∀(n:Nat) (h:List Int) (q:List du),q.length+2*kg h<=4194304->h.length=m.code.length ->
  kn (q.map ew)->mo N m n h q=bx m n h (q.map ew)
 |0,_,_,_,_,_=>rfl
 |n+1,h,[],_,_,_=>by
  rw[mo];simp[bx]
 |n+1,h,⟨p,x⟩::q,hb,hh,ho=>by
  rw[mo];have D:=ho (p,x) (by simp[ew]);have J:kn (q.map ew):=fun z c=>ho z (by rw[MW];exact Mv _ c);have l:(0:Int)<(((⟨p,x⟩:du)::q).length:Int):=by simp only[MO];omega
  have L:(decide (0<=(1:Int)) && decide ((1:Int)<=(((⟨p,x⟩:du)::q).length:Int)))=true:=by simp only[IT,NF,MO];omega
  have C:j4 ((⟨p,x⟩:du)::q) (0:Int)=some ⟨p,x⟩:=rfl;have hd:((⟨p,x⟩:du)::q).drop (1:Int).toNat=q:=rfl;simp only[MO] at hb;rw[MW,show ew ⟨p,x⟩=(p,x) from rfl,bx];simp only[l,NA,N3,C,A0,L,hd];by_cases a:p<0
  ·simp only[a,NA,N3,A0,or_true,if_true]
  by_cases E:(m.code.length:Int)<=p
  ·simp only[E,a,NA,NB,N3,N4,A0,true_or,if_true]
  simp only[E,a,NB,N4,A0,or_self,if_false];have r:p.toNat<m.code.length:=d9;have o:0<=p:=d9;have e1:h[p.toNat]?=some (h[p.toNat]' d9):=IS d9;have u:m.code[p.toNat]?=some m.code[p.toNat]:=IS r;generalize h[p.toNat]' d9=y at e1;have hi:=B _ (List.getElem_mem r);generalize m.code[p.toNat]=i at u hi;have P:j4 h p=some y:=by rw[fC o,e1]
  have Q:j4 m.code p=some i:=by rw[fC o,u]
  obtain⟨g,v,w⟩:=d85 N i p hi;simp only[P,Q,e1,u,A0,v,w];by_cases F:0<=y
  ·simp only[F,NA,N3,if_true];by_cases b:y=x
   ·simp only[b,NA,MK,N4,A0,if_true];exact wK N m B I n h q d9 hh J
   ·simp only[b,NB,MU,N3,A0,if_false]
  simp only[F,NB,N4,if_false];by_cases b:x<(U4 i p).1
  ·simp only[b,NA,N3,A0,true_or,if_true]
  by_cases s:i.op=17/\x≠1
  ·simp only[b,s.1,s.2,NA,NB,N3,N4,A0,MU,or_true,if_true,ne_eq,not_false_eq_true,and_self]
  have O:((bif decide (i.op=(17:Int)) then some ((!decide (x=(1:Int)))) else some (false)):Option Bool)=some false:=by
   by_cases d:i.op=17
   ·by_cases G:x=1
    ·simp[G]
    ·exact absurd ⟨d,G⟩ s
   ·simp[d]
  simp only[b,s,O,NB,N4,A0,or_self,if_false];by_cases d:12<wr (x+(U4 i p).2.1)
  ·simp only[d,NA,N3,A0,if_true]
  simp only[d,NB,N4,if_false];have k:=uJ D.1 D.2 b d hi;have R:=xK (y:=x) e1 d9 D.1;have M:=yI i p;have A:=congrArg List.length (xv i p (wr (x+(U4 i p).2.1)) q);simp only[Mb,MN] at A;have go:=wK N m B I n (h.set p.toNat x) (gu i p (wr (x+(U4 i p).2.1)) q) d9 (by simpa using hh) (by
   rw[xv];intro z c;rcases MY.1 c with c|c
   ·exact J z c
   ·obtain⟨z,_,rfl⟩:=MX.1 c;exact⟨k.1,k.2.1⟩)
  rw[xv] at go;rw[<-go];generalize wr (x+(U4 i p).2.1)=H;have t:IN ((q.length+1)*16) 140737488355328=true:=F9 d9;have K:IN ((q.length+1+1)*16) 140737488355328=true:=F9 d9;unfold gu;by_cases e:i.op=15
  ·simp[e,t]
  by_cases f:i.op=16
  ·simp[f,t,K]
  by_cases j:i.op=17
  ·simp[j]
  simp[e,f,j,t]
def FO (N:Nat) (m:Me) (c:ll m) (b:m.code.length<=1048576):rb N m=(bx m N (MM m.code.length (-1)) [(0,0)]).map qa:=by
 unfold rb;have e0:(decide (0<=(m.code.length:Int)) && decide ((m.code.length:Int)<=140737488355328) && decide ((m.code.length:Int)*8<=140737488355328))=true:=by
  simp only[IT,NF];omega
 have e1:(((MM (m.code.length:Int).toNat (0:Int)).length:Int)-((0:Nat):Int)).toNat=m.code.length:=l9;rw[e0,e1,zz N _ 0 _ l9];simp only[N3,A0,List.take_zero,List.nil_append];have h:=wK N m c b N (MM m.code.length (-1)) [⟨0,0⟩] (by rw[uR];simp;omega) l9 (by
  intro q a;simp only[MW,List.map_nil,ew,MJ,List.not_mem_nil,or_false] at a;subst a;decide)
 rw[h];show _=(bx m N (MM m.code.length (-1)) [(0,0)]).map qa;rw[show([(⟨0,0⟩:du)].map ew)=[((0:Int),(0:Int))] from rfl];cases bx m N (MM m.code.length (-1)) [(0,0)] with
 |none=>rfl
 |some o=>cases o<;>rfl
structure tM (m:Me) (h:List Int) (q:List (Int×Int)):Prop where
 len:h.length=m.code.length
 aH:∀(k:Nat) (y:Int) (i:Ins),h[k]?=some y->0<=y->m.code[k]?=some i->(U4 i k).1<=y/\y<=12/\(i.op=17->y=1)/\0<=wr (y+(U4 i k).2.1) /\
  ∀to∈(U4 i k).2.2,(to,wr (y+(U4 i k).2.1))∈q\/(0<=to/\h[to.toNat]?=some (wr (y+(U4 i k).2.1)))
theorem wh (m:Me) (P:ll m):∀(n:Nat) (h:List Int) (q:List (Int×Int)) (l:List Int),bx m n h q=some (.next l)->tM m h q->kn q ->
  tM m l []/\(∀(k:Nat) y,h[k]?=some y->0<=y->l[k]?=some y)/\∀z∈q,0<=z.1/\l[z.1.toNat]?=some z.2
 |0,h,q,l,e,_,_=>by cases e
 |n+1,h,[],l,e,hi,_=>by
  rw[bx] at e;cases e;exact⟨hi,fun _ _ h _=>h,fun z a=>by cases a⟩
 |n+1,h,(p,x)::r,l,e,hi,ho=>by
  rw[bx] at e;have D:=ho (p,x) l9;have T:kn r:=fun z a=>ho z (by simp[a]);by_cases R:(m.code.length:Int)<=p\/p<0
  ·rw[N6 R] at e;cases e
  rw[N5 R] at e;have hl:=hi.len;have S:p.toNat<m.code.length:=d9;have B:0<=p:=d9;have e1:h[p.toNat]?=some (h[p.toNat]' d9):=IS d9;have L:m.code[p.toNat]?=some m.code[p.toNat]:=IS S;generalize h[p.toNat]' d9=y at e1;have v:=P _ (List.getElem_mem S);generalize m.code[p.toNat]=i at L v;rw[e1,L] at e;simp only at e;by_cases C:0<=y
  ·rw[N6 C] at e;by_cases o:y=x
   ·rw[N6 o] at e;subst o;obtain⟨E,s,F⟩:=wh m P n h r l e ⟨hl,fun k z j g a A=>by
     obtain⟨G,H,I,J,K⟩:=hi.aH k z j g a A;refine⟨G,H,I,J,fun to f=>?_⟩;rcases K to f with c|c
     ·rcases MJ.1 c with c|c
      ·have t:=congrArg Prod.fst c;have u:=congrArg Prod.snd c;simp only at t u;exact .inr ⟨d9,by rw[t,u];exact e1⟩
      ·exact .inl c
     ·exact .inr c⟩ T
    exact⟨E,s,fun z a=>by
     rcases MJ.1 a with rfl|a
     ·exact⟨B,s _ _ e1 C⟩
     ·exact F z a⟩
   ·rw[N5 o] at e;cases e
  rw[N5 C] at e;by_cases o:x<(U4 i p).1\/(i.op=17/\x≠1)
  ·rw[N6 o] at e;cases e
  rw[N5 o] at e;by_cases N:12<wr (x+(U4 i p).2.1)
  ·rw[N6 N] at e;cases e
  rw[N5 N] at e;have O:=uJ D.1 D.2 (fun h=>o (ML h)) N v;have Q:((p.toNat:Nat):Int)=p:=d9;have d:(h.set p.toNat x)[p.toNat]?=some x:=List.getElem?_set_self d9;obtain⟨E,s,F⟩:=wh m P n (h.set p.toNat x) _ l e ⟨by simpa using hl,fun k z j g a A=>by
   by_cases b:k=p.toNat
   ·subst b;rw[d] at g;cases g;rw[L] at A;cases A;rw[Q];refine⟨by have:¬x<(U4 i p).1:=fun h=>o (ML h);omega,D.2,fun M=>Decidable.byContradiction fun h=>o (Or.inr ⟨M,h⟩),O.1,fun to f=>.inl ?_⟩;exact List.mem_append_right _ (MX.2 ⟨to,f,rfl⟩)
   ·rw[List.getElem?_set_ne (fun h=>b h.symm)] at g;obtain⟨G,H,I,J,K⟩:=hi.aH k z j g a A;refine⟨G,H,I,J,fun to f=>?_⟩;rcases K to f with c|c
    ·rcases MJ.1 c with c|c
     ·have t:=congrArg Prod.fst c;have u:=congrArg Prod.snd c;simp only at t u;exact .inr ⟨d9,by rw[t,u];exact d⟩
     ·exact .inl (List.mem_append_left _ c)
    ·refine .inr ⟨c.1,?_⟩;by_cases U:to.toNat=p.toNat
     ·rw[U,e1] at c;have:=Option.some.inj c.2;omega
     ·rw[List.getElem?_set_ne (fun h=>U h.symm)];exact c.2⟩ (fun z a=>by
   rcases MY.1 a with a|a
   ·exact T z a
   ·obtain⟨w,_,rfl⟩:=MX.1 a;exact⟨O.1,O.2.1⟩)
  refine⟨E,fun k z g a=>?_,fun z a=>?_⟩
  ·by_cases b:k=p.toNat
   ·subst b;rw[e1] at g;cases g;exact absurd a C
   ·exact s k z (by rw[List.getElem?_set_ne (fun h=>b h.symm)];exact g) a
  ·rcases MJ.1 a with rfl|a
   ·exact⟨B,s _ _ d D.1⟩
   ·exact F z (List.mem_append_left _ a)
theorem Dd (m:Me):∀(n:Nat) (h:List Int) (q:List (Int×Int)) (r:List Int×cu),bx m n h q=some (.ret r)->r.2.err≠0
 |0,h,q,r,e=>by cases e
 |n+1,h,[],r,e=>by rw[bx] at e;cases e
 |n+1,h,(p,x)::l,r,e=>by
  rw[bx] at e
  (repeat' split at e)<;>first|(cases e;done)|(cases e;simp;done)|exact Dd m n _ _ r e
def KJ (m:Me):tM m (MM m.code.length (-1)) [(0,0)] :=
 ⟨l9,fun k y i a b _=>by
  rw[List.getElem?_replicate] at a;split at a
  ·cases a;omega
  ·cases a⟩
def De : kn [(0,0)]:=by
 intro q a;simp only[MJ,List.not_mem_nil,or_false] at a;subst a;decide
def dI (w:Wd) (c:Int) (m:Me):List Ins->Nat->H9 cu Unit
 |[],_=>.next ()
 |i::l,k=>if bo w c m i=0 then dI w c m l (k+1) else .ret ⟨bo w c m i,k⟩
theorem pS {w:Wd} {c:Int} {m:Me}:∀{l:List Ins} {k:Nat},dI w c m l k=.next ()->∀i∈l,bo w c m i=0
 |[],_,_,i,hi=>by cases hi
 |x::l,k,h,i,hi=>by
  rw[dI] at h;split at h
  ·rename_i a;rcases MJ.1 hi with rfl|hi
   ·exact a
   ·exact pS h i hi
  ·cases h
theorem Ca {w:Wd} {c:Int} {m:Me}:∀{l:List Ins} {k:Nat} {r:cu},dI w c m l k=.ret r->r.err≠0
 |[],_,_,h=>by cases h
 |x::l,k,r,h=>by
  rw[dI] at h;split at h
  ·exact Ca h
  ·rename_i a;cases h;exact a
def uM {w:Wd} {c:Int} {m:Me} {i:Ins} (h:bo w c m i=0) (e:i.op=14):0<=i.a/\i.a<=4:=by
 unfold bo fb at h;simp only[e] at h;by_cases b:0<=i.a
 ·by_cases d:i.a<5
  ·omega
  ·simp[b,d] at h
 ·simp[b] at h
def aj (N:Nat) (w:Wd) (c:Int) (m:Me):Option cu :=
 if c<0\/(w.a7.length:Int)<=c then some ⟨6,0⟩ else if Y4 m.name=false then some ⟨7,0⟩
 else if m.args<0\/4<m.args\/m.a8<0\/6<m.a8 then some ⟨3,0⟩ else if m.aU≠0 then some ⟨1,0⟩
 else if m.code.length<1\/60<m.code.length then some ⟨5,0⟩ else match dI w c m m.code 0 with
  |.ret r=>some r
  |.next ()=>((bx m N (MM m.code.length (-1)) [(0,0)]).map qa).map (·.2)
theorem zR (N:Nat) (w:Wd) (c:Int) (m:Me) (a:1048578<=N) (b:w.a7.length<=1048576):∀(l:List Ins) (k:Nat),n9 N w c m l k=some (dI w c m l k)
 |[],k=>rfl
 |x::l,k=>by
  rw[n9,dI,FN N w c m x a b];simp only[A0];by_cases h:bo w c m x=0
  ·simp only[h,NA,MK,N4,if_true];exact zR N w c m a b l (k+1)
  ·simp only[h,NB,MU,N3,if_false]
def Az (N:Nat) (w:Wd) (c:Int) (m:Me) (p:1048578<=N) (t:w.a7.length<=1048576):pK N w c m=aj N w c m:=by
 unfold pK aj;simp only[qn,A0,zR N w c m p t];by_cases a:c<0
 ·simp[a]
 by_cases d:(w.a7.length:Int)<=c
 ·simp[a,d]
 cases v:Y4 m.name with
 |false=>simp[a,d]
 |true =>
  by_cases f:m.args<0
  ·simp[a,d,f]
  by_cases g:4<m.args
  ·simp[a,d,f,g]
  by_cases h:m.a8<0
  ·simp[a,d,f,g,h]
  by_cases k:6<m.a8
  ·simp[a,d,f,g,h,k]
  by_cases l:m.aU=0
  ·by_cases n:m.code.length<1
   ·have e:(m.code.length:Int)<1:=d9;simp only[a,d,f,g,h,k,l,n,e,NA,NB,N3,N4,A0,or_self,if_false,MK,MU,or_true,true_or,if_true,ne_eq,not_true,not_false_eq_true,Bool.true_eq_false]
   ·have e:¬(m.code.length:Int)<1:=d9;by_cases j:60<m.code.length
    ·have b:(60:Int)<(m.code.length:Int):=d9;simp only[a,d,f,g,h,k,l,n,e,j,b,NA,NB,N3,N4,A0,or_self,if_false,MK,MU,or_true,true_or,if_true,ne_eq,not_true,not_false_eq_true,Bool.true_eq_false]
    ·have b:¬(60:Int)<(m.code.length:Int):=d9;simp only[a,d,f,g,h,k,l,n,e,j,b,NA,NB,N3,N4,A0,or_self,if_false,MK,MU,ne_eq,not_true,not_false_eq_true,Bool.true_eq_false];cases q:dI w c m m.code 0 with
     |ret r=>rfl
     |next u =>
      simp only[FO N m (fun i hi s=>uM (pS q i hi) s) d9];generalize (bx m N (MM m.code.length (-1)) [(0,0)]).map qa=o;cases o<;>rfl
  ·simp[a,d,f,g,h,k,l]
structure yp (N:Nat) (w:Wd) (c:Int) (m:Me):Prop where
 cls:0<=c/\c<w.a7.length
 name:Y4 m.name=true
 args:0<=m.args/\m.args<=4
 a8:0<=m.a8/\m.a8<=6
 aU:m.aU=0
 len:1<=m.code.length/\m.code.length<=60
 num:∀i∈m.code,bo w c m i=0
 neg:ll m
 bx:∃h,bx m N (MM m.code.length (-1)) [(0,0)]=some (.next h)
def Bv {N:Nat} {w:Wd} {c:Int} {m:Me} {f:cu} (h:aj N w c m=some f) (a:f.err=0):yp N w c m:=by
 unfold aj at h;by_cases g:c<0\/(w.a7.length:Int)<=c
 ·rw[N6 g] at h;cases h;cases a
 rw[N5 g] at h;by_cases j:Y4 m.name=false
 ·rw[N6 j] at h;cases h;cases a
 rw[N5 j] at h;by_cases k:m.args<0\/4<m.args\/m.a8<0\/6<m.a8
 ·rw[N6 k] at h;cases h;cases a
 rw[N5 k] at h;by_cases e:m.aU≠0
 ·rw[N6 e] at h;cases h;cases a
 rw[N5 e] at h;by_cases l:m.code.length<1\/60<m.code.length
 ·rw[N6 l] at h;cases h;cases a
 rw[N5 l] at h;cases b:dI w c m m.code 0 with
 |ret r=>rw[b] at h;cases h;exact absurd a (Ca b)
 |next u =>
  rw[b] at h;simp only at h;refine⟨d9,by cases p:Y4 m.name<;>simp_all,d9,d9,Decidable.byContradiction e,d9,fun i hi=>pS b i hi,fun i hi d=>uM (pS b i hi) d,?_⟩;cases d:Go.Proofs.YtibjcppjfkamhaaGreatDoor.bx m N (MM m.code.length (-1)) [(0,0)] with
  |none=>rw[d] at h;cases h
  |some o =>
   rw[d] at h;cases o with
   |ret r=>cases h;exact absurd a (Dd m _ _ _ _ d)
   |next n=>exact⟨n,rfl⟩
def wv (N:Nat) (w:Wd) (c:Int) (m:Me) (e:4194304<=N):∃f,aj N w c m=some f:=by
 unfold aj
 (repeat' split)<;>first|exact⟨_,rfl⟩|skip
 rename_i d _ _ b;obtain⟨o,a⟩:=vC m (fun i hi a=>uM (pS b i hi) a) N (MM m.code.length (-1)) [(0,0)] l9 De (by rw[uR];simp;omega);rw[a];exact⟨_,rfl⟩
theorem zx (N:Nat) (w:Wd) (c:Int) (m:Me) (a:∀i,M7 N w c m i=some (bo w c m i)):∀(l:List Ins) (k:Nat),kB N w c m l k=some (dI w c m l k)
 |[],k=>rfl
 |x::l,k=>by
  rw[kB,dI,a x];simp only[A0];by_cases h:bo w c m x=0
  ·simp only[h,NA,MK,N4,if_true];exact zx N w c m a l (k+1)
  ·simp only[h,NB,MU,N3,if_false]
def om (N:Nat) (w:Wd) (c:Int) (m:Me) (q:1048578<=N) (x:w.a7.length<=1048576) (p:0<=p8 w c/\p8 w c<=1000000000):kK N w c m=aj N w c m:=by
 unfold kK aj;simp only[kJ,A0];by_cases a:c<0
 ·simp[a]
 by_cases d:(w.a7.length:Int)<=c
 ·simp[a,d]
 cases y:Y4 m.name with
 |false=>simp[a,d]
 |true =>
  by_cases f:m.args<0
  ·simp[a,d,f]
  by_cases g:4<m.args
  ·simp[a,d,f,g]
  by_cases h:m.a8<0
  ·simp[a,d,f,g,h]
  by_cases k:6<m.a8
  ·simp[a,d,f,g,h,k]
  by_cases l:m.aU=0
  ·by_cases n:m.code.length<1
   ·have e:(m.code.length:Int)=0:=d9;simp only[a,d,f,g,h,k,l,n,e,NA,NB,N3,N4,A0,or_self,if_false,MK,MU,or_true,true_or,if_true,ne_eq,not_true,not_false_eq_true,Bool.true_eq_false]
   ·have e:¬(m.code.length:Int)=0:=d9;by_cases j:60<m.code.length
    ·have b:(60:Int)<(m.code.length:Int):=d9;simp only[a,d,f,g,h,k,l,n,e,j,b,NA,NB,N3,N4,A0,or_self,if_false,MK,MU,or_true,true_or,if_true,ne_eq,not_true,not_false_eq_true,Bool.true_eq_false]
    ·have b:¬(60:Int)<(m.code.length:Int):=d9;have t:∀i,M7 N w c m i=some (bo w c m i):=fun i=>AD N w c m i q x d9 d9 d9 p d9;simp only[a,d,f,g,h,k,l,n,e,j,b,NA,NB,N4,A0,or_self,if_false,MK,ne_eq,not_true,Bool.true_eq_false,zx N w c m t];cases s:dI w c m m.code 0 with
     |ret r=>rfl
     |next u =>
      simp only[AB N m (fun i hi v=>uM (pS s i hi) v) d9];generalize (bx m N (MM m.code.length (-1)) [(0,0)]).map qa=o;cases o<;>rfl
  ·simp[a,d,f,g,h,k,l]
def Fo (N:Nat) {l:List Ins} (h:l.length<=1048576):tt N l=some l:=by
 unfold tt;rw[F9 d9];rfl
def uU (N:Nat) (m:Me) (h:m.code.length<=1048576):lN N m=some m:=by
 unfold lN;rw[Fo N h];rfl
theorem zc (N:Nat):∀(l:List Me) (k:Nat) (a:List Me),(∀m∈l,m.code.length<=1048576)->a.length+l.length<=1048576->lP N l k a=some (a++l)
 |[],k,a,_,_=>by simp[lP]
 |x::l,k,a,h,hl=>by
  rw[lP,uU N x (h x l9)];simp only[A0];rw[F9 (by simp at hl⊢;omega)];simp only[N3];rw[zc N l (k+1) _ (fun o b=>h o (by simp[b])) (by simp at hl⊢;omega)];simp
theorem zZ (N:Nat):∀(l:List Cl) (k:Nat) (a:List Cl),(∀x∈l,x.aC.length<=1048576/\∀m∈x.aC,m.code.length<=1048576)->a.length+l.length<=1048576->lS N l k a=some (a++l)
 |[],k,a,_,_=>by simp[lS]
 |x::l,k,a,h,hl=>by
  have b:=h x l9;rw[lS,zc N x.aC 0 [] b.2 (by simpa using b.1)];simp only[A0,List.nil_append];rw[F9 (by simp at hl⊢;omega)];simp only[N3];rw[zZ N l (k+1) _ (fun o c=>h o (by simp[c])) (by simp at hl⊢;omega)];simp
def ic (N:Nat) (w:Wd) (h:D7 w):gd N w=some w:=by
 unfold gd;rw[ra N h.2.2.2 h.2.1];simp only[A0];rw[zZ N w.a7 0 [] h.2.2.1 (by simpa using h.1)];rfl
theorem A5 (N:Nat):∀(l:List Me) (k:Nat) (a:List Me),(∀m∈l,m.code.length<=1048576)->a.length+l.length<=1048576->lD N l k a=some (a++l)
 |[],k,a,_,_=>by simp[lD]
 |x::l,k,a,h,hl=>by
  rw[lD,uU N x (h x l9)];simp only[A0];rw[F9 (by simp at hl⊢;omega)];simp only[N3];rw[A5 N l (k+1) _ (fun o b=>h o (by simp[b])) (by simp at hl⊢;omega)];simp
theorem AA (N:Nat):∀(l:List Cl) (k:Nat) (a:List Cl),(∀x∈l,x.aC.length<=1048576/\∀m∈x.aC,m.code.length<=1048576)->a.length+l.length<=1048576->lF N l k a=some (a++l)
 |[],k,a,_,_=>by simp[lF]
 |x::l,k,a,h,hl=>by
  have b:=h x l9;rw[lF,A5 N x.aC 0 [] b.2 (by simpa using b.1)];simp only[A0,List.nil_append];rw[F9 (by simp at hl⊢;omega)];simp only[N3];rw[AA N l (k+1) _ (fun o c=>h o (by simp[c])) (by simp at hl⊢;omega)];simp
def GX (N:Nat) (w:Wd) (h:D7 w):sA N w=some w:=by
 unfold sA;rw[ra N h.2.2.2 h.2.1];simp only[A0];rw[AA N w.a7 0 [] h.2.2.1 (by simpa using h.1)];rfl
theorem A8 (N:Nat):∀(l:List Me) (k:Nat) (a:List Me),(∀m∈l,m.code.length<=1048576)->a.length+l.length<=1048576->lE N l k a=some (a++l)
 |[],k,a,_,_=>by simp[lE]
 |x::l,k,a,h,hl=>by
  rw[lE,uU N x (h x l9)];simp only[A0];rw[F9 (by simp at hl⊢;omega)];simp only[N3];rw[A8 N l (k+1) _ (fun o b=>h o (by simp[b])) (by simp at hl⊢;omega)];simp
theorem AE (N:Nat):∀(l:List Cl) (k:Nat) (a:List Cl),(∀x∈l,x.aC.length<=1048576/\∀m∈x.aC,m.code.length<=1048576)->a.length+l.length<=1048576->lG N l k a=some (a++l)
 |[],k,a,_,_=>by simp[lG]
 |x::l,k,a,h,hl=>by
  have b:=h x l9;rw[lG,A8 N x.aC 0 [] b.2 (by simpa using b.1)];simp only[A0,List.nil_append];rw[F9 (by simp at hl⊢;omega)];simp only[N3];rw[AE N l (k+1) _ (fun o c=>h o (by simp[c])) (by simp at hl⊢;omega)];simp
def GR (N:Nat) (w:Wd) (h:D7 w):rp N w=some w:=by
 unfold rp;rw[ra N h.2.2.2 h.2.1];simp only[A0];rw[AE N w.a7 0 [] h.2.2.1 (by simpa using h.1)];rfl
structure Cf where
 heap:List Ob
 sends:Int
 turns:Int
 fs:List j3
 back:V
 err:Int
 ev:List (St×Int)
def cC (f:j3) (v:V):j3:={ f with aA:=f.aA++[v] }
def cN (f:j3):Option (V×j3):=f.aA.getLast?.map fun v=>(v,{ f with aA:=f.aA.dropLast })
def V4 (c:Cf) (e:Int):Cf:={ c with err:=e }
def dG (c:Cf) (v:V):Cf:=match c.fs with
 |[]=>{ c with back:=v }
 |f::F=>{ c with fs:=cC f v::F }
def fh (Q:Int->Int->Fs×Bool) (k j:Int) (m:Me) (self:V) (args:List V):j3 :=
 if(Q k j).2=true then⟨k,j,true,(Q k j).1.code,self,args,MM (Q k j).1.a8.toNat ⟨0,0⟩,[],0⟩
 else⟨k,j,false,m.code,self,args,MM m.a8.toNat ⟨0,0⟩,[],0⟩
def fg (w:Wd) (fuel:Int) (Q:Int->Int->Fs×Bool) (c:Cf) (k j:Int) (self:V) (args:List V):Option Cf :=
 (j4 w.a7 k).bind fun x=>(j4 x.aC j).bind fun m =>
  if m.args≠args.length then some (V4 c 8)
  else if m.aU≠0 then
   if fuel<=c.sends then some (V4 c 13) else(j4 args 0).bind fun a =>
    if(eg m.aU self a).2≠0 then some (V4 { c with sends:=c.sends+1 } (eg m.aU self a).2) else some (dG { c with sends:=c.sends+1 } (eg m.aU self a).1)
  else if fuel<=c.sends then some (V4 c 13)
  else if 20<=c.fs.length then some (V4 c 14)
  else some { c with sends:=c.sends+1,fs:=fh Q k j m self args::c.fs }
def cS (c:Cf) (f:j3) (F:List j3) (to:Int):Cf :=
 if to<f.aH then { c with turns:=c.turns+1,fs:={ f with aH:=to }::F,err:=if 300<c.turns+1 then 16 else c.err } else { c with fs:={ f with aH:=to }::F }
def S9 (f:j3) (m:Me) (i:Ins) (p:Int):St:=⟨f.aI,m.name,if f.aV=true then i.c else p⟩
def kW (w:Wd) (fuel:Int) (L:St->Int->ByteArray->Int×Int) (Q:Int->Int->Fs×Bool) (c:Cf) (f:j3) (F:List j3) (i:Ins) (p:Int):Option Cf :=
 if 0<=i.a/\i.a<f.aA.length then
  (f.aA[f.aA.length-i.a.toNat-1]?).bind fun x=>(j4 w.a7 f.aI).bind fun cl=>(j4 cl.aC f.aK).bind fun m =>
   if(L (S9 f m i p) (H5 c.heap x) i.name).2<0 then
    some (V4 { c with fs:=f::F,ev:=c.ev++[((S9 f m i p),H5 c.heap x)] } 10)
   else fg w fuel Q { c with fs:={ f with aA:=f.aA.take (f.aA.length-i.a.toNat-1) }::F,ev:=c.ev++[((S9 f m i p),H5 c.heap x)] }
    (L (S9 f m i p) (H5 c.heap x) i.name).1 (L (S9 f m i p) (H5 c.heap x) i.name).2 x (f.aA.drop (f.aA.length-i.a.toNat))
 else none
def ly (w:Wd) (c:Cf) (f:j3) (F:List j3) (i:Ins):Option Cf :=
 if 0<=i.b/\i.b<f.aA.length then
  (f.aA[f.aA.length-1-i.b.toNat]?).bind fun x=>if H5 c.heap x=i.a then some { c with fs:=f::F } else
   (j4 w.a7 f.aI).bind fun cl=>(j4 cl.aC f.aK).bind fun m =>
    if 0<=m.a8/\m.a8<=f.a8.length then some { c with fs:={ f with aV:=false,code:=m.code,a8:=f.a8.take m.a8.toNat,aH:=i.c }::F } else none
 else none
def jr (h:List Ob) (o:V) (n:Int) (v:V):Option (List Ob) :=
 if o.k=4 then(if 0<=o.n then(match h[o.n.toNat]? with
  |none=>some h
  |some b=>if n<b.aG.length then(if 0<=n then some (h.set o.n.toNat ⟨b.cls,b.aG.set n.toNat v⟩) else none) else some h) else none) else some h
def ka (w:Wd) (c:Cf) (f:j3) (F:List j3) (i:Ins):Option Cf :=
 if i.op=1 then some { c with fs:=cC f f.aQ::F }
 else if i.op=2 then(j4 f.args i.a).map fun v=>{ c with fs:=cC f v::F }
 else if i.op=3 then(j4 f.a8 i.a).map fun v=>{ c with fs:=cC f v::F }
 else if i.op=4 then some { c with fs:=cC f (lZ c.heap f.aQ i.a)::F }
 else if i.op=5 then some { c with fs:=cC f ⟨3,i.a⟩::F }
 else if i.op=6 then some { c with fs:=cC f ⟨0,0⟩::F }
 else if i.op=7 then some { c with fs:=cC f ⟨1,0⟩::F }
 else if i.op=8 then some { c with fs:=cC f ⟨2,0⟩::F }
 else if i.op=9 then(cN f).map fun p=>{ c with fs:=p.2::F }
 else if i.op=10 then f.aA.getLast?.map fun v=>{ c with fs:=cC f v::F }
 else if i.op=11 then(cN f).bind fun p=>if 0<=i.a/\i.a<f.a8.length then some { c with fs:={ p.2 with a8:=f.a8.set i.a.toNat p.1 }::F } else none
 else if i.op=12 then(cN f).bind fun p=>(jr c.heap f.aQ i.a p.1).map fun h=>{ c with heap:=h,fs:=p.2::F }
 else if i.op=19 then(j4 f.a8 i.a).map fun t=>{ c with fs:=cC f (lZ c.heap t i.b)::F }
 else if i.op=20 then(j4 f.a8 i.a).bind fun t=>(cN f).bind fun p=>(jr c.heap t i.b p.1).map fun h=>{ c with heap:=h,fs:=p.2::F }
 else if i.op=13 then(if 60<=c.heap.length then some (V4 { c with fs:=f::F } 15) else some { c with heap:=c.heap++[⟨i.a,MM (p8 w i.a).toNat ⟨0,0⟩⟩],fs:=cC f ⟨4,(c.heap.length:Int)⟩::F })
 else some { c with fs:=f::F }
def iE (fuel:Int) (c:Cf):Cf:=if fuel<=c.sends then V4 c 13 else if 20<=c.fs.length then V4 c 14 else { c with sends:=c.sends+1 }
def kf (c:Cf) (F:List j3) (i:Ins) (p:V×j3):Cf :=
 if p.1.k=1 then cS c p.2 F i.a else if p.1.k=2 then { c with fs:=p.2::F } else V4 { c with fs:=p.2::F } 11
def P8 (w:Wd) (fuel:Int) (L:St->Int->ByteArray->Int×Int) (Q:Int->Int->Fs×Bool) (c:Cf):Option Cf :=
 match c.fs with
 |[]=>none
 |f::F=>(j4 f.code f.aH).bind fun i =>
  if i.op=14 then kW w fuel L Q c { f with aH:=f.aH+1 } F i f.aH
  else if i.op=15 then some (cS c { f with aH:=f.aH+1 } F i.a)
  else if i.op=16 then(cN { f with aH:=f.aH+1 }).map (kf c F i)
  else if i.op=17 then(cN { f with aH:=f.aH+1 }).map fun p=>dG { c with fs:=F } p.1
  else if i.op=18 then ly w c { f with aH:=f.aH+1 } F i
  else if i.op=21 then some (iE fuel { c with fs:={ f with aH:=f.aH+1 }::F })
  else ka w c { f with aH:=f.aH+1 } F i
theorem C7 (w:Wd) (H:List Ob) (e:Int):∀(n:Nat) (c:Int),bf ⟨w.a7,H,e⟩ n c=bf w n c
 |0,_=>rfl
 |n+1,c=>by
  unfold bf;simp only[C7 w H e n]
def pC (w:Wd) (H:List Ob) (e:Int) (c:Int):p8 ⟨w.a7,H,e⟩ c=p8 w c:=by
 unfold p8;simp only[C7]
theorem AX (w:Wd) (H:List Ob) (e:Int) (s:ByteArray):∀(n:Nat) (c:Int),X3 ⟨w.a7,H,e⟩ s n c=X3 w s n c
 |0,_=>rfl
 |n+1,c=>by
  unfold X3;simp only[AX w H e s n]
def Ab (w:Wd) (H:List Ob) (e:Int) (s:ByteArray) (c:Int):l7 ⟨w.a7,H,e⟩ s c=l7 w s c:=by
 unfold l7;simp only[AX]
theorem iP (v:V):(⟨v.k,v.n⟩:V)=v:=rfl
def tF {f:j3} {F:List j3} (h:F.length<=1000):wr (((f::F).reverse.length:Int)-1)=(F.length:Int):=by
 rw[u7 (by unfold I4;simp;omega)];simp
def cv (f:j3) (F:List j3):(f::F).reverse[F.length]?=some f:=by
 rw[List.reverse_cons,Mf l9];simp
def yO (f:j3) (F:List j3):j4 (f::F).reverse (F.length:Int)=some f:=by rw[D5,cv]
def eJ (f g:j3) (F:List j3):(f::F).reverse.set F.length g=(g::F).reverse:=by
 rw[List.reverse_cons,List.set_append_right (h:=by simp)];simp
def Cz (f:j3) (F:List j3):(f::F).reverse.take F.length=F.reverse:=by
 rw[List.reverse_cons,List.take_left' l9]
def L0 (f:j3) (F:List j3):¬(((f::F).reverse.length:Int)=0):=L9
section
variable {N:Nat} {cl:List Cl} {H:List Ob} {ep fuel sends turns err:Int} {back:V}
def ir (fr:List j3) (e:Int):F4 N ⟨⟨cl,H,ep⟩,fuel,sends,turns,fr,back,0⟩ e=some ⟨⟨cl,H,ep⟩,fuel,sends,turns,fr,back,e⟩:=by
 simp[F4]
def xo (fr:List j3) (b:Bool) (f:-1000000<=sends/\sends<=1000000):M9 N ⟨⟨cl,H,ep⟩,fuel,sends,turns,fr,back,0⟩ b =
  some (if fuel<=sends then(false,⟨⟨cl,H,ep⟩,fuel,sends,turns,fr,back,13⟩) else if b=true/\20<=fr.length then(false,⟨⟨cl,H,ep⟩,fuel,sends,turns,fr,back,14⟩) else(true,⟨⟨cl,H,ep⟩,fuel,sends+1,turns,fr,back,0⟩)):=by
 have e:wr (sends+1)=sends+1:=u7 ino;unfold M9;simp only[ir,e];by_cases c:fuel<=sends
 ·simp only[c,NA,N3,if_true,A0]
 ·by_cases d:20<=fr.length
  ·have a:(20:Int)<=(fr.length:Int):=d9;cases b<;>simp[c,d,a]
  ·have a:¬(20:Int)<=(fr.length:Int):=d9;cases b<;>simp[c,d,a]
def Km (F:List j3) (v:V) (a:F.length<=1000) (b:∀f∈F,f.aA.length<=1000):Q6 N ⟨⟨cl,H,ep⟩,fuel,sends,turns,F.reverse,back,err⟩ v =
  some (match F with
   |[]=>⟨⟨cl,H,ep⟩,fuel,sends,turns,[],v,err⟩
   |f::G=>⟨⟨cl,H,ep⟩,fuel,sends,turns,(cC f v::G).reverse,back,err⟩):=by
 unfold Q6;cases F with
 |nil=>simp
 |cons f G =>
  have hl:f.aA.length<=1000:=b f l9;simp only[tF (show G.length<=1000 by simp at a;omega),yO,Mk,eJ,A0];rw[F9 L9,NC (L0 f G)];rfl
end
structure bz (f:j3):Prop where
 aA:f.aA.length<=1000
 code:f.code.length<=1000
 num:∀v∈f.aA,v.k=3->gL v.n
structure Wk (w:Wd) (Q:Int->Int->Fs×Bool) (c:Cf):Prop where
 cls:w.a7.length<=1048576
 ak:∀x∈w.a7,∀m∈x.aC,0<=m.a8/\m.a8<=1000
 aG:∀k,0<=p8 w k/\p8 w k<=1000
 quick:∀k j,(Q k j).2=true->0<=(Q k j).1.a8/\(Q k j).1.a8<=1000
 heap:c.heap.length<=1000/\∀o∈c.heap,o.aG.length<=1000
 fs:c.fs.length<=900
 fr:∀f∈c.fs,bz f
 sends:-1000000<=c.sends/\c.sends<=100000
 turns:-1000000<=c.turns/\c.turns<=100000
def Cf.toM (w:Wd) (fuel:Int) (c:Cf):D8:=⟨⟨w.a7,c.heap,w.aB⟩,fuel,c.sends,c.turns,c.fs.reverse,c.back,c.err⟩
def eG {a:Type} {l:List a} {i:Int} {x:a} (h:j4 l i=some x):x∈l:=MT (l6 h).2
def xl {w:Wd} {fuel:Int} {N:Nat} (c:Cf) (v:V) (a:c.fs.length<=1000) (d:∀f∈c.fs,f.aA.length<=1000) :
  Q6 N (c.toM w fuel) v=some ((dG c v).toM w fuel):=by
 obtain⟨h,s,t,fs,b,e,ev⟩:=c;unfold Cf.toM;rw[Km fs v a d];cases fs<;>rfl
section
variable {w:Wd} {fuel:Int} {N:Nat} {gl:St->Int->ByteArray->Option (Int×Int)} {gq:Int->Int->Option (Fs×Bool)} {L:St->Int->ByteArray->Int×Int} {Q:Int->Int->Fs×Bool}
def vD (r:∀k j x m,j4 w.a7 k=some x->j4 x.aC j=some m->gq k j=some (Q k j))
  (G:∀x∈w.a7,∀m∈x.aC,0<=m.a8/\m.a8<=1000) (B:∀k j,(Q k j).2=true->0<=(Q k j).1.a8/\(Q k j).1.a8<=1000)
  (c:Cf) (A:c.err=0) (C:-1000000<=c.sends/\c.sends<=1000000) (y:c.fs.length<=1000) (i:∀f∈c.fs,f.aA.length<=1000) (k j:Int) (self:V) (args:List V)
  (E:self.k=3->gL self.n) (F:∀v∈args,v.k=3->gL v.n) (K:args.length<=1000) (c':Cf) (h:fg w fuel Q c k j self args=some c') :
  N7 N (c.toM w fuel) gq k j self args=some (c'.toM w fuel):=by
 obtain⟨J,s,t,fs,b,e,ev⟩:=c;simp only at A C y i;subst A;unfold fg at h;obtain⟨x,u,h⟩:=M6 h;obtain⟨m,g,h⟩:=M6 h;have I:=G x (eG u) m (eG g);unfold N7 Cf.toM;simp only[u,g,A0,ir,xo fs.reverse _ C];simp only at h;by_cases g1:m.args=args.length
 ·rw[N5 (by simpa using g1)] at h;rw[ND g1];simp only[MK,N4];by_cases l:m.aU=0
  ·rw[N5 (by simpa using l)] at h;rw[ND l];simp only[MK,N4];by_cases d:fuel<=s
   ·rw[N6 d] at h;cases h;simp only[d,if_true,MU,N3];rfl
   ·rw[N5 d] at h;by_cases o:20<=fs.length
    ·rw[N6 o] at h;cases h;simp only[d,List.length_reverse,o,and_self,if_true,if_false,MU,N3];rfl
    ·rw[N5 o] at h;cases h;have e1:(decide (0<=m.a8) && decide (m.a8<=140737488355328) && decide (m.a8*16<=140737488355328))=true:=by
      simp only[IT,NF];omega
     simp only[d,List.length_reverse,o,and_false,if_false,MK,N4,uB N (show args.length<=1048576 by omega),A0,r k j x m u g,e1,N3];cases q:(Q k j).2 with
     |true =>
      have B:=B k j q;have D:(decide (0<=(Q k j).1.a8) && decide ((Q k j).1.a8<=140737488355328) && decide ((Q k j).1.a8*16<=140737488355328))=true:=by
       simp only[IT,NF];omega
      simp only[D,N3,A0];rw[F9 L9];simp only[N3,fh,q,if_true,List.reverse_cons]
     |false =>
      simp only[N4,A0];rw[F9 L9];simp only[N3,fh,q,Mp,if_false,List.reverse_cons]
  ·rw[N6 (by simpa using l)] at h;rw[NC l];simp only[MU,N3];by_cases d:fuel<=s
   ·rw[N6 d] at h;cases h;simp only[d,if_true,MU,N3];rfl
   ·rw[N5 d] at h;obtain⟨a,z,h⟩:=M6 h;simp only[d,Mp,false_and,if_false,MK,N4,z,A0,Gm N m.aU self a E (F a (eG z)),ir];by_cases p:(eg m.aU self a).2=0
    ·rw[N5 (by simpa using p)] at h;cases h;rw[ND p];simp only[MK,N4];have:=xl (w:=w) (fuel:=fuel) (N:=N) ⟨J,s+1,t,fs,b,0,ev⟩ (eg m.aU self a).1 y i;simp only[Cf.toM] at this;rw[this];cases fs<;>rfl
    ·rw[N6 (by simpa using p)] at h;cases h;rw[NC p];rfl
 ·rw[N6 (by simpa using g1)] at h;cases h;rw[NC g1];rfl
def xz {l:List V} {v:V} (h:l.getLast?=some v) (hl:l.length<=1000):j4 l (wr ((l.length:Int)-1))=some v/\wr ((l.length:Int)-1)=((l.length-1:Nat):Int)/\1<=l.length /\
  (decide (0<=wr ((l.length:Int)-1)) && decide (wr ((l.length:Int)-1)<=(l.length:Int)))=true:=by
 have b:1<=l.length:=by
  cases l with
  |nil=>cases h
  |cons a l=>simp
 have e:wr ((l.length:Int)-1)=((l.length-1:Nat):Int):=by rw[u7 ino];omega
 rw[e];refine⟨?_,rfl,b,by simp only[IT,NF];omega⟩;rw[D5,<-h,List.getLast?_eq_getElem?]
def ij {f:j3} {p:V×j3} (h:cN f=some p):f.aA.getLast?=some p.1/\p.2={ f with aA:=f.aA.dropLast }:=by
 unfold cN at h;rw[MP] at h;obtain⟨v,a,rfl⟩:=h;exact⟨a,rfl⟩
def jh {f:j3} {F:List j3} {p:V×j3} (h:cN f=some p) (hl:f.aA.length<=1000):Z0 N (f::F).reverse F.length=some (p.1,(p.2::F).reverse):=by
 obtain⟨c,d⟩:=ij h;obtain⟨e1,a,e,b⟩:=xz c hl;unfold Z0;rw[cv];simp only[A0,e1,b,N3,eJ,d];rw[a,Mk,List.dropLast_eq_take]
def Bc {f:j3} {F:List j3} {p:V×j3} (h:cN f=some p) (hl:f.aA.length<=1000):oj N (f::F).reverse F.length=some (p.1,(p.2::F).reverse):=by
 obtain⟨c,d⟩:=ij h;obtain⟨e1,a,e,b⟩:=xz c hl;unfold oj;rw[cv];simp only[A0,e1,b,N3,eJ,d];rw[a,Mk,List.dropLast_eq_take]
def lq {f:j3} {F:List j3} (v:V) (hl:f.aA.length<=1000):O0 N v (f::F).reverse F.length=some (cC f v::F).reverse:=by
 unfold O0;rw[cv];simp only[A0,eJ];rw[F9 L9];rfl
def Cv {f:j3} {F:List j3} (v:V) (hl:f.aA.length<=1000):og N v (f::F).reverse F.length=some (cC f v::F).reverse:=by
 unfold og;rw[cv];simp only[A0,eJ];rw[F9 L9];rfl
def Il {f:j3} {F:List j3} (v:V) (s:List V) (hl:s.length<=1000):qs N v s (f::F).reverse F.length=some (s++[v]):=by
 unfold qs;rw[cv];simp only[A0];rw[F9 L9];rfl
def d82 {cl:List Cl} {H j:List Ob} {ep s t e:Int} {fr:List j3} {b:V} {o:V} {n:Int} {v:V} (h:jr H o n v=some j) :
  Z8 N ⟨⟨cl,H,ep⟩,fuel,s,t,fr,b,e⟩ o n v=some ⟨⟨cl,j,ep⟩,fuel,s,t,fr,b,e⟩:=by
 unfold jr at h;unfold Z8;by_cases d:o.k=4
 ·rw[N6 d] at h;by_cases g:0<=o.n
  ·rw[N6 g] at h;cases c:H[o.n.toNat]? with
   |none =>
    rw[c] at h;cases h;have a:¬o.n<(H.length:Int):=by have:=List.getElem?_eq_none_iff.1 c;omega
    simp only[d,a,Option.elim,NA,NB,N3,N4,A0]
   |some x =>
    rw[c] at h;have a:o.n<(H.length:Int):=by have:=(MI.1 c).1;omega
    have l:j4 H o.n=some x:=(by rw[fC g,c]);simp only[l,d,a,Option.elim,NA,N3,A0];simp only at h;by_cases f:n<(x.aG.length:Int)
    ·rw[N6 f] at h;by_cases i:0<=n
     ·rw[N6 i] at h;cases h;obtain⟨y,_,m⟩:=dc i f;simp only[f,m,NA,N3,A0]
     ·rw[N5 i] at h;cases h
    ·rw[N5 f] at h;cases h;simp only[f,NB,N4,A0]
  ·rw[N5 g] at h;cases h
 ·rw[N5 d] at h;cases h;cases c:H[o.n.toNat]?<;>simp only[d,Option.elim,NB,N4,A0]
def vV (c:Cf) (f:j3) (F:List j3) (to:Int) (d:c.err=0) (g:-1000000<=c.turns/\c.turns<=1000000) :
  Q0 N ⟨⟨w.a7,c.heap,w.aB⟩,fuel,c.sends,c.turns,(f::F).reverse,c.back,c.err⟩ F.length to=some ((cS c f F to).toM w fuel):=by
 unfold Q0 cS;have e:wr (c.turns+1)=c.turns+1:=u7 ino;simp only[cv,A0,e,d,ir];by_cases a:to<f.aH
 ·by_cases b:300<c.turns+1
  ·simp only[a,b,NA,N3,A0,if_true,eJ,Cf.toM]
  ·simp only[a,b,NA,NB,N3,N4,A0,if_true,if_false,eJ,Cf.toM]
 ·simp only[a,NB,N4,A0,if_false,eJ,Cf.toM]
def DD (c:Cf) (f:j3) (F:List j3) (i:Ins) (hl:f.aA.length<=1000) {c':Cf} (h:ly w c f F i=some c') :
  V9 N ⟨⟨w.a7,c.heap,w.aB⟩,fuel,c.sends,c.turns,(f::F).reverse,c.back,c.err⟩ F.length i=some (c'.toM w fuel):=by
 unfold ly at h;by_cases j:0<=i.b/\i.b<f.aA.length
 ·rw[N6 j] at h;obtain⟨x,n,h⟩:=M6 h;have e1:wr ((f.aA.length:Int)-1)=(f.aA.length:Int)-1:=u7 ino;have k:wr ((f.aA.length:Int)-1-i.b)=((f.aA.length-1-i.b.toNat:Nat):Int):=by rw[u7 ino];omega
  unfold V9;simp only[cv,A0,e1,k,D5,n,rG];by_cases d:H5 c.heap x=i.a
  ·rw[N6 d] at h;cases h;simp only[d,NA,N3,Cf.toM]
  ·rw[N5 d] at h;obtain⟨cl,g,h⟩:=M6 h;obtain⟨m,l,h⟩:=M6 h;simp only[d,NB,N4,g,l,A0];by_cases e:0<=m.a8/\m.a8<=f.a8.length
   ·rw[N6 e] at h;cases h;simp only[e.1,e.2,NA,Bool.and_self,N3,eJ,Cf.toM]
   ·rw[N5 e] at h;cases h
 ·rw[N5 j] at h;cases h
def sG (c:Cf) (v:V):(dG c v).heap=c.heap:=by
 unfold dG;split<;>rfl
def pO {c c':Cf} {k j:Int} {self:V} {args:List V} (h:fg w fuel Q c k j self args=some c'):∃x m,j4 w.a7 k=some x/\j4 x.aC j=some m /\
  ((m.args≠args.length/\c'=V4 c 8)\/(m.args=args.length/\fuel<=c.sends/\c'=V4 c 13) \/
   (m.args=args.length/\c.sends<fuel/\m.aU≠0/\∃a,j4 args 0=some a/\(((eg m.aU self a).2≠0/\c'=V4 { c with sends:=c.sends+1 } (eg m.aU self a).2) \/
    ((eg m.aU self a).2=0/\c'=dG { c with sends:=c.sends+1 } (eg m.aU self a).1))) \/
   (m.args=args.length/\c.sends<fuel/\m.aU=0/\20<=c.fs.length/\c'=V4 c 14) \/
   (m.args=args.length/\c.sends<fuel/\m.aU=0/\c.fs.length<20/\c'={ c with sends:=c.sends+1,fs:=fh Q k j m self args::c.fs })):=by
 unfold fg at h;obtain⟨x,l,h⟩:=M6 h;obtain⟨m,i,h⟩:=M6 h;refine⟨x,m,l,i,?_⟩;by_cases d:m.args=args.length
 ·rw[N5 (by simpa using d)] at h;refine .inr ?_;by_cases f:fuel<=c.sends
  ·refine .inl ⟨d,f,?_⟩;rw[N6 f,N6 f] at h;split at h<;>(cases h;rfl)
  refine .inr ?_;rw[N5 f,N5 f] at h;by_cases e:m.aU=0
  ·rw[N5 (by simpa using e)] at h;refine .inr ?_;by_cases b:20<=c.fs.length
   ·rw[N6 b] at h;cases h;exact .inl ⟨d,d9,e,b,rfl⟩
   ·rw[N5 b] at h;cases h;exact .inr ⟨d,d9,e,d9,rfl⟩
  ·rw[N6 (by simpa using e)] at h;obtain⟨a,g,h⟩:=M6 h;refine .inl ⟨d,d9,e,a,g,?_⟩;by_cases b:(eg m.aU self a).2=0
   ·rw[N5 (by simpa using b)] at h;cases h;exact .inr ⟨b,rfl⟩
   ·rw[N6 (by simpa using b)] at h;cases h;exact .inl ⟨b,rfl⟩
 ·rw[N6 (by simpa using d)] at h;cases h;exact .inl ⟨d,rfl⟩
def ru {c c':Cf} {k j:Int} {self:V} {args:List V} (h:fg w fuel Q c k j self args=some c'):c'.heap=c.heap:=by
 obtain⟨x,m,_,_,h|h|⟨_,_,_,a,_,h|h⟩|h|h⟩:=pO h
 ·rw[h.2];rfl
 ·rw[h.2.2];rfl
 ·rw[h.2];rfl
 ·rw[h.2];exact sG _ _
 ·rw[h.2.2.2.2];rfl
 ·rw[h.2.2.2.2]
def pR {c c':Cf} {f:j3} {F:List j3} {i:Ins} {p:Int} (h:kW w fuel L Q c f F i p=some c'):∃x cl m,0<=i.a/\i.a<f.aA.length/\f.aA[f.aA.length-i.a.toNat-1]?=some x /\
  j4 w.a7 f.aI=some cl/\j4 cl.aC f.aK=some m /\
  (((L (S9 f m i p) (H5 c.heap x) i.name).2<0/\c'=V4 { c with fs:=f::F,ev:=c.ev++[(S9 f m i p,H5 c.heap x)] } 10) \/
   (0<=(L (S9 f m i p) (H5 c.heap x) i.name).2/\fg w fuel Q { c with fs:={ f with aA:=f.aA.take (f.aA.length-i.a.toNat-1) }::F,ev:=c.ev++[(S9 f m i p,H5 c.heap x)] }
    (L (S9 f m i p) (H5 c.heap x) i.name).1 (L (S9 f m i p) (H5 c.heap x) i.name).2 x (f.aA.drop (f.aA.length-i.a.toNat))=some c')):=by
 unfold kW at h;by_cases b:0<=i.a/\i.a<f.aA.length
 ·rw[N6 b] at h;obtain⟨x,j,h⟩:=M6 h;obtain⟨cl,e,h⟩:=M6 h;obtain⟨m,g,h⟩:=M6 h;refine⟨x,cl,m,b.1,b.2,j,e,g,?_⟩;by_cases d:(L (S9 f m i p) (H5 c.heap x) i.name).2<0
  ·rw[N6 d] at h;cases h;exact .inl ⟨d,rfl⟩
  ·rw[N5 d] at h;exact .inr ⟨d9,h⟩
 ·rw[N5 b] at h;cases h
def AO {c c':Cf} {f:j3} {F:List j3} {i:Ins} {p:Int} (h:kW w fuel L Q c f F i p=some c'):c'.heap=c.heap:=by
 obtain⟨x,cl,m,_,_,_,_,_,h|h⟩:=pR h
 ·rw[h.2];rfl
 ·exact(ru h.2).trans rfl
def Ki (q:∀s k n,gl s k n=some (L s k n)) (r:∀k j x m,j4 w.a7 k=some x->j4 x.aC j=some m->gq k j=some (Q k j))
  (c:Cf) (W:Wk w Q c) (e:c.err=0) (f:j3) (F:List j3) (l:bz f) (B:∀f∈F,bz f) (C:F.length<=899) (i:Ins) (p:Int) {c':Cf} (h:kW w fuel L Q c f F i p=some c') :
  ml N ⟨⟨w.a7,c.heap,w.aB⟩,fuel,c.sends,c.turns,(f::F).reverse,c.back,c.err⟩ gl gq F.length i p=some (c'.toM w fuel):=by
 obtain⟨x,cl,m,J,K,u,d,E,h⟩:=pR h;have hl:=l.aA;have e1:wr ((f.aA.length:Int)-i.a)=((f.aA.length-i.a.toNat:Nat):Int):=by rw[u7 ino];omega
 have A:wr (((f.aA.length-i.a.toNat:Nat):Int)-1)=((f.aA.length-i.a.toNat-1:Nat):Int):=by rw[u7 ino];omega
 have y:(decide ((0:Int)<=((f.aA.length-i.a.toNat:Nat):Int)) && decide (((f.aA.length-i.a.toNat:Nat):Int)<=(f.aA.length:Int)))=true:=by simp only[IT,NF];omega
 have z:(decide ((0:Int)<=((f.aA.length-i.a.toNat-1:Nat):Int)) && decide (((f.aA.length-i.a.toNat-1:Nat):Int)<=(f.aA.length:Int)))=true:=by simp only[IT,NF];omega
 have b:((bif f.aV then some i.c else some p):Option Int)=some (S9 f m i p).pos:=by unfold S9;cases f.aV<;>rfl
 have G:(⟨f.aI,m.name,(S9 f m i p).pos⟩:St)=S9 f m i p:=rfl;unfold ml;simp only[cv,A0,e1,A,y,z,N3,Mk,D5,u,d,E,rG,q,b,G,e,ir,eJ,
  uB N (show(f.aA.drop (f.aA.length-i.a.toNat)).length<=1048576 by simp;omega)]
 rcases h with⟨t,rfl⟩|⟨t,h⟩
 ·simp only[t,NA,N3];rfl
 ·rw[NC d9];simp only[N4];have:=vD (N:=N) r W.ak W.quick _ (by exact e) (by have:=W.sends;exact⟨this.1,bK⟩) L9 (fun g o=>by
    rcases MJ.1 o with rfl|o
    ·simp;omega
    ·exact(B g o).aA) _ _ x _ (l.num x (MT u)) (fun v I=>l.num v (List.mem_of_mem_drop I)) L9 c' h
  simp only[Cf.toM,e] at this;rw[this];simp only[A0,Cf.toM];have D:c'.heap=c.heap:=(ru h).trans rfl;rw[D]
def DV (c:Cf) (W:Wk w Q c) (O:1048578<=N) (P:c.err=0) (f:j3) (F:List j3) (R:bz f) (i:Ins) {c':Cf} (h:ka w c f F i=some c') :
  Y1 N ⟨⟨w.a7,c.heap,w.aB⟩,fuel,c.sends,c.turns,(f::F).reverse,c.back,c.err⟩ F.length i=some (c'.toM w fuel):=by
 have hl:=R.aA;unfold ka at h;unfold Y1;by_cases u:i.op=1
 ·rw[N6 u] at h;cases h;simp only[u,cv,lq _ hl,NA,N3,A0,iP];rfl
 rw[N5 u] at h;by_cases x:i.op=2
 ·rw[N6 x] at h;rw[MP] at h;obtain⟨v,r,rfl⟩:=h;simp only[x,r,cv,lq _ hl,NA,N3,A0];rfl
 rw[N5 x] at h;by_cases z:i.op=3
 ·rw[N6 z] at h;rw[MP] at h;obtain⟨v,r,rfl⟩:=h;simp only[z,r,cv,eJ,Cv _ hl,NA,N3,A0];rfl
 rw[N5 z] at h;by_cases A:i.op=4
 ·rw[N6 A] at h;cases h;simp only[A,cv,B3,lq _ hl,NA,N3,A0];rfl
 rw[N5 A] at h;by_cases B:i.op=5
 ·rw[N6 B] at h;cases h;simp only[B,cv,lq _ hl,NA,N3,A0];rfl
 rw[N5 B] at h;by_cases C:i.op=6
 ·rw[N6 C] at h;cases h;simp only[C,cv,lq _ hl,NA,N3,A0];rfl
 rw[N5 C] at h;by_cases D:i.op=7
 ·rw[N6 D] at h;cases h;simp only[D,cv,wU,lq _ hl,NA,N3,A0];rfl
 rw[N5 D] at h;by_cases E:i.op=8
 ·rw[N6 E] at h;cases h;simp only[E,cv,wU,lq _ hl,NA,A0];rfl
 rw[N5 E] at h;by_cases G:i.op=9
 ·rw[N6 G] at h;rw[MP] at h;obtain⟨q,p,rfl⟩:=h;simp only[G,cv,jh p hl,NA,N3,A0];rfl
 rw[N5 G] at h;by_cases g:i.op=10
 ·rw[N6 g] at h;rw[MP] at h;obtain⟨v,r,rfl⟩:=h;obtain⟨e1,X,Y,Z⟩:=xz r hl;simp only[g,cv,eJ,e1,Il _ _ hl,NA,N3,A0];rfl
 rw[N5 g] at h;by_cases j:i.op=11
 ·rw[N6 j] at h;obtain⟨q,p,h⟩:=M6 h;by_cases I:0<=i.a/\i.a<f.a8.length
  ·rw[N6 I] at h;cases h;obtain⟨y,_,T⟩:=dc I.1 I.2;simp only[j,T,cv,eJ,Bc p hl,NA,N3,A0];rfl
  ·rw[N5 I] at h;cases h
 rw[N5 j] at h;by_cases k:i.op=12
 ·rw[N6 k] at h;obtain⟨q,p,h⟩:=M6 h;rw[MP] at h;obtain⟨M,J,rfl⟩:=h;have hs:q.2.aQ=f.aQ:=by rw[(ij p).2]
  simp only[k,cv,eJ,jh p hl,d82 J,NA,N3,A0];rfl
 rw[N5 k] at h;by_cases m:i.op=19
 ·rw[N6 m] at h;rw[MP] at h;obtain⟨v,r,rfl⟩:=h;simp only[m,r,cv,eJ,B3,Cv _ hl,NA,N3,A0];rfl
 rw[N5 m] at h;by_cases n:i.op=20
 ·rw[N6 n] at h;obtain⟨tv,K,h⟩:=M6 h;obtain⟨q,p,h⟩:=M6 h;rw[MP] at h;obtain⟨M,J,rfl⟩:=h;obtain⟨qv,U⟩:=q;obtain rfl:U={ f with aA:=f.aA.dropLast }:=(ij p).2;simp only[n,K,cv,eJ,Bc p hl,d82 J,NA,N3,A0];rfl
 rw[N5 n] at h;by_cases d:i.op=13
 ·rw[N6 d] at h;have t:=W.aG i.a;have b:=HH N (l:=c.heap) i.a (p8 w i.a) (fun o S=>by have:=W.heap.2 o S;omega) (by have:=W.heap.1;omega) t.1 t.2;have e:iI N (⟨w.a7,c.heap,w.aB⟩:Wd) i.a=some (p8 w i.a):=(oq N ⟨w.a7,c.heap,w.aB⟩ i.a O W.cls).trans (by rw[pC w c.heap w.aB i.a]);by_cases s:60<=c.heap.length
  ·rw[N6 s] at h b;cases h;simp only[d,e,b,P,ir,show((15:Int)=0)=False by decide,MU,NA,NB,N3,A0];rfl
  ·rw[N5 s] at h b;cases h;simp only[d,e,b,lq _ hl,MK,NA,N3,N4,A0];rfl
 rw[N5 d] at h;cases h;simp only[u,x,z,A,B,C,D,E,G,g,j,k,m,n,d,NB,N4,A0,iP];rfl
def KI (R:1048578<=N) (G:∀s k n,gl s k n=some (L s k n)) (I:∀k j x m,j4 w.a7 k=some x->j4 x.aC j=some m->gq k j=some (Q k j))
  (c:Cf) (W:Wk w Q c) (v:c.err=0) {c':Cf} (h:P8 w fuel L Q c=some c'):mn N (c.toM w fuel) gl gq=some (c'.toM w fuel):=by
 unfold P8 at h;cases o:c.fs with
 |nil=>rw[o] at h;cases h
 |cons f F =>
  rw[o] at h;obtain⟨i,hi,h⟩:=M6 h;have u:=W.fs;rw[o] at u;simp only[MO] at u;have z:bz f:=W.fr f (by rw[o];simp);have M:∀g∈F,bz g:=fun g A=>W.fr g (by rw[o];simp[A]);have U:=fX hi;have bj:=z.code;have wp:wr (f.aH+1)=f.aH+1:=u7 ino;have T:=tF (f:=f) (F:=F) d9;generalize A:({ f with aH:=f.aH+1 }:j3)=g at h;have d:g.aA.length<=1000:=by rw[<-A];exact z.aA
  have C:bz g:=by rw[<-A];exact⟨z.aA,z.code,z.num⟩
  unfold mn Cf.toM;have P:∀(x:Cf),(⟨⟨w.a7,x.heap,w.aB⟩,fuel,x.sends,x.turns,x.fs.reverse,⟨x.back.k,x.back.n⟩,x.err⟩:D8)=x.toM w fuel:=fun x=>rfl;simp only[o,T,wp,yO,hi,A0,Mk,eJ,A];by_cases e:i.op=14
  ·rw[N6 e] at h;have:=Ki (gl:=gl) (N:=N) G I c W v g F C M d9 i f.aH h;have J:=AO h;simp only[e,this,NA,N3,A0,Cf.toM,iP,J]
  rw[N5 e] at h;by_cases l:i.op=15
  ·rw[N6 l] at h;cases h;have:=vV (w:=w) (fuel:=fuel) (N:=N) c g F i.a v (by have:=W.turns;omega);simp only[l,this,NA,N3,A0,Cf.toM];unfold cS;split<;>rfl
  rw[N5 l] at h;by_cases b:i.op=16
  ·rw[N6 b] at h;rw[MP] at h;obtain⟨q,D,rfl⟩:=h;have:=vV (w:=w) (fuel:=fuel) (N:=N) c q.2 F i.a v (by have:=W.turns;omega);unfold kf;by_cases y:q.1.k=1
   ·simp only[b,jh D d,this,y,NA,N3,A0,Cf.toM,if_true];unfold cS;split<;>rfl
   ·by_cases E:q.1.k=2
    ·simp only[b,jh D d,E,NA,N3,A0,if_true];rfl
    ·simp only[b,jh D d,y,E,v,ir,NA,NB,N3,N4,A0,if_false];rfl
  rw[N5 b] at h;by_cases p:i.op=17
  ·rw[N6 p] at h;rw[MP] at h;obtain⟨q,D,rfl⟩:=h;have K:=tF (f:=q.2) (F:=F) d9;have B:=xl (w:=w) (fuel:=fuel) (N:=N) { c with fs:=F } q.1 bK (fun x S=>(M x S).aA);simp only[Cf.toM] at B;have O:(decide ((0:Int)<=(F.length:Int)) && decide ((F.length:Int)<=((q.2::F).reverse.length:Int)))=true:=L9;simp only[NC e,NC l,NC b,ND p,jh D d,K,O,Mk,Cz,B,N3,N4,A0,iP,sG]
  rw[N5 p] at h;by_cases r:i.op=18
  ·rw[N6 r] at h;have:=DD (w:=w) (fuel:=fuel) (N:=N) c g F i d h;have J:c'.heap=c.heap:=by
    unfold ly at h;split at h
    ·obtain⟨x,_,h⟩:=M6 h;split at h
     ·cases h;rfl
     ·obtain⟨cl,_,h⟩:=M6 h;obtain⟨m,_,h⟩:=M6 h;split at h<;>cases h;rfl
    ·cases h
   simp only[NC e,NC l,NC b,NC p,ND r,this,N3,N4,A0,Cf.toM,iP,J]
  rw[N5 r] at h;by_cases t:i.op=21
  ·rw[N6 t] at h;cases h;have:=xo (N:=N) (cl:=w.a7) (H:=c.heap) (ep:=w.aB) (fuel:=fuel) (sends:=c.sends) (turns:=c.turns) (back:=c.back) (g::F).reverse true (by have:=W.sends;omega);simp only[t,v,this,NA,N3,A0];unfold iE;by_cases y:fuel<=c.sends
   ·simp only[y,if_true];rfl
   ·by_cases E:20<=(g::F).length
    ·simp only[y,E,List.length_reverse,if_true,if_false,and_self];rfl
    ·simp only[y,E,List.length_reverse,if_false,and_false];rfl
  rw[N5 t] at h;have:=DV (w:=w) (fuel:=fuel) (N:=N) c W R v g F C i h;simp only[e,l,b,p,r,t,this,NB,N4,A0,Cf.toM,iP]
end
def p6 {N:Nat} {w:Wd} (h:I5 N w):∀x∈w.a7,0<=x.aG/\x.aG<=6:=fun x b=>by
 obtain⟨j,a⟩:=N0.1 b;have:=h.cls j x a;exact⟨this.2.2.2.2.1,this.2.2.2.2.2⟩
def wz {w:Wd} (a:∀x∈w.a7,0<=x.aG/\x.aG<=6) (b:w.a7.length<=12) (c:Int):0<=p8 w c/\p8 w c<=78:=by
 have hl:=vN w (w.a7.length+1) c;have h:=uo a (bf w (w.a7.length+1) c) 0 d9 d9;exact⟨h.1,Int.le_trans h.2 d9⟩
def CB {w:Wd} {k:Int} {m:Me} {i:Ins} (h:bo w k m i=0):fb w k m i=some true/\jm i=false:=by
 unfold bo at h;cases a:fb w k m i with
 |none=>rw[a] at h;cases h
 |some b =>
  rw[a] at h;cases b with
  |false=>simp at h
  |true =>
   cases d:jm i with
   |true=>simp[d] at h
   |false=>exact⟨rfl,rfl⟩
def y6 {w:Wd} {k:Int} {m:Me} {i:Ins} (h:bo w k m i=0) :
  ((i.op=1\/i.op=6\/i.op=7\/i.op=8\/i.op=9\/i.op=10\/i.op=17)/\i.a=0)\/(i.op=2/\0<=i.a/\i.a<m.args)\/((i.op=3\/i.op=11)/\0<=i.a/\i.a<m.a8) \/
  ((i.op=4\/i.op=12)/\0<=i.a/\i.a<p8 w k)\/(i.op=5/\-1073741824<=i.a/\i.a<=1073741824)\/(i.op=13/\(i.a=0\/(4<=i.a/\i.a<w.a7.length)))\/(i.op=14/\0<=i.a/\i.a<5) \/
  ((i.op=15\/i.op=16)/\0<=i.a/\i.a<m.code.length):=by
 have h:=(CB h).1;unfold fb at h
 (repeat' split at h)<;>simp only[Option.some.injEq,IT,Bool.or_eq_true,NF,reduceCtorEq] at h<;>simp_all
def R8 (n:Int) (v:V):Prop:=ca v n=0
theorem R8.mono {n a:Int} {v:V} (h:R8 n v) (b:n<=a):R8 a v:=by
 unfold R8 ca at *
 (repeat' split at h)<;>first|(simp at h)|skip
 all_goals (repeat' split)<;>first|rfl|omega
theorem R8.num {n:Int} {v:V} (h:R8 n v) (b:v.k=3):gL v.n:=by
 unfold R8 ca at h;simp only[b] at h;unfold gL;by_cases a:v.n < -1073741824\/1073741824<v.n
 ·simp[a] at h
 ·omega
theorem R8.ref {n:Int} {v:V} (h:R8 n v) (b:v.k=4):0<=v.n/\v.n<n:=by
 unfold R8 ca at h;simp only[b] at h;by_cases a:v.n<0\/n<=v.n
 ·simp[a] at h
 ·omega
theorem R8.nil (n:Int):R8 n ⟨0,0⟩:=rfl
theorem R8.yx (n:Int):R8 n ⟨1,0⟩:=rfl
theorem R8.zH (n:Int):R8 n ⟨2,0⟩:=rfl
theorem R8.int (n:Int) {x:Int} (h:-1073741824<=x/\x<=1073741824):R8 n ⟨3,x⟩:=by
 unfold R8 ca;have:¬(x < -1073741824\/1073741824<x):=d9;simp[this]
theorem R8.obj {n:Int} {x:Int} (h:0<=x/\x<n):R8 n ⟨4,x⟩:=by
 unfold R8 ca;have:¬(x<0\/n<=x):=d9;simp[this]
theorem R8.aU {n p:Int} {a b:V} (h:(eg p a b).2=0):R8 n (eg p a b).1:=by
 have g:∀x:Int,R8 n (qU x):=fun x=>by
  refine R8.int n ?_;have d:=Int.tmod_lt_of_pos x (show(0:Int)<1073741825 by omega);have e:-1073741825<x.tmod 1073741825:=by
   rcases Int.le_total 0 x with h|h
   ·have:=Int.tmod_nonneg (1073741825:Int) h;omega
   ·have:=Int.tmod_lt_of_pos (-x) (show(0:Int)<1073741825 by omega);rw[Int.neg_tmod] at this;omega
  omega
 unfold eg at *;by_cases i:a.k≠3\/b.k≠3
 ·rw[N6 i] at h;cases h
 rw[N5 i] at h⊢;by_cases d:p=1
 ·rw[N6 d];exact g _
 rw[N5 d] at h⊢;by_cases e:p=2
 ·rw[N6 e];exact g _
 rw[N5 e] at h⊢;by_cases j:p=3
 ·rw[N6 j];exact g _
 rw[N5 j] at h⊢;by_cases l:p=4
 ·rw[N6 l];simp only;split<;>first|exact R8.zH n|exact R8.yx n
 rw[N5 l] at h⊢;by_cases m:p=5
 ·rw[N6 m];simp only;split<;>first|exact R8.zH n|exact R8.yx n
 rw[N5 m] at h;cases h
structure tq (w:Wd) (k:Int) (m:Me):Prop where
 args:0<=m.args/\m.args<=4
 a8:0<=m.a8/\m.a8<=6
 len:m.code.length<=60
 aU:m.aU=0
 num:∀i∈m.code,bo w k m i=0
 bx:∃h,tM m h []/\h[0]?=some 0
structure cZ (w:Wd):Prop where
 cls:w.a7.length<=12
 aG:∀k,0<=p8 w k/\p8 w k<=78
 zE:∀k:Int,0<=k->k<w.a7.length->p8 w k<=6
 ms:∀x∈w.a7,x.aC.length<=8
 code:∀x∈w.a7,∀m∈x.aC,m.code.length<=60
 ak:∀k x j m,j4 w.a7 k=some x->j4 x.aC j=some m->tq w k m\/(m.aU≠0/\m.args=1/\m.a8=0)
theorem cZ.a8 {w:Wd} (W:cZ w):∀x∈w.a7,∀m∈x.aC,0<=m.a8/\m.a8<=1000:=fun x e m d=>by
 obtain⟨k,b⟩:=N0.1 e;obtain⟨j,a⟩:=N0.1 d;rcases W.ak k x j m (by rw[D5,b]) (by rw[D5,a]) with h|⟨_,_,h⟩
 ·have:=h.a8;omega
 ·omega
theorem yp.Lw {N:Nat} {w:Wd} {k:Int} {m:Me} (h:yp N w k m):tq w k m:=by
 obtain⟨a,e⟩:=h.bx;obtain⟨b,_,d⟩:=wh m h.neg N _ _ a e (KJ m) De;exact⟨h.args,h.a8,h.len.2,h.aU,h.num,a,b,(d (0,0) l9).2⟩
def d76 : ∀p∈bt,p.aU≠0:=G7
theorem I5.od {N:Nat} {w:Wd} (r:4194304<=N) (n:D7 w) (h:I5 N w):cZ w:=by
 have e:=p6 h;refine⟨h.many.2.1,fun k=>wz e h.many.2.1 k,fun k g b=>?_,fun x a=>?_,fun x a m d=>?_,fun k x j m a d=>?_⟩
 ·obtain⟨x,a,_⟩:=dc g b;have:=(h.ak k.toNat x a).1
  rwa [Int.toNat_of_nonneg g] at this
 ·obtain⟨k,l⟩:=N0.1 a;exact(h.ak k x l).2.1
 ·obtain⟨k,l⟩:=N0.1 a;exact(Dy d9 n.1 h l d).len
 ·obtain⟨g,a⟩:=l6 a;have d:=eG d;rcases(h.ak k.toNat x a).2.2.2 m d with⟨_,p,q,_,b,i,o,_⟩|⟨f,b,i⟩
  ·exact .inr ⟨by rw[<-b];exact d76 p q,i,o⟩
  ·rw[Int.toNat_of_nonneg g,om N w k m d9 n.1 (kP e n.1 k)] at b;exact .inl (Bv b i).Lw
structure Fr (w:Wd) (n:Int) (m:Me) (h:List Int) (f:j3) (d:Nat):Prop where
 bm:f.aV=false
 ak:∃x,j4 w.a7 f.aI=some x/\j4 x.aC f.aK=some m
 code:f.code=m.code
 me:tq w f.aI m
 hi:tM m h []
 args:(f.args.length:Int)=m.args
 a8:(f.a8.length:Int)=m.a8
 pos:0<=f.aH
 aH:h[f.aH.toNat]?=some ((f.aA.length+d:Nat):Int)
 self:R8 n f.aQ
 fA:∀v∈f.args,R8 n v
 b9:∀v∈f.a8,R8 n v
 ai:∀v∈f.aA,R8 n v
def dm (w:Wd) (n:Int) (d:Nat) (f:j3):Prop:=∃m h,Fr w n m h f d
theorem dm.mono {w:Wd} {n e:Int} {d:Nat} {f:j3} (h:dm w n d f) (b:n<=e):dm w e d f:=by
 obtain⟨m,g,F⟩:=h;exact⟨m,g,F.bm,F.ak,F.code,F.me,F.hi,F.args,F.a8,F.pos,F.aH,F.self.mono b,fun v a=>(F.fA v a).mono b,fun v a=>(F.b9 v a).mono b,fun v a=>(F.ai v a).mono b⟩
theorem Fr.len {w:Wd} {n:Int} {m:Me} {h:List Int} {f:j3} {d:Nat} (F:Fr w n m h f d):∃i,f.code[f.aH.toNat]?=some i/\j4 f.code f.aH=some i/\i∈m.code/\f.aH<f.code.length/\f.aA.length+d<=12 /\
  (U4 i f.aH).1<=((f.aA.length+d:Nat):Int)/\(i.op=17->f.aA.length+d=1)/\0<=wr (((f.aA.length+d:Nat):Int)+(U4 i f.aH).2.1) /\
  ∀to∈(U4 i f.aH).2.2,0<=to/\h[to.toNat]?=some (wr (((f.aA.length+d:Nat):Int)+(U4 i f.aH).2.1)):=by
 have a:f.aH.toNat<m.code.length:=by
  have:=(MI.1 F.aH).1;rw[F.hi.len] at this;exact this
 have hi:m.code[f.aH.toNat]?=some m.code[f.aH.toNat]:=IS a;have:=F.hi.aH f.aH.toNat _ _ F.aH d9 hi;rw[Int.toNat_of_nonneg F.pos] at this;obtain⟨g,o,j,k,l⟩:=this;refine⟨m.code[f.aH.toNat],by rw[F.code,hi],by rw[F.code,fC F.pos,hi],List.getElem_mem a,by rw[F.code];have:=F.pos;omega,d9,g,fun e=>by have:=j e;omega,k,fun to b=>?_⟩;rcases l to b with h|h
 ·cases h
 ·exact h
theorem Fr.go {w:Wd} {n:Int} {m:Me} {h:List Int} {f:j3} {d:Nat} (F:Fr w n m h f d) (to:Int) (T S:List V) (b:Nat) (e:0<=to) (a:h[to.toNat]?=some ((S.length+b:Nat):Int)) (g:T.length=f.a8.length)
  (vT:∀v∈T,R8 n v) (i:∀v∈S,R8 n v):Fr w n m h { f with aH:=to,a8:=T,aA:=S } b :=
 ⟨F.bm,F.ak,F.code,F.me,F.hi,F.args,by rw[show({ f with aH:=to,a8:=T,aA:=S }:j3).a8=T from rfl,g];exact F.a8,e,a,F.self,F.fA,vT,i⟩
def vp (w:Wd) (n:Int) (o:Ob):Prop:=0<=o.cls/\(0<o.cls->4<=o.cls)/\o.cls<w.a7.length/\(o.aG.length:Int)=p8 w o.cls/\∀v∈o.aG,R8 n v
theorem vp.mono {w:Wd} {n a:Int} {o:Ob} (h:vp w n o) (b:n<=a):vp w a o:=⟨h.1,h.2.1,h.2.2.1,h.2.2.2.1,fun v d=>(h.2.2.2.2 v d).mono b⟩
structure gm (w:Wd) (h:List Ob):Prop where
 len:h.length<=60
 ob:∀o∈h,vp w (h.length:Int) o
def ym (w:Wd) (n:Int):List j3->Prop
 |[]=>True
 |f::F=>dm w n 0 f/\∀g∈F,dm w n 1 g
structure cz (w:Wd) (fuel:Int) (c:Cf):Prop where
 heap:gm w c.heap
 fl:c.fs.length<=20
 fs:ym w (c.heap.length:Int) c.fs
 sends:0<=c.sends/\c.sends<=fuel/\fuel<=400
 turns:0<=c.turns/\c.turns<=300
 back:R8 (c.heap.length:Int) c.back
theorem cz.Lq {w:Wd} {fuel:Int} {c:Cf} (I:cz w fuel c):∀f∈c.fs,∃d,dm w (c.heap.length:Int) d f:=fun f a=>by
 have h:=I.fs;cases b:c.fs with
 |nil=>rw[b] at a;cases a
 |cons g G =>
  rw[b] at h a;rcases MJ.1 a with rfl|a
  ·exact⟨0,h.1⟩
  ·exact⟨1,h.2 f a⟩
theorem cz.wk {w:Wd} {fuel:Int} {c:Cf} (W:cZ w) (I:cz w fuel c) {Q:Int->Int->Fs×Bool} (a:∀k j,(Q k j).2=true->0<=(Q k j).1.a8/\(Q k j).1.a8<=1000):Wk w Q c:=by
 refine⟨by have:=W.cls;omega,W.a8,fun k=>by have:=W.aG k;omega,a,⟨by have:=I.heap.len;omega,fun o g=>?_⟩,by have:=I.fl;omega,fun f b=>?_,by have:=I.sends;omega,by have:=I.turns;omega⟩
 ·have h:=(I.heap.ob o g).2.2.2.1;have:=W.aG o.cls;omega
 ·obtain⟨d,m,h,F⟩:=I.Lq f b;obtain⟨i,_,_,_,_,n,_⟩:=F.len;exact⟨d9,by rw[F.code];have:=F.me.len;omega,fun v l e=>(F.ai v l).num e⟩
def Z7 (f:j3):Nat:=(f.code.length-f.aH).toNat+(if f.aV=true then 70 else 0)
def mu (fuel:Int) (c:Cf):Nat:=(c.fs.map Z7).sum+1000*(fuel-c.sends).toNat+1000*(301-c.turns).toNat
structure gF (w:Wd) (fuel:Int) (c c':Cf):Prop where
 mu:mu fuel c'<mu fuel c
 sends:c.sends<=c'.sends/\c'.sends<=fuel
 heap:c.heap.length<=c'.heap.length
 inv:c'.err=0->cz w fuel c'
theorem ym.tail {w:Wd} {n:Int} {f:j3} {F:List j3} (h:ym w n (f::F)):∀g∈F,dm w n 1 g:=h.2
def rJ {f:j3} (h:f.aH<f.code.length):Z7 { f with aH:=f.aH+1 }+1=Z7 f:=by
 unfold Z7;simp only;omega
def D1 {w:Wd} {fuel:Int} {c:Cf} {v:V} (d:gm w c.heap) (hl:c.fs.length<=20) (b:∀g∈c.fs,dm w (c.heap.length:Int) 1 g) (e:0<=c.sends/\c.sends<=fuel/\fuel<=400) (i:0<=c.turns/\c.turns<=300)
  (k:R8 (c.heap.length:Int) c.back) (j:R8 (c.heap.length:Int) v):cz w fuel (dG c v):=by
 unfold dG;cases l:c.fs with
 |nil=>exact⟨d,l9,by simp only;trivial,e,i,j⟩
 |cons f F =>
  rw[l] at hl b;refine⟨d,by simpa using hl,⟨?_,fun g n=>b g (by simp[n])⟩,e,i,k⟩;obtain⟨m,h,R⟩:=b f l9;refine⟨m,h,R.bm,R.ak,R.code,R.me,R.hi,R.args,R.a8,R.pos,?_,R.self,R.fA,R.b9,fun u a=>?_⟩
  ·rw[show(cC f v).aH=f.aH from rfl,R.aH];simp[cC]
  ·simp only[cC,MY,Ml] at a;rcases a with a|rfl
   ·exact R.ai u a
   ·exact j
def sj {fuel:Int} {c:Cf} {v:V}:mu fuel (dG c v)=mu fuel c:=by
 unfold dG;cases a:c.fs with
 |nil=>simp[mu,a]
 |cons f F=>simp[mu,a,Z7,cC]
def rj (c:Cf) (v:V):(dG c v).sends=c.sends/\(dG c v).turns=c.turns/\(dG c v).err=c.err/\(dG c v).ev=c.ev:=by
 unfold dG;split<;>exact⟨rfl,rfl,rfl,rfl⟩
def pY {Q:Int->Int->Fs×Bool} (a:∀k j,(Q k j).2=false) (k j:Int) (m:Me) (self:V) (args:List V):fh Q k j m self args=⟨k,j,false,m.code,self,args,MM m.a8.toNat ⟨0,0⟩,[],0⟩:=by
 unfold fh;rw[a];rfl
def Cd {w:Wd} {fuel:Int} {Q:Int->Int->Fs×Bool} (W:cZ w) (y:∀k j,(Q k j).2=false) (c:Cf) (H:c.err=0) (C:gm w c.heap) (hl:c.fs.length<=20) (B:∀g∈c.fs,dm w (c.heap.length:Int) 1 g)
  (p:0<=c.sends/\c.sends<=fuel/\fuel<=400) (D:0<=c.turns/\c.turns<=300) (A:R8 (c.heap.length:Int) c.back) (k j:Int) (self:V) (args:List V) (e:R8 (c.heap.length:Int) self) (d:∀v∈args,R8 (c.heap.length:Int) v)
  (n:∃x m,j4 w.a7 k=some x/\j4 x.aC j=some m):∃c',fg w fuel Q c k j self args=some c'/\c.sends<=c'.sends/\c'.sends<=fuel/\c'.heap=c.heap/\mu fuel c'<=mu fuel c/\(c'.err=0->cz w fuel c'):=by
 obtain⟨x,m,n,s⟩:=n;unfold fg;rw[n];simp only[A0];rw[s];simp only[A0];by_cases t:m.args=args.length
 ·rw[N5 (by simpa using t)];by_cases q:m.aU=0
  ·rw[N5 (by simpa using q)];by_cases o:fuel<=c.sends
   ·rw[N6 o];exact⟨_,rfl,MS _,p.2.1,rfl,It _,fun h=>by cases h⟩
   rw[N5 o];by_cases b:20<=c.fs.length
   ·rw[N6 b];exact⟨_,rfl,MS _,p.2.1,rfl,It _,fun h=>by cases h⟩
   rw[N5 b];have r:tq w k m:=by
    rcases W.ak k x j m n s with h|h
    ·exact h
    ·exact absurd q h.1
   refine⟨_,rfl,bK,bK,rfl,?_,fun _=>⟨C,by simp only[MO];omega,⟨?_,B⟩,bK,D,A⟩⟩
   ·have G:=r.len;simp only[mu,MW,Mg,pY y,Z7];simp only[Mp,if_false];omega
   ·obtain⟨h,hi,E⟩:=r.bx;rw[pY y];refine⟨m,h,rfl,⟨x,n,s⟩,rfl,r,hi,by rw[t],?_,MS _,by simpa using E,e,d,fun v u=>?_,fun v u=>by cases u⟩
    ·have:=r.a8;simp only[List.length_replicate];omega
    ·rw[(List.mem_replicate.1 u).2];exact R8.nil _
  ·rw[N6 (by simpa using q)];by_cases o:fuel<=c.sends
   ·rw[N6 o];exact⟨_,rfl,MS _,p.2.1,rfl,It _,fun h=>by cases h⟩
   rw[N5 o];have z:m.args=1:=by
    rcases W.ak k x j m n s with h|h
    ·exact absurd h.aU q
    ·exact h.2.1
   obtain⟨a,_,z⟩:=dc (l:=args) (i:=0) (MS _) d9;rw[z];simp only[A0];by_cases b:(eg m.aU self a).2=0
   ·rw[N5 (by simpa using b)];refine⟨_,rfl,by rw[(rj _ _).1];simp only;omega,by rw[(rj _ _).1];simp only;omega,sG _ _,?_,fun _=>?_⟩
    ·rw[sj];simp only[mu];omega
    ·exact D1 C hl B ⟨bK,bK,p.2.2⟩ D A (R8.aU b)
   ·rw[N6 (by simpa using b)];exact⟨_,rfl,by simp only[V4];omega,by simp only[V4];omega,rfl,by simp only[mu,V4];omega,fun h=>absurd h b⟩
 ·rw[N6 (by simpa using t)];exact⟨_,rfl,MS _,p.2.1,rfl,It _,fun h=>by cases h⟩
def kS {i:Ins} {p:Int} (h:i.op=1\/i.op=2\/i.op=3\/i.op=4\/i.op=5\/i.op=6\/i.op=7\/i.op=8\/i.op=13):U4 i p=(0,1,[wr (p+1)]):=by
 unfold U4;rcases h with h|h|h|h|h|h|h|h|h<;>simp[h]
def uz {i:Ins} {p:Int} (h:i.op=9\/i.op=11\/i.op=12):U4 i p=(1,-1,[wr (p+1)]):=by
 unfold U4;simp[h]
def Du {i:Ins} {p:Int} (h:i.op=10):U4 i p=(1,1,[wr (p+1)]):=by
 unfold U4;simp[h]
def Jz {i:Ins} {p:Int} (h:i.op=14):U4 i p=(wr (i.a+1),-i.a,[wr (p+1)]):=by
 unfold U4;simp[h]
def Kq {i:Ins} {p:Int} (h:i.op=15):U4 i p=(0,0,[i.a]):=by
 unfold U4;simp[h]
def Bd {i:Ins} {p:Int} (h:i.op=16):U4 i p=(1,-1,[wr (p+1),i.a]):=by
 unfold U4;simp[h]
section
variable {w:Wd} {fuel:Int} {c:Cf} {f:j3} {F:List j3}
def jf (I:cz w fuel c) (d:c.fs=f::F) {c':Cf} {g:j3} (e1:c'.fs=g::F) (e:c'.sends=c.sends) (i:c'.turns=c.turns) (j:c'.back=c.back) (k:gm w c'.heap) (h:c.heap.length<=c'.heap.length)
  (o:Z7 g+1=Z7 f) (m:c'.err=0->dm w (c'.heap.length:Int) 0 g):gF w fuel c c':=by
 have a:=I.fs;have b:=I.fl;rw[d] at a b;refine⟨?_,by rw[e];exact⟨MS _,I.sends.2.1⟩,h,fun l=>⟨k,by rw[e1];simpa using b,?_,by rw[e];exact I.sends,by rw[i];exact I.turns,by rw[j];exact I.back.mono d9⟩⟩
 ·simp only[mu,e1,e,i,d,MW,Mg];omega
 ·rw[e1];exact⟨m l,fun x n=>(a.2 x n).mono d9⟩
def Df (I:cz w fuel c) (e:c.fs=f::F) (g:j3) (ad:g.aH=f.aH+1) (k:g.code=f.code) (l:g.aV=f.aV) (o:f.code.length<=1000) (i:f.aV=false) (q:0<=f.aH/\f.aH<f.code.length) (to:Int) (p:0<=to) (r:c.err=0)
  (m:dm w (c.heap.length:Int) 0 { g with aH:=to }) (j:f.code.length<=60):gF w fuel c (cS c g F to):=by
 have a:=I.fs;have d:=I.fl;have s:=I.turns;rw[e] at a d;unfold cS;by_cases h:to<g.aH
 ·rw[N6 h];refine⟨?_,⟨MS _,I.sends.2.1⟩,It _,fun b=>⟨I.heap,by simpa using d,⟨m,a.2⟩,I.sends,?_,I.back⟩⟩
  ·simp only[mu,e,MW,Mg,Z7,k,l,i];simp only[Mp,if_false];omega
  ·simp only at b⊢;by_cases n:300<c.turns+1
   ·rw[N6 n] at b;cases b
   ·omega
 ·rw[N5 h];refine⟨?_,⟨MS _,I.sends.2.1⟩,It _,fun b=>⟨I.heap,by simpa using d,⟨m,a.2⟩,I.sends,I.turns,I.back⟩⟩;simp only[mu,e,MW,Mg,Z7,k,l,i];simp only[Mp,if_false];omega
def Kp {n:Int} {h:List Ob} (a:gm w h) (b:n=h.length) (v:V) (k:Int):R8 n (lZ h v k):=by
 unfold lZ;split
 ·split
  ·rename_i o d;rw[List.getD_eq_getElem?_getD];cases e:o.aG[k.toNat]? with
   |none=>exact R8.nil n
   |some x =>
    have:=(a.ob o (MT d)).2.2.2.2 x (MT e);rw[b];exact this
  ·exact R8.nil n
 ·exact R8.nil n
def Ks {h:List Ob} (d:gm w h) {o v:V} {k:Int} (q:R8 (h.length:Int) o) (r:R8 (h.length:Int) v) (p:0<=k):∃e,jr h o k v=some e/\gm w e/\e.length=h.length:=by
 unfold jr;by_cases g:o.k=4
 ·rw[N6 g];have i:=q.ref g;rw[N6 i.1];obtain⟨b,m,_⟩:=dc i.1 i.2;rw[m];simp only;by_cases n:k<(b.aG.length:Int)
  ·rw[N6 n,N6 p];refine⟨_,rfl,⟨by rw[Mh];exact d.len,fun x l=>?_⟩,Mh⟩;rw[Mh];rcases List.mem_or_eq_of_mem_set l with l|rfl
   ·exact d.ob x l
   ·have a:=d.ob b (MT m);refine⟨a.1,a.2.1,a.2.2.1,by simp only[Mh];exact a.2.2.2.1,fun u j=>?_⟩;rcases List.mem_or_eq_of_mem_set j with j|rfl
    ·exact a.2.2.2.2 u j
    ·exact r
  ·rw[N5 n];exact⟨_,rfl,d,rfl⟩
 ·rw[N5 g];exact⟨_,rfl,d,rfl⟩
def Dx (W:cZ w) {h:List Ob} (d:gm w h) (hl:h.length<60) {a:Int} (i:a=0\/(4<=a/\a<w.a7.length)) (g:0<w.a7.length):gm w (h++[⟨a,MM (p8 w a).toNat ⟨0,0⟩⟩]):=by
 refine⟨L9,fun o b=>?_⟩;rcases MY.1 b with b|b
 ·exact(d.ob o b).mono L9
 ·simp only[Ml] at b;subst b;have:=W.aG a;exact⟨bK,bK,bK,by simp only[List.length_replicate];omega,fun v e=>by rw[(List.mem_replicate.1 e).2];exact R8.nil _⟩
def BI {l:List V} (h:1<=l.length):∃v,l.getLast?=some v/\v∈l:=by
 cases hl:l.getLast? with
 |none=>rw[List.getLast?_eq_none_iff] at hl;subst hl;simp at h
 |some v=>exact⟨v,rfl,List.mem_of_getLast? hl⟩
def su {f:j3} (h:1<=f.aA.length):∃v,cN f=some (v,{ f with aA:=f.aA.dropLast })/\v∈f.aA:=by
 obtain⟨v,a,b⟩:=BI h;exact⟨v,by unfold cN;rw[a];rfl,b⟩
def sU {Q:Int->Int->Fs×Bool} (W:cZ w) (M:0<w.a7.length) (hQ:∀k j,(Q k j).2=false) (I:cz w fuel c) (he:c.err=0) (r:c.fs=f::F):∃c',P8 w fuel (fun _ k s=>l7 w s k) Q c=some c'/\gF w fuel c c':=by
 have Z:=I.fs;have hfl:=I.fl;rw[r] at Z hfl;simp only[MO] at hfl;obtain⟨⟨m,h,R⟩,Z⟩:=Z;obtain⟨i,hi1,hi2,him,O,h12,d,E,hpos,b⟩:=R.len;simp only[Nat.add_zero] at h12 d E hpos b;have ad:=R.pos;have hme:=R.me;have hcl:f.code.length<=60:=by rw[R.code];exact hme.len
 have D:wr (f.aH+1)=f.aH+1:=u7 ino;have q:=y6 (hme.num i him);have z:=rJ O;unfold P8;rw[r];simp only[hi2,A0];have push:∀v:V,R8 (c.heap.length:Int) v->U4 i f.aH=(0,1,[wr (f.aH+1)])->∀n:Int,(c.heap.length:Int)<=n->dm w n 0 (cC { f with aH:=f.aH+1 } v):=by
  intro v x y n hn;rw[y] at b;have:=b (wr (f.aH+1)) l9;rw[D] at this;simp only at this;rw[u7 ino] at this;refine dm.mono ⟨m,h,R.go (f.aH+1) f.a8 (f.aA++[v]) 0 d9 (by rw[this.2];simp) rfl R.b9 (fun u t=>?_)⟩ hn;rcases MY.1 t with t|t
  ·exact R.ai u t
  ·rw[Ml.1 t];exact x
 have gu:∀v:V,R8 (c.heap.length:Int) v->U4 i f.aH=(0,1,[wr (f.aH+1)])->gF w fuel c { c with fs:=cC { f with aH:=f.aH+1 } v::F }:=fun v x y =>
  jf I r rfl rfl rfl rfl I.heap (It _) z fun _=>push v x y _ (MS _)
 have drop:∀v:V,cN f=some (v,{ f with aA:=f.aA.dropLast })->U4 i f.aH=(1,-1,[wr (f.aH+1)])->∀T:List V,T.length=f.a8.length->(∀u∈T,R8 (c.heap.length:Int) u) ->
   dm w (c.heap.length:Int) 0 { f with aH:=f.aH+1,a8:=T,aA:=f.aA.dropLast }:=by
  intro v x y T hT hT2;rw[y] at b d;have:=b (wr (f.aH+1)) l9;rw[D] at this;simp only at this d;rw[u7 ino] at this;exact⟨m,h,R.go (f.aH+1) T f.aA.dropLast 0 d9 (by rw[this.2,List.length_dropLast];congr 1;omega) hT hT2 fun u t=>R.ai u ((List.dropLast_sublist _).subset t)⟩
 by_cases S:i.op=14
 ·rw[N6 S];rw[Jz S] at d b;have B:0<=i.a/\i.a<5:=by
   rcases q with⟨h,_⟩|⟨h,_⟩|⟨h,_⟩|⟨h,_⟩|⟨h,_⟩|⟨h,_⟩|⟨_,h⟩|⟨h,_⟩<;>omega
  rw[u7 ino] at d;simp only at d;obtain⟨cl,hcl2,hm⟩:=R.ak;have y:=b (wr (f.aH+1)) l9;rw[D] at y;simp only at y;rw[u7 ino] at y;unfold kW;rw[N6 bK];have L:f.aA.length-i.a.toNat-1<f.aA.length:=d9;simp only[IS L,hcl2,hm,A0];have P:R8 (c.heap.length:Int) f.aA[f.aA.length-i.a.toNat-1]:=R.ai _ (List.getElem_mem L);by_cases hj:(l7 w i.name (H5 c.heap f.aA[f.aA.length-i.a.toNat-1])).2<0
  ·rw[N6 hj];exact⟨_,rfl,jf I r rfl rfl rfl rfl I.heap (It _) z fun e=>by cases e⟩
  ·rw[N5 hj];obtain⟨x',m',hx',hm',_⟩:=rP (w:=w) (s:=i.name) (c:=H5 c.heap f.aA[f.aA.length-i.a.toNat-1]) d9;have hg:dm w (c.heap.length:Int) 1 { f with aH:=f.aH+1,aA:=f.aA.take (f.aA.length-i.a.toNat-1) } :=
    ⟨m,h,R.go (f.aH+1) f.a8 (f.aA.take (f.aA.length-i.a.toNat-1)) 1 d9 (by rw[y.2];congr 1;simp;omega) rfl R.b9 fun u t=>R.ai u (List.mem_of_mem_take t)⟩
   obtain⟨c',h1',h2',h3',h4',h5',h6'⟩:=Cd (Q:=Q) (fuel:=fuel) W hQ { c with fs:={ f with aH:=f.aH+1,aA:=f.aA.take (f.aA.length-i.a.toNat-1) }::F,ev:=c.ev++[(S9 { f with aH:=f.aH+1 } m i f.aH,H5 c.heap f.aA[f.aA.length-i.a.toNat-1])] }
    he I.heap L9 (fun g N=>by
     rcases MJ.1 N with rfl|N
     ·exact hg
     ·exact Z g N) I.sends I.turns I.back _ _ _ (f.aA.drop (f.aA.length-i.a.toNat)) P (fun v x=>R.ai v (List.mem_of_mem_drop x)) ⟨x',m',hx',hm'⟩
   refine⟨c',h1',?_,⟨h2',h3'⟩,by rw[h4'];exact It _,h6'⟩;refine Nat.lt_of_le_of_lt h5' ?_;simp only[mu,r,MW,Mg];have:Z7 { f with aH:=f.aH+1,aA:=f.aA.take (f.aA.length-i.a.toNat-1) }=Z7 { f with aH:=f.aH+1 }:=rfl;rw[this];omega
 rw[N5 S];by_cases U:i.op=15
 ·rw[N6 U];rw[Kq U] at b;have y:=b i.a l9;simp only[Int.add_zero] at y;rw[u7 ino] at y;refine⟨_,rfl,Df I r { f with aH:=f.aH+1 } rfl rfl rfl d9 R.bm ⟨ad,O⟩ i.a y.1 he ?_ hcl⟩;exact⟨m,h,R.go i.a f.a8 f.aA 0 y.1 (by rw[y.2];rfl) rfl R.b9 R.ai⟩
 rw[N5 U];by_cases K:i.op=16
 ·rw[N6 K];have G:1<=f.aA.length:=by rw[Bd K] at d;simp only at d;omega
  obtain⟨v,x,A⟩:=su (f:={ f with aH:=f.aH+1 }) G;rw[x];rw[Bd K] at b;have y:=b i.a l9;have hy:=b (wr (f.aH+1)) l9;rw[D] at hy;simp only at y hy;rw[u7 ino] at y hy;have hd:(f.aA.length:Int)+-1=((f.aA.dropLast.length:Nat):Int):=by rw[List.length_dropLast];omega
  have hy':dm w (c.heap.length:Int) 0 { f with aH:=f.aH+1,aA:=f.aA.dropLast }:=⟨m,h,R.go (f.aH+1) f.a8 f.aA.dropLast 0 d9 (by rw[hy.2,hd];rfl) rfl R.b9 fun u t=>R.ai u ((List.dropLast_sublist _).subset t)⟩;refine⟨_,rfl,?_⟩;unfold kf;by_cases k1:v.k=1
  ·rw[N6 k1];refine Df I r { f with aH:=f.aH+1,aA:=f.aA.dropLast } rfl rfl rfl d9 R.bm ⟨ad,O⟩ i.a y.1 he ?_ hcl;exact⟨m,h,R.go i.a f.a8 f.aA.dropLast 0 y.1 (by rw[y.2,hd];rfl) rfl R.b9 fun u t=>R.ai u ((List.dropLast_sublist _).subset t)⟩
  ·rw[N5 k1];by_cases k2:v.k=2
   ·rw[N6 k2];exact jf I r rfl rfl rfl rfl I.heap (It _) z fun _=>hy'
   ·rw[N5 k2];exact jf I r rfl rfl rfl rfl I.heap (It _) z fun e=>by cases e
 rw[N5 K];by_cases X:i.op=17
 ·rw[N6 X];have G:1<=f.aA.length:=by have:=E X;omega
  obtain⟨v,x,A⟩:=su (f:={ f with aH:=f.aH+1 }) G;rw[x];refine⟨_,rfl,?_,?_,?_,fun e=>?_⟩
  ·rw[sj];simp only[mu,r,MW,Mg];omega
  ·rw[(rj _ _).1];exact⟨MS _,I.sends.2.1⟩
  ·rw[sG];exact It _
  ·exact D1 I.heap bK Z I.sends I.turns I.back (R.ai v A)
 rw[N5 X];have o18:¬i.op=18:=by
  rcases q with⟨h,_⟩|⟨h,_⟩|⟨h,_⟩|⟨h,_⟩|⟨h,_⟩|⟨h,_⟩|⟨h,_⟩|⟨h,_⟩<;>omega
 have o21:¬i.op=21:=by
  rcases q with⟨h,_⟩|⟨h,_⟩|⟨h,_⟩|⟨h,_⟩|⟨h,_⟩|⟨h,_⟩|⟨h,_⟩|⟨h,_⟩<;>omega
 rw[N5 o18,N5 o21];have o19:¬i.op=19:=by
  rcases q with⟨h,_⟩|⟨h,_⟩|⟨h,_⟩|⟨h,_⟩|⟨h,_⟩|⟨h,_⟩|⟨h,_⟩|⟨h,_⟩<;>omega
 have o20:¬i.op=20:=by
  rcases q with⟨h,_⟩|⟨h,_⟩|⟨h,_⟩|⟨h,_⟩|⟨h,_⟩|⟨h,_⟩|⟨h,_⟩|⟨h,_⟩<;>omega
 unfold ka;by_cases o1:i.op=1
 ·rw[N6 o1];exact⟨_,rfl,gu _ R.self (kS d9)⟩
 rw[N5 o1];by_cases o2:i.op=2
 ·rw[N6 o2];have B:0<=i.a/\i.a<m.args:=by
   rcases q with⟨h,_⟩|⟨h,_⟩|⟨h,_⟩|⟨h,_⟩|⟨h,_⟩|⟨h,_⟩|⟨h,_⟩|⟨h,_⟩<;>omega
  obtain⟨v,hv1,x⟩:=dc (l:=f.args) B.1 (by rw[R.args];exact B.2);simp only[x,Mj];exact⟨_,rfl,gu v (R.fA v (eG x)) (kS d9)⟩
 rw[N5 o2];by_cases o3:i.op=3
 ·rw[N6 o3];have B:0<=i.a/\i.a<m.a8:=by
   rcases q with⟨h,_⟩|⟨h,_⟩|⟨h,_⟩|⟨h,_⟩|⟨h,_⟩|⟨h,_⟩|⟨h,_⟩|⟨h,_⟩<;>omega
  obtain⟨v,hv1,x⟩:=dc (l:=f.a8) B.1 (by rw[R.a8];exact B.2);simp only[x,Mj];exact⟨_,rfl,gu v (R.b9 v (eG x)) (kS d9)⟩
 rw[N5 o3];by_cases o4:i.op=4
 ·rw[N6 o4];exact⟨_,rfl,gu _ (Kp I.heap rfl _ _) (kS d9)⟩
 rw[N5 o4];by_cases o5:i.op=5
 ·rw[N6 o5];have B:-1073741824<=i.a/\i.a<=1073741824:=by
   rcases q with⟨h,_⟩|⟨h,_⟩|⟨h,_⟩|⟨h,_⟩|⟨_,h⟩|⟨h,_⟩|⟨h,_⟩|⟨h,_⟩<;>omega
  exact⟨_,rfl,gu _ (R8.int _ B) (kS d9)⟩
 rw[N5 o5];by_cases o6:i.op=6
 ·rw[N6 o6];exact⟨_,rfl,gu _ (R8.nil _) (kS d9)⟩
 rw[N5 o6];by_cases o7:i.op=7
 ·rw[N6 o7];exact⟨_,rfl,gu _ (R8.yx _) (kS d9)⟩
 rw[N5 o7];by_cases o8:i.op=8
 ·rw[N6 o8];exact⟨_,rfl,gu _ (R8.zH _) (kS d9)⟩
 rw[N5 o8];have C:i.op=9\/i.op=11\/i.op=12->1<=f.aA.length:=fun hh=>by rw[uz hh] at d;simp only at d;omega
 by_cases o9:i.op=9
 ·rw[N6 o9];obtain⟨v,x,A⟩:=su (f:=f) (C d9);have H:cN { f with aH:=f.aH+1 }=some (v,{ f with aH:=f.aH+1,aA:=f.aA.dropLast }):=by
   obtain⟨M,_⟩:=ij x;unfold cN;rw[show({ f with aH:=f.aH+1 }:j3).aA=f.aA from rfl,M];rfl
  rw[H];exact⟨_,rfl,jf I r rfl rfl rfl rfl I.heap (It _) z fun _=>drop v x (uz d9) f.a8 rfl R.b9⟩
 rw[N5 o9];by_cases J:i.op=10
 ·rw[N6 J];have G:1<=f.aA.length:=by rw[Du J] at d;simp only at d;omega
  obtain⟨v,x,A⟩:=BI (l:=f.aA) G;simp only[x,Mj];refine⟨_,rfl,jf I r rfl rfl rfl rfl I.heap (It _) z fun _=>?_⟩;rw[Du J] at b;have:=b (wr (f.aH+1)) l9;rw[D] at this;simp only at this;rw[u7 ino] at this;refine⟨m,h,R.go (f.aH+1) f.a8 (f.aA++[v]) 0 d9 (by rw[this.2];simp) rfl R.b9 (fun u t=>?_)⟩;rcases MY.1 t with t|t
  ·exact R.ai u t
  ·rw[Ml.1 t];exact R.ai v A
 rw[N5 J];by_cases o11:i.op=11
 ·rw[N6 o11];obtain⟨v,x,A⟩:=su (f:=f) (C d9);have H:cN { f with aH:=f.aH+1 }=some (v,{ f with aH:=f.aH+1,aA:=f.aA.dropLast }):=by
   obtain⟨M,_⟩:=ij x;unfold cN;rw[show({ f with aH:=f.aH+1 }:j3).aA=f.aA from rfl,M];rfl
  have B:0<=i.a/\i.a<m.a8:=by
   rcases q with⟨h,_⟩|⟨h,_⟩|⟨h,_⟩|⟨h,_⟩|⟨h,_⟩|⟨h,_⟩|⟨h,_⟩|⟨h,_⟩<;>omega
  simp only[H,A0];rw[N6 ⟨B.1,by rw[R.a8];exact B.2⟩];refine⟨_,rfl,jf I r rfl rfl rfl rfl I.heap (It _) z fun _=>drop v x (uz d9) (f.a8.set i.a.toNat v) Mh fun u t=>?_⟩;rcases List.mem_or_eq_of_mem_set t with t|rfl
  ·exact R.b9 u t
  ·exact R.ai _ A
 rw[N5 o11];by_cases o12:i.op=12
 ·rw[N6 o12];obtain⟨v,x,A⟩:=su (f:=f) (C d9);have H:cN { f with aH:=f.aH+1 }=some (v,{ f with aH:=f.aH+1,aA:=f.aA.dropLast }):=by
   obtain⟨M,_⟩:=ij x;unfold cN;rw[show({ f with aH:=f.aH+1 }:j3).aA=f.aA from rfl,M];rfl
  have B:0<=i.a:=by
   rcases q with⟨h,_⟩|⟨h,_⟩|⟨h,_⟩|⟨h,_⟩|⟨h,_⟩|⟨h,_⟩|⟨h,_⟩|⟨h,_⟩<;>omega
  obtain⟨H',e1,e2,e3⟩:=Ks I.heap (o:=f.aQ) (v:=v) (k:=i.a) R.self (R.ai v A) B;simp only[H,A0,e1,Mj];refine⟨_,rfl,jf I r rfl rfl rfl rfl e2 (by simp only[e3];exact It _) z fun _=>?_⟩;simp only[e3];exact drop v x (uz d9) f.a8 rfl R.b9
 rw[N5 o12,N5 o19,N5 o20];by_cases o13:i.op=13
 ·rw[N6 o13];have B:i.a=0\/(4<=i.a/\i.a<w.a7.length):=by
   rcases q with⟨h,_⟩|⟨h,_⟩|⟨h,_⟩|⟨h,_⟩|⟨h,_⟩|⟨_,h⟩|⟨h,_⟩|⟨h,_⟩<;>omega
  by_cases Y:60<=c.heap.length
  ·rw[N6 Y];exact⟨_,rfl,jf I r rfl rfl rfl rfl I.heap (It _) z fun e=>by cases e⟩
  ·rw[N5 Y];have hnew:=Dx W I.heap d9 B M;refine⟨_,rfl,jf I r rfl rfl rfl rfl hnew l9 z fun _=>?_⟩;have y:=kS (i:=i) (p:=f.aH) d9;rw[y] at b;have:=b (wr (f.aH+1)) l9;rw[D] at this;simp only at this;rw[u7 ino] at this;obtain⟨m2,h2,R2⟩:dm w ((c.heap++[(⟨i.a,MM (p8 w i.a).toNat ⟨0,0⟩⟩:Ob)]).length:Int) 0 f:=dm.mono ⟨m,h,R⟩ (by simp only[MN,Mz];omega);have R3:Fr w ((c.heap++[(⟨i.a,MM (p8 w i.a).toNat ⟨0,0⟩⟩:Ob)]).length:Int) m h f 0 :=
    ⟨R.bm,R.ak,R.code,R.me,R.hi,R.args,R.a8,R.pos,R.aH,R2.self,R2.fA,R2.b9,R2.ai⟩
   show dm w _ 0 { f with aH:=f.aH+1,a8:=f.a8,aA:=f.aA++[⟨4,(c.heap.length:Int)⟩] };refine⟨m,h,R3.go (f.aH+1) f.a8 (f.aA++[⟨4,(c.heap.length:Int)⟩]) 0 d9 (by rw[this.2];simp) rfl R3.b9 (fun u t=>?_)⟩;rcases MY.1 t with t|t
   ·exact R3.ai u t
   ·rw[Ml.1 t];exact R8.obj L9
 ·exfalso;rcases q with⟨h,_⟩|⟨h,_⟩|⟨h,_⟩|⟨h,_⟩|⟨h,_⟩|⟨h,_⟩|⟨h,_⟩|⟨h,_⟩<;>omega
end
def pr (n:Int):List V->Int
 |[]=>0
 |v::l=>if ca v n=0 then pr n l else ca v n
def tD (n:Int):List V->H9 Int Unit
 |[]=>.next ()
 |v::l=>if ca v n=0 then tD n l else .ret (ca v n)
theorem CP (n:Int):∀l:List V,(match tD n l with|.ret r=>some r|.next ()=>some (0:Int))=some (pr n l)
 |[]=>rfl
 |x::l=>by
  rw[tD,pr];by_cases a:ca x n=0
  ·rw[N6 a,N6 a];exact CP n l
  ·rw[N5 a,N5 a]
def M4 (w:Wd) (c:O9) (fuel:Int):Int:=if Y4 c.name=false then 7 else if 4<c.args.length then 5 else if fuel<0\/400<fuel then 3 else pr (w.heap.length:Int) (c.aQ::c.args)
theorem CH {n:Int}:∀{l:List V},pr n l=0->∀v∈l,R8 n v
 |[],_,v,a=>by cases a
 |x::l,h,v,a=>by
  unfold pr at h;by_cases b:ca x n=0
  ·rw[N6 b] at h;rcases MJ.1 a with rfl|a
   ·exact b
   ·exact CH h v a
  ·rw[N5 b] at h;exact absurd h b
def qp {w:Wd} {c:O9} {fuel:Int} (h:M4 w c fuel=0):Y4 c.name=true/\c.args.length<=4/\0<=fuel/\fuel<=400/\R8 (w.heap.length:Int) c.aQ/\∀v∈c.args,R8 (w.heap.length:Int) v:=by
 unfold M4 at h;by_cases a:Y4 c.name=false
 ·rw[N6 a] at h;cases h
 rw[N5 a] at h;by_cases b:4<c.args.length
 ·rw[N6 b] at h;cases h
 rw[N5 b] at h;by_cases d:fuel<0\/400<fuel
 ·rw[N6 d] at h;cases h
 rw[N5 d] at h;have:=CH h;exact⟨by simpa using a,d9,d9,d9,this _ l9,fun v e=>this v (by simp[e])⟩
theorem zd (N:Nat) (w:Wd) (c:O9):∀(l:List V) (k:Nat),l=([c.aQ]++c.args).drop k->nF N w c l k=some (tD (w.heap.length:Int) l)
 |[],k,_=>rfl
 |x::l,k,h=>by
  obtain⟨b,d,_⟩:=Z6 h;rw[nF,D5,b];simp only[A0,Ae];rw[tD];by_cases a:ca x (w.heap.length:Int)=0
  ·rw[ND a,N6 a];simp only[MK,N4];exact zd N w c l (k+1) d
  ·rw[NC a,N5 a];rfl
def ud (N:Nat) (w:Wd) (c:O9) (fuel:Int):pT N w c fuel=some (M4 w c fuel):=by
 unfold pT M4;rw[qn];simp only[A0];cases f:Y4 c.name with
 |false=>rfl
 |true =>
  simp only[MK,N4,Bool.true_eq_false,if_false];by_cases b:4<c.args.length
  ·have a:(4:Int)<(c.args.length:Int):=d9;rw[ND a,N6 b];rfl
  ·have a:¬(4:Int)<(c.args.length:Int):=d9;rw[NC a,N5 b];simp only[N4];by_cases d:fuel<0\/400<fuel
   ·rw[N6 d];by_cases e:fuel<0
    ·rw[ND e];rfl
    ·rw[NC e,ND (show 400<fuel by omega)];rfl
   ·rw[N5 d,NC (show¬fuel<0 by omega),NC (show¬400<fuel by omega)];simp only[N4,A0];rw[F9 L9,zd N w c ([c.aQ]++c.args) 0 rfl];simp only[N3,A0];exact CP _ _
def cH : Int->Int->Fs×Bool:=fun _ _=>(⟨0,BY,0,0,[]⟩,false)
inductive Path (w:Wd) (fuel:Int) (L:St->Int->ByteArray->Int×Int) (Q:Int->Int->Fs×Bool):Cf->Cf->Prop
 |refl (c:Cf):Path w fuel L Q c c
 |step {c c1 c2:Cf}:c.err=0->c.fs≠[]->P8 w fuel L Q c=some c1->Path w fuel L Q c1 c2->Path w fuel L Q c c2
def Cf.done (c:Cf):Prop:=c.err≠0\/c.fs=[]
theorem Path.trans {w:Wd} {fuel:Int} {L:St->Int->ByteArray->Int×Int} {Q:Int->Int->Fs×Bool} {a b c:Cf} (h:Path w fuel L Q a b) (d:Path w fuel L Q b c):Path w fuel L Q a c:=by
 induction h with
 |refl=>exact d
 |step e f g _ ih=>exact .step e f g (ih d)
theorem Path.mK {w:Wd} {fuel:Int} {L:St->Int->ByteArray->Int×Int} {Q:Int->Int->Fs×Bool} {a b c:Cf} (h:Path w fuel L Q a b) (d:b.done) (i:Path w fuel L Q a c) (e:c.done):b=c:=by
 induction h with
 |refl =>
  cases i with
  |refl=>rfl
  |step f g=>rcases d with d|d;exact absurd f d;exact absurd d g
 |step f g k _ ih =>
  cases i with
  |refl=>rcases e with e|e;exact absurd f e;exact absurd e g
  |step m n j l =>
   rw[k] at j;cases j;exact ih d l
theorem DS {w:Wd} {fuel:Int} {N:Nat} {gl:St->Int->ByteArray->Option (Int×Int)} {gq:Int->Int->Option (Fs×Bool)} {L:St->Int->ByteArray->Int×Int} {Q:Int->Int->Fs×Bool} (p:1048578<=N)
  (e:∀s k n,gl s k n=some (L s k n)) (g:∀k j x m,j4 w.a7 k=some x->j4 x.aC j=some m->gq k j=some (Q k j)) (P:Cf->Prop)
  (q:∀c,P c->c.err=0->c.fs≠[]->Wk w Q c/\∃d,P8 w fuel L Q c=some d/\mu fuel d<mu fuel c/\(d.err=0->P d)):∀(n:Nat) (c:Cf),(c.err=0->P c)->mu fuel c<n ->
  ∃c',Path w fuel L Q c c'/\c'.done/\(c'.err=0->P c')/\kM N gl gq n w.a7 c.heap w.aB fuel c.sends c.turns c.fs.reverse c.back.k c.back.n c.err =
   some (w.a7,c'.heap,w.aB,fuel,c'.sends,c'.turns,c'.fs.reverse,c'.back.k,c'.back.n,c'.err)
 |0,c,_,h=>d9
 |n+1,c,l,h=>by
  rw[kM];by_cases b:c.err=0
  ·cases a:c.fs with
   |nil =>
    refine⟨c,.refl c,.inr a,l,?_⟩;simp[b,a]
   |cons f F =>
    obtain⟨W,d,o,z,r⟩:=q c (l b) b (by rw[a];simp);obtain⟨c',t,u,v,y⟩:=DS p e g P q n d r d9;refine⟨c',.step b (by rw[a];simp) o t,u,v,?_⟩;have i:=KI p e g c W b o;have hl:(0:Int)<((f::F).reverse.length:Int):=l9;unfold Cf.toM at i;rw[a] at i;simp only[b,NA,N3,hl,A0,iP];rw[b] at i;rw[i];simp only[A0];exact y
  ·refine⟨c,.refl c,.inl b,l,?_⟩;simp[b]
def hB (w:Wd) (c:Cf):Wd×dz:=if c.err=0 then(⟨w.a7,c.heap,w.aB⟩,⟨c.back,0,c.sends⟩) else(w,⟨⟨0,0⟩,c.err,c.sends⟩)
def cc (w:Wd):Cf:=⟨w.heap,0,0,[],⟨0,0⟩,0,[]⟩
def gI (w:Wd) (fuel:Int) (Q:Int->Int->Fs×Bool) (c:O9):Option Cf :=
 if(l7 w c.name (H5 w.heap c.aQ)).2<0 then some (V4 (cc w) 10) else fg w fuel Q (cc w) (l7 w c.name (H5 w.heap c.aQ)).1 (l7 w c.name (H5 w.heap c.aQ)).2 c.aQ c.args
def lb {fuel:Int} {c:Cf} (a:fuel<=400) (d:0<=c.sends) (e:0<=c.turns) (b:(c.fs.map Z7).sum<=100000):mu fuel c<1048576:=by
 unfold mu;omega
def d18 {w:Wd} {fuel:Int} {Q:Int->Int->Fs×Bool} (W:cZ w) (r:0<w.a7.length) (t:∀k j,(Q k j).2=false) {c c':Cf} (p:Path w fuel (fun _ k s=>l7 w s k) Q c c') (u:c.sends<=fuel) (g:c.err=0->cz w fuel c) :
  c.sends<=c'.sends/\c'.sends<=fuel/\c.heap.length<=c'.heap.length/\(c'.err=0->cz w fuel c'):=by
 induction p with
 |refl=>exact⟨MS _,u,It _,g⟩
 |@step c v x h d e _ ih =>
  cases a:c.fs with
  |nil=>exact absurd a d
  |cons f F =>
   obtain⟨q,i,b⟩:=sU (Q:=Q) W r t (g h) h a;rw[e] at i;cases i;obtain⟨l,m,n,o⟩:=ih b.sends.2 b.inv;exact⟨Int.le_trans b.sends.1 l,m,Nat.le_trans b.heap n,o⟩
def x5 {w:Wd} {N:Nat} (h:I5 N w):gm w w.heap:=⟨h.many.2.2,fun o a=>by
 have:=h.obj o a;exact⟨this.1,this.2.1,this.2.2.1,this.2.2.2.1,this.2.2.2.2⟩⟩
def vL {w:Wd} {N:Nat} {fuel:Int} {Q:Int->Int->Fs×Bool} (v:4194304<=N) (B:D7 w) (i:I5 N w) (y:∀k j,(Q k j).2=false) (c:O9) (C:M4 w c fuel=0) :
  ∃a,gI w fuel Q c=some a/\0<=a.sends/\a.sends<=fuel/\a.heap=w.heap/\mu fuel a<1048576/\(a.err=0->cz w fuel a):=by
 have W:=i.od v B;obtain⟨E,F,d,f,t,u⟩:=qp C;have b:mu fuel (cc w)<1048576:=lb f (MS _) (MS _) (by simp[cc]);unfold gI;by_cases h:(l7 w c.name (H5 w.heap c.aQ)).2<0
 ·rw[N6 h];exact⟨_,rfl,MS _,d,rfl,b,fun e=>by cases e⟩
 ·rw[N5 h];obtain⟨x,m,D,A,_⟩:=rP (w:=w) (s:=c.name) (c:=H5 w.heap c.aQ) d9;obtain⟨a,l,n,o,p,q,r⟩:=Cd (Q:=Q) (fuel:=fuel) W y (cc w) rfl (x5 i) (by simp[cc]) (fun g z=>by cases z) ⟨MS _,d,f⟩ ⟨MS _,by simp[cc]⟩ (R8.nil _) _ _ c.aQ c.args t u ⟨x,m,D,A⟩;exact⟨a,l,n,o,p,Nat.lt_of_le_of_lt q b,r⟩
def AY {w:Wd} {N:Nat} {fuel:Int} {gl:St->Int->ByteArray->Option (Int×Int)} {gq:Int->Int->Option (Fs×Bool)} (a:D7 w) (c:O9) (b:M4 w c fuel≠0) :
  iK N w c fuel gl gq=some (w,⟨⟨0,0⟩,M4 w c fuel,0⟩):=by
 unfold iK;rw[ud];simp only[A0];rw[NC b,ic N w a];rfl
def DL {w:Wd} {N:Nat} {fuel:Int} {gl:St->Int->ByteArray->Option (Int×Int)} {gq:Int->Int->Option (Fs×Bool)} {L:St->Int->ByteArray->Int×Int} {Q:Int->Int->Fs×Bool} (hN:4194304<=N) (i:D7 w) (R:dT w)
  (u:∀s k n,gl s k n=some (L s k n)) (h:∀k j x m,j4 w.a7 k=some x->j4 x.aC j=some m->gq k j=some (Q k j)) (P:Cf->Prop)
  (H:∀c,P c->c.err=0->c.fs≠[]->Wk w Q c/\∃a,P8 w fuel L Q c=some a/\mu fuel a<mu fuel c/\(a.err=0->P a))
  (K:∀x∈w.a7,∀m∈x.aC,0<=m.a8/\m.a8<=1000) (O:∀k j,(Q k j).2=true->0<=(Q k j).1.a8/\(Q k j).1.a8<=1000)
  (c:O9) (E:M4 w c fuel=0) (a:Cf) (g:gI w fuel Q c=some a) (r:a.err=0->P a) (M:mu fuel a<1048576) :
  ∃c',Path w fuel L Q a c'/\c'.done/\(c'.err=0->P c')/\iK N w c fuel gl gq=some (hB w c'):=by
 obtain⟨h1,h2,h3,h4,F,G⟩:=qp E;obtain⟨c',T,U,W,X⟩:=DS (N:=N) (gl:=gl) (gq:=gq) d9 u h P H N a r d9;refine⟨c',T,U,W,?_⟩;unfold iK;rw[ud];simp only[A0,E,NA,MK,N4,ic N w i,rG];have t:fU N (⟨w.a7,w.heap,w.aB⟩:Wd) (H5 w.heap c.aQ) c.name=some (l7 w c.name (H5 w.heap c.aQ)):=lM N w _ _ d9 R i;rw[t];simp only[A0];have b:(kM N gl gq N w.a7 a.heap w.aB fuel a.sends a.turns a.fs.reverse a.back.k a.back.n a.err).bind (fun(z,A,B,Y,l,Z,v53,C,D,o) =>
   (bif (!decide (o=(0:Int))) then((gd N w).bind fun y=>some (y,(⟨(⟨(0:Int),(0:Int)⟩:V),o,l⟩:dz))) else some ((⟨z,A,B⟩:Wd),(⟨(⟨C,D⟩:V),(0:Int),l⟩:dz))))=some (hB w c'):=by
  rw[X];simp only[A0,ic N w i,hB];by_cases p:c'.err=0
  ·rw[ND p,N6 p];rfl
  ·rw[NC p,N5 p];rfl
 unfold gI at g;by_cases q:(l7 w c.name (H5 w.heap c.aQ)).2<0
 ·rw[N6 q] at g;cases g;rw[ND q];simp only[N3,ir,A0];simp only[ic N w i] at b;exact b
 ·rw[N5 q] at g;rw[NC q];have d:c.aQ.k=3->gL c.aQ.n:=F.num;have I:=ru g;have:=vD (N:=N) h K O (cc w) rfl (by simp[cc]) (by simp[cc]) (fun f t=>by cases t) _ _ c.aQ c.args d (fun v S J=>(G v S).num J) d9 a g;have e:(cc w).toM w fuel=(⟨(⟨w.a7,w.heap,w.aB⟩:Wd),fuel,0,0,[],⟨0,0⟩,0⟩:D8):=rfl;rw[e] at this;simp only[N4,this,A0];simp only[ic N w i] at b;rw[I] at b;exact b
def iV (w:Wd) (c:O9) (fuel:Int) (Q:Int->Int->Fs×Bool) (r:Wd×dz):Prop :=
 (M4 w c fuel≠0/\r=(w,⟨⟨0,0⟩,M4 w c fuel,0⟩)) \/
 (M4 w c fuel=0/\∃a c',gI w fuel Q c=some a/\Path w fuel (fun _ k s=>l7 w s k) Q a c'/\c'.done/\r=hB w c')
theorem iV.mK {w:Wd} {c:O9} {fuel:Int} {Q:Int->Int->Fs×Bool} {r s:Wd×dz} (h:iV w c fuel Q r) (f:iV w c fuel Q s):r=s:=by
 rcases h with⟨b,d⟩|⟨b,n,c',d,g,i,j⟩<;>rcases f with⟨e,a⟩|⟨e,p,o,a,k,l,m⟩
 ·rw[d,a]
 ·exact absurd e b
 ·exact absurd b e
 ·rw[d] at a;cases a;rw[j,m,Path.mK g i k l]
def qW (w:Wd) (c:O9) (fuel:Int) (r:Wd×dz) (ev:List (St×Int)):Prop :=
 (M4 w c fuel≠0/\r=(w,⟨⟨0,0⟩,M4 w c fuel,0⟩)/\ev=[]) \/
 (M4 w c fuel=0/\∃a c',gI w fuel cH c=some a/\Path w fuel (fun _ k s=>l7 w s k) cH a c'/\c'.done/\r=hB w c'/\ev=c'.ev)
theorem qW.fN {w:Wd} {c:O9} {fuel:Int} {r:Wd×dz} {ev:List (St×Int)} (h:qW w c fuel r ev):iV w c fuel cH r:=by
 rcases h with⟨a,b,_⟩|⟨a,d,c',b,e,f,g,_⟩
 ·exact .inl ⟨a,b⟩
 ·exact .inr ⟨a,d,c',b,e,f,g⟩
theorem qW.mK {w:Wd} {c:O9} {fuel:Int} {r s:Wd×dz} {ev a:List (St×Int)} (h:qW w c fuel r ev) (j:qW w c fuel s a):r=s/\ev=a:=by
 rcases h with⟨d,e,f⟩|⟨d,q,c',e,f,k,l,m⟩<;>rcases j with⟨g,b,i⟩|⟨g,u,t,b,i,n,o,p⟩
 ·rw[e,b,f,i];exact⟨rfl,rfl⟩
 ·exact absurd g d
 ·exact absurd d g
 ·rw[e] at b;cases b;have:=Path.mK f k i n;subst this;rw[l,o,m,p];exact⟨rfl,rfl⟩
def Dg {w:Wd} {N:Nat} {fuel:Int} {gl:St->Int->ByteArray->Option (Int×Int)} {gq:Int->Int->Option (Fs×Bool)} {Q:Int->Int->Fs×Bool} (i:4194304<=N) (g:D7 w) (e:I5 N w) (l:∀k j,(Q k j).2=false)
  (p:∀s k n,gl s k n=some (l7 w n k)) (q:∀k j x m,j4 w.a7 k=some x->j4 x.aC j=some m->gq k j=some (Q k j)) (c:O9):∃r,iK N w c fuel gl gq=some r/\iV w c fuel Q r:=by
 by_cases b:M4 w c fuel=0
 ·have W:=e.od i g;have o:0<w.a7.length:=by have:=e.many.1;omega
  have v:∀k j,(Q k j).2=true->0<=(Q k j).1.a8/\(Q k j).1.a8<=1000:=fun k j h=>by rw[l] at h;cases h
  obtain⟨d,u,H,J,K,z,A⟩:=vL (Q:=Q) i g e l c b;obtain⟨c',D,E,M,G⟩:=DL (L:=fun _ k s=>l7 w s k) i g e.ct p q (cz w fuel) (fun c I B t=>by
   refine⟨I.wk W v,?_⟩;cases a:c.fs with
   |nil=>exact absurd a t
   |cons f F =>
    obtain⟨d,C,y⟩:=sU (Q:=Q) W o l I B a;exact⟨d,C,y.mu,y.inv⟩) W.a8 v c b d u A z
  exact⟨_,G,.inr ⟨b,d,c',u,D,E,rfl⟩⟩
 ·exact⟨_,AY g c b,.inl ⟨b,rfl⟩⟩
def HO {w:Wd} {N:Nat} (i:4194304<=N) (f:D7 w) (e:I5 N w) (c:O9) (fuel:Int):∃r,sN N w c fuel=some r/\iV w c fuel cH r:=by
 obtain⟨r,g,h⟩:=Dg (fuel:=fuel) (gl:=fun a b d=>pE N a b d w) (gq:=fun a b=>pb N a b) (Q:=cH) i f e (fun _ _=>rfl) (fun s k n=>by
  show pE N s k n w=_;unfold pE;rw[lM N w k n d9 e.ct f];rfl) (fun k j x m _ _=>rfl) c
 refine⟨r,?_,h⟩;unfold sN;rw[g];rfl
def yi (w:Wd) (gl:St->Int->ByteArray->D6->Option (Int×Int×D6)) (L:St->Int->ByteArray->Int×Int) (T:D6->St×Int->D6) (sb:D6) (c:Cf):Prop :=
 ∀f F i x m k,c.fs=f::F->j4 f.code f.aH=some i->i.op=14->j4 w.a7 f.aI=some x->j4 x.aC f.aK=some m ->
  gl (S9 f m i f.aH) k i.name (c.ev.foldl T sb)=some ((L (S9 f m i f.aH) k i.name).1,(L (S9 f m i f.aH) k i.name).2,T (c.ev.foldl T sb) (S9 f m i f.aH,k))
section
variable {w:Wd} {fuel:Int} {N:Nat} {gl:St->Int->ByteArray->D6->Option (Int×Int×D6)} {gq:Int->Int->Option (Fs×Bool)} {L:St->Int->ByteArray->Int×Int} {Q:Int->Int->Fs×Bool}
def sF {c c':Cf} {k j:Int} {self:V} {args:List V} (h:fg w fuel Q c k j self args=some c'):c'.ev=c.ev/\(c'.err≠0\/c'.sends=c.sends+1):=by
 obtain⟨x,m,_,_,h|h|⟨_,_,_,a,_,h|h⟩|h|h⟩:=pO h
 ·rw[h.2];exact⟨rfl,.inl (by simp[V4])⟩
 ·rw[h.2.2];exact⟨rfl,.inl (by simp[V4])⟩
 ·rw[h.2];exact⟨rfl,.inl h.1⟩
 ·rw[h.2];exact⟨(rj _ _).2.2.2,.inr (rj _ _).1⟩
 ·rw[h.2.2.2.2];exact⟨rfl,.inl (by simp[V4])⟩
 ·rw[h.2.2.2.2];exact⟨rfl,.inr rfl⟩
def JI {c c':Cf} {f:j3} {F:List j3} {i:Ins} (h:ka w c f F i=some c'):c'.ev=c.ev:=by
 unfold ka at h;by_cases k:i.op=1
 ·rw[N6 k] at h;cases h;rfl
 rw[N5 k] at h;by_cases l:i.op=2
 ·rw[N6 l] at h;rw[MP] at h;obtain⟨_,_,rfl⟩:=h;rfl
 rw[N5 l] at h;by_cases m:i.op=3
 ·rw[N6 m] at h;rw[MP] at h;obtain⟨_,_,rfl⟩:=h;rfl
 rw[N5 m] at h;by_cases n:i.op=4
 ·rw[N6 n] at h;cases h;rfl
 rw[N5 n] at h;by_cases o:i.op=5
 ·rw[N6 o] at h;cases h;rfl
 rw[N5 o] at h;by_cases p:i.op=6
 ·rw[N6 p] at h;cases h;rfl
 rw[N5 p] at h;by_cases q:i.op=7
 ·rw[N6 q] at h;cases h;rfl
 rw[N5 q] at h;by_cases r:i.op=8
 ·rw[N6 r] at h;cases h;rfl
 rw[N5 r] at h;by_cases s:i.op=9
 ·rw[N6 s] at h;rw[MP] at h;obtain⟨_,_,rfl⟩:=h;rfl
 rw[N5 s] at h;by_cases a:i.op=10
 ·rw[N6 a] at h;rw[MP] at h;obtain⟨_,_,rfl⟩:=h;rfl
 rw[N5 a] at h;by_cases b:i.op=11
 ·rw[N6 b] at h;obtain⟨_,_,h⟩:=M6 h;split at h<;>cases h;rfl
 rw[N5 b] at h;by_cases d:i.op=12
 ·rw[N6 d] at h;obtain⟨_,_,h⟩:=M6 h;rw[MP] at h;obtain⟨_,_,rfl⟩:=h;rfl
 rw[N5 d] at h;by_cases g:i.op=19
 ·rw[N6 g] at h;rw[MP] at h;obtain⟨_,_,rfl⟩:=h;rfl
 rw[N5 g] at h;by_cases j:i.op=20
 ·rw[N6 j] at h;obtain⟨_,_,h⟩:=M6 h;obtain⟨_,_,h⟩:=M6 h;rw[MP] at h;obtain⟨_,_,rfl⟩:=h;rfl
 rw[N5 j] at h;by_cases e:i.op=13
 ·rw[N6 e] at h;split at h<;>cases h<;>rfl
 rw[N5 e] at h;cases h;rfl
def DE {c c':Cf} (h:P8 w fuel L Q c=some c'):c'.ev=c.ev\/∃f F i x m k,c.fs=f::F/\j4 f.code f.aH=some i/\i.op=14/\j4 w.a7 f.aI=some x/\j4 x.aC f.aK=some m /\
  c'.ev=c.ev++[(S9 f m i f.aH,k)]/\(((L (S9 f m i f.aH) k i.name).2<0/\c'.err=10)\/(0<=(L (S9 f m i f.aH) k i.name).2/\(c'.err≠0\/c'.sends=c.sends+1))):=by
 unfold P8 at h;cases e:c.fs with
 |nil=>rw[e] at h;cases h
 |cons f F =>
  rw[e] at h;obtain⟨i,hi,h⟩:=M6 h;by_cases b:i.op=14
  ·rw[N6 b] at h;obtain⟨x,cl,m,_,_,_,d,g,h⟩:=pR h;right;rcases h with⟨a,h⟩|⟨a,h⟩
   ·exact⟨f,F,i,cl,m,_,rfl,hi,b,d,g,by rw[h];rfl,.inl ⟨a,by rw[h];rfl⟩⟩
   ·exact⟨f,F,i,cl,m,_,rfl,hi,b,d,g,(sF h).1,.inr ⟨a,(sF h).2⟩⟩
  left;rw[N5 b] at h;split at h
  ·cases h;unfold cS;split<;>rfl
  split at h
  ·rw[MP] at h;obtain⟨q,_,rfl⟩:=h;unfold kf;split
   ·unfold cS;split<;>rfl
   ·split<;>rfl
  split at h
  ·rw[MP] at h;obtain⟨q,_,rfl⟩:=h;unfold dG;split<;>rfl
  split at h
  ·unfold ly at h;split at h
   ·obtain⟨x,_,h⟩:=M6 h;split at h
    ·cases h;rfl
    ·obtain⟨cl,_,h⟩:=M6 h;obtain⟨m,_,h⟩:=M6 h;split at h<;>cases h;rfl
   ·cases h
  split at h
  ·cases h;unfold iE;split
   ·rfl
   ·split<;>rfl
  exact JI h
def IC {sb:D6} {T:D6->St×Int->D6} (s:∀k j x m,j4 w.a7 k=some x->j4 x.aC j=some m->gq k j=some (Q k j))
  (c:Cf) (W:Wk w Q c) (n:c.err=0) (f:j3) (F:List j3) (o:bz f) (B:∀f∈F,bz f) (C:F.length<=899) (i:Ins) (p:Int) (r:∀x m k,j4 w.a7 f.aI=some x->j4 x.aC f.aK=some m->gl (S9 f m i p) k i.name sb=some ((L (S9 f m i p) k i.name).1,(L (S9 f m i p) k i.name).2,T sb (S9 f m i p,k))) {c':Cf} (h:kW w fuel L Q c f F i p=some c') :
  ∃e,c'.ev=c.ev++[e]/\qy N ⟨⟨w.a7,c.heap,w.aB⟩,fuel,c.sends,c.turns,(f::F).reverse,c.back,c.err⟩ gl gq sb F.length i p=some (T sb e,c'.toM w fuel):=by
 obtain⟨x,cl,m,H,I,u,d,t,h⟩:=pR h;have hl:=o.aA;have e1:wr ((f.aA.length:Int)-i.a)=((f.aA.length-i.a.toNat:Nat):Int):=by rw[u7 ino];omega
 have A:wr (((f.aA.length-i.a.toNat:Nat):Int)-1)=((f.aA.length-i.a.toNat-1:Nat):Int):=by rw[u7 ino];omega
 have y:(decide ((0:Int)<=((f.aA.length-i.a.toNat:Nat):Int)) && decide (((f.aA.length-i.a.toNat:Nat):Int)<=(f.aA.length:Int)))=true:=by simp only[IT,NF];omega
 have z:(decide ((0:Int)<=((f.aA.length-i.a.toNat-1:Nat):Int)) && decide (((f.aA.length-i.a.toNat-1:Nat):Int)<=(f.aA.length:Int)))=true:=by simp only[IT,NF];omega
 have b:((bif f.aV then some i.c else some p):Option Int)=some (S9 f m i p).pos:=by unfold S9;cases f.aV<;>rfl
 have E:(⟨f.aI,m.name,(S9 f m i p).pos⟩:St)=S9 f m i p:=rfl;refine⟨(S9 f m i p,H5 c.heap x),?_,?_⟩
 ·rcases h with⟨l,rfl⟩|⟨l,h⟩
  ·rfl
  ·rw[(sF h).1]
 unfold qy;simp only[cv,A0,e1,A,y,z,N3,Mk,D5,u,d,t,rG,r cl m (H5 c.heap x) d t,b,E,n,ir,eJ,
  uB N (show(f.aA.drop (f.aA.length-i.a.toNat)).length<=1048576 by simp;omega)]
 rcases h with⟨l,rfl⟩|⟨l,h⟩
 ·simp only[l,NA,N3];rfl
 ·rw[NC d9];simp only[N4];have:=vD (N:=N) s W.ak W.quick _ (by exact n) (by have:=W.sends;exact⟨this.1,bK⟩) L9 (fun g q=>by
    rcases MJ.1 q with rfl|q
    ·simp;omega
    ·exact(B g q).aA) _ _ x _ (o.num x (MT u)) (fun v G=>o.num v (List.mem_of_mem_drop G)) L9 c' h
  simp only[Cf.toM,n] at this;rw[this];simp only[A0,Cf.toM];have D:c'.heap=c.heap:=(ru h).trans rfl;rw[D]
def IU {T:D6->St×Int->D6} {sb:D6} (hN:1048578<=N) (K:∀k j x m,j4 w.a7 k=some x->j4 x.aC j=some m->gq k j=some (Q k j))
  (c:Cf) (W:Wk w Q c) (y:c.err=0) (E:yi w gl L T sb c) {c':Cf} (h:P8 w fuel L Q c=some c'):qx N (c.toM w fuel) gl gq (c.ev.foldl T sb)=some (c'.ev.foldl T sb,c'.toM w fuel):=by
 have v:=h;unfold P8 at h;cases l:c.fs with
 |nil=>rw[l] at h;cases h
 |cons f F =>
  rw[l] at h;obtain⟨i,hi,h⟩:=M6 h;have u:=W.fs;rw[l] at u;simp only[MO] at u;have C:bz f:=W.fr f (by rw[l];simp);have U:∀g∈F,bz g:=fun g z=>W.fr g (by rw[l];simp[z]);have hp:=fX hi;have bj:=C.code;have wp:wr (f.aH+1)=f.aH+1:=u7 ino;have wt:=tF (f:=f) (F:=F) d9;generalize z:({ f with aH:=f.aH+1 }:j3)=g at h;have o:g.aA.length<=1000:=by rw[<-z];exact C.aA
  have G:bz g:=by rw[<-z];exact⟨C.aA,C.code,C.num⟩
  unfold qx Cf.toM;have Y:∀(x:Cf),(⟨⟨w.a7,x.heap,w.aB⟩,fuel,x.sends,x.turns,x.fs.reverse,⟨x.back.k,x.back.n⟩,x.err⟩:D8)=x.toM w fuel:=fun x=>rfl;simp only[l,wt,wp,yO,hi,A0,Mk,eJ,z];by_cases b:i.op=14
  ·rw[N6 b] at h;obtain⟨e,e1,this⟩:=IC (gl:=gl) (N:=N) (sb:=c.ev.foldl T sb) (T:=T) K c W y g F G U d9 i f.aH (by subst z;intro x m k O hm;exact E f F i x m k l hi b O hm) h;have M:=AO h;rw[e1,List.foldl_append];simp only[b,this,NA,N3,A0,Cf.toM,iP,M,List.foldl_cons,List.foldl_nil]
  have B:c'.ev=c.ev:=by
   rcases DE v with Z|⟨f',F',i',_,_,_,R,S,V,_⟩
   ·exact Z
   ·rw[l] at R;cases R;rw[hi] at S;cases S;exact absurd V b
  rw[B];clear B v E;generalize c.ev.foldl T sb=s0;rw[N5 b] at h;by_cases p:i.op=15
  ·rw[N6 p] at h;cases h;have:=vV (w:=w) (fuel:=fuel) (N:=N) c g F i.a y (by have:=W.turns;omega);simp only[p,this,NA,N3,A0,Cf.toM];unfold cS;split<;>rfl
  rw[N5 p] at h;by_cases d:i.op=16
  ·rw[N6 d] at h;rw[MP] at h;obtain⟨q,I,rfl⟩:=h;have:=vV (w:=w) (fuel:=fuel) (N:=N) c q.2 F i.a y (by have:=W.turns;omega);unfold kf;by_cases A:q.1.k=1
   ·simp only[d,jh I o,this,A,NA,N3,A0,Cf.toM,if_true];unfold cS;split<;>rfl
   ·by_cases J:q.1.k=2
    ·simp only[d,jh I o,J,NA,N3,A0,if_true];rfl
    ·simp only[d,jh I o,A,J,y,ir,NA,NB,N3,N4,A0,if_false];rfl
  rw[N5 d] at h;by_cases r:i.op=17
  ·rw[N6 r] at h;rw[MP] at h;obtain⟨q,I,rfl⟩:=h;have P:=tF (f:=q.2) (F:=F) d9;have D:=xl (w:=w) (fuel:=fuel) (N:=N) { c with fs:=F } q.1 bK (fun x O=>(U x O).aA);simp only[Cf.toM] at D;have X:(decide ((0:Int)<=(F.length:Int)) && decide ((F.length:Int)<=((q.2::F).reverse.length:Int)))=true:=L9;simp only[NC b,NC p,NC d,ND r,jh I o,P,X,Mk,Cz,D,N3,N4,A0,iP,sG]
  rw[N5 r] at h;by_cases s:i.op=18
  ·rw[N6 s] at h;have:=DD (w:=w) (fuel:=fuel) (N:=N) c g F i o h;have M:c'.heap=c.heap:=by
    unfold ly at h;split at h
    ·obtain⟨x,_,h⟩:=M6 h;split at h
     ·cases h;rfl
     ·obtain⟨cl,_,h⟩:=M6 h;obtain⟨m,_,h⟩:=M6 h;split at h<;>cases h;rfl
    ·cases h
   simp only[NC b,NC p,NC d,NC r,ND s,this,N3,N4,A0,Cf.toM,iP,M]
  rw[N5 s] at h;by_cases t:i.op=21
  ·rw[N6 t] at h;cases h;have:=xo (N:=N) (cl:=w.a7) (H:=c.heap) (ep:=w.aB) (fuel:=fuel) (sends:=c.sends) (turns:=c.turns) (back:=c.back) (g::F).reverse true (by have:=W.sends;omega);simp only[t,y,this,NA,N3,A0];unfold iE;by_cases A:fuel<=c.sends
   ·simp only[A,if_true];rfl
   ·by_cases J:20<=(g::F).length
    ·simp only[A,J,List.length_reverse,if_true,if_false,and_self];rfl
    ·simp only[A,J,List.length_reverse,if_false,and_false];rfl
  rw[N5 t] at h;have:=DV (w:=w) (fuel:=fuel) (N:=N) c W hN y g F G i h;simp only[b,p,d,r,s,t,this,NB,N4,A0,Cf.toM,iP]
end
theorem CE {w:Wd} {fuel:Int} {N:Nat} {gl:St->Int->ByteArray->D6->Option (Int×Int×D6)} {T:D6->St×Int->D6} {sb:D6} {gq:Int->Int->Option (Fs×Bool)} {L:St->Int->ByteArray->Int×Int} {Q:Int->Int->Fs×Bool} (p:1048578<=N)
  (e:∀k j x m,j4 w.a7 k=some x->j4 x.aC j=some m->gq k j=some (Q k j)) (P:Cf->Prop)
  (q:∀c,P c->c.err=0->c.fs≠[]->Wk w Q c/\yi w gl L T sb c/\∃d,P8 w fuel L Q c=some d/\mu fuel d<mu fuel c/\(d.err=0->P d)):∀(n:Nat) (c:Cf),(c.err=0->P c)->mu fuel c<n ->
  ∃c',Path w fuel L Q c c'/\c'.done/\(c'.err=0->P c')/\nD N gl gq n (c.ev.foldl T sb) w.a7 c.heap w.aB fuel c.sends c.turns c.fs.reverse c.back.k c.back.n c.err =
   some (c'.ev.foldl T sb,w.a7,c'.heap,w.aB,fuel,c'.sends,c'.turns,c'.fs.reverse,c'.back.k,c'.back.n,c'.err)
 |0,c,_,h=>d9
 |n+1,c,i,h=>by
  rw[nD];by_cases b:c.err=0
  ·cases a:c.fs with
   |nil =>
    refine⟨c,.refl c,.inr a,i,?_⟩;simp[b,a]
   |cons f F =>
    obtain⟨W,l,d,o,y,r⟩:=q c (i b) b (by rw[a];simp);obtain⟨c',s,t,u,v⟩:=CE p e P q n d r d9;refine⟨c',.step b (by rw[a];simp) o s,t,u,?_⟩;have g:=IU p e c W b l o;have hl:(0:Int)<((f::F).reverse.length:Int):=l9;unfold Cf.toM at g;rw[a] at g;simp only[b,NA,N3,hl,A0,iP];rw[b] at g;rw[g];simp only[A0];exact v
  ·refine⟨c,.refl c,.inl b,i,?_⟩;simp[b]
def HK {w:Wd} {N:Nat} {fuel:Int} {gl:St->Int->ByteArray->D6->Option (Int×Int×D6)} {sb:D6} {gq:Int->Int->Option (Fs×Bool)} (a:D7 w) (c:O9) (b:M4 w c fuel≠0) :
  mX N w c fuel gl sb gq=some (w,⟨⟨0,0⟩,M4 w c fuel,0⟩,sb):=by
 unfold mX;rw[ud];simp only[A0];rw[NC b,ic N w a];rfl
def Ih {w:Wd} {N:Nat} {fuel:Int} {gl:St->Int->ByteArray->D6->Option (Int×Int×D6)} {T:D6->St×Int->D6} {sb:D6} {gq:Int->Int->Option (Fs×Bool)} {L:St->Int->ByteArray->Int×Int} {Q:Int->Int->Fs×Bool} (hN:4194304<=N) (i:D7 w) (S:dT w)
  (h:∀k j x m,j4 w.a7 k=some x->j4 x.aC j=some m->gq k j=some (Q k j)) (P:Cf->Prop)
  (I:∀c,P c->c.err=0->c.fs≠[]->Wk w Q c/\yi w gl L T sb c/\∃a,P8 w fuel L Q c=some a/\mu fuel a<mu fuel c/\(a.err=0->P a))
  (M:∀x∈w.a7,∀m∈x.aC,0<=m.a8/\m.a8<=1000) (R:∀k j,(Q k j).2=true->0<=(Q k j).1.a8/\(Q k j).1.a8<=1000)
  (c:O9) (E:M4 w c fuel=0) (a:Cf) (d:gI w fuel Q c=some a) (s:a.err=0->P a) (O:mu fuel a<1048576) :
  ∃c',Path w fuel L Q a c'/\c'.done/\(c'.err=0->P c')/\mX N w c fuel gl sb gq=some ((hB w c').1,(hB w c').2,c'.ev.foldl T sb):=by
 obtain⟨h1,h2,h3,h4,G,H⟩:=qp E;obtain⟨c',W,X,Y,F⟩:=CE (N:=N) (gl:=gl) (gq:=gq) d9 h P I N a s d9;have t:a.ev=[]:=by
  unfold gI at d;split at d
  ·cases d;rfl
  ·exact(sF d).1
 rw[t] at F;refine⟨c',W,X,Y,?_⟩;unfold mX;rw[ud];simp only[A0,E,NA,MK,N4,ic N w i,rG];have u:fU N (⟨w.a7,w.heap,w.aB⟩:Wd) (H5 w.heap c.aQ) c.name=some (l7 w c.name (H5 w.heap c.aQ)):=lM N w _ _ d9 S i;rw[u];simp only[A0];have b:(nD N gl gq N sb w.a7 a.heap w.aB fuel a.sends a.turns a.fs.reverse a.back.k a.back.n a.err).bind (fun(l,z,A,B,Z,o,v52,v53,C,D,p) =>
   (bif (!decide (p=(0:Int))) then((gd N w).bind fun y=>some (y,(⟨(⟨(0:Int),(0:Int)⟩:V),p,o⟩:dz),l)) else some ((⟨z,A,B⟩:Wd),(⟨(⟨C,D⟩:V),(0:Int),o⟩:dz),l)))=some ((hB w c').1,(hB w c').2,c'.ev.foldl T sb):=by
  rw[show sb=([]:List (St×Int)).foldl T sb from rfl,F];simp only[A0,ic N w i,hB];by_cases q:c'.err=0
  ·rw[ND q,N6 q];rfl
  ·rw[NC q,N5 q];rfl
 unfold gI at d;by_cases r:(l7 w c.name (H5 w.heap c.aQ)).2<0
 ·rw[N6 r] at d;cases d;rw[ND r];simp only[N3,ir,A0];simp only[ic N w i] at b;exact b
 ·rw[N5 r] at d;rw[NC r];have g:c.aQ.k=3->gL c.aQ.n:=G.num;have J:=ru d;have:=vD (N:=N) h M R (cc w) rfl (by simp[cc]) (by simp[cc]) (fun f u=>by cases u) _ _ c.aQ c.args g (fun v U K=>(H v U).num K) d9 a d;have e:(cc w).toM w fuel=(⟨(⟨w.a7,w.heap,w.aB⟩:Wd),fuel,0,0,[],⟨0,0⟩,0⟩:D8):=rfl;rw[e] at this;simp only[N4,this,A0];simp only[ic N w i] at b;rw[J] at b;exact b
theorem B2 (N:Nat) (x:Cl):∀(l:List Cl) (k:Nat),(∀d∈l,d.name≠x.name)->kD N x l k=some (.next ())
 |[],k,_=>rfl
 |d::l,k,h=>by
  rw[kD,NC (h d l9)];exact B2 N x l (k+1) fun e a=>h e (by simp[a])
theorem B1 (N:Nat) (w:Wd) (H:∀j c,w.a7[j]?=some c->lp w j c):∀(l:List Cl) (k:Nat),l=w.a7.drop k->jV N w N8 l k=some (.next ())
 |[],k,h=>rfl
 |c::l,k,h=>by
  obtain⟨o,hl,a⟩:=Z6 h;have a:=of_decide_eq_true a;obtain⟨s,hd,n,d,t,u⟩:=H k c o;have ih:=B1 N w H l (k+1) hl;rw[jV,kJ,s];have q:(decide (0<=(k:Int)) && decide ((k:Int)<=(w.a7.length:Int)))=true:=by simp only[IT,NF];omega
  have m:=B2 N c (w.a7.take (k:Int).toNat) 0 (by simpa using hd);simp only[A0,MK,N4,q,N3,m];by_cases r:k<4
  ·obtain⟨f,p,e1,g,b⟩:=n r;rw[ND (show(k:Int)<4 by omega)];simp only[N3,D5,p,A0,e1,g,b,NA,MK,N4];exact ih
  ·obtain⟨e1,g,b⟩:=d d9;rw[NC (show¬(k:Int)<4 by omega)];simp only[N4,A0];rw[NC (show¬c.aR<0 by omega),NC (show¬(k:Int)<=c.aR by omega)];have i:((bif decide ((0:Int)<c.aR) then some (decide (c.aR<(4:Int))) else some (false)):Option Bool)=some false:=by
    by_cases e:0<c.aR
    ·rw[ND e,NC (show¬c.aR<4 by have:=b e;omega)];rfl
    ·rw[NC e];rfl
   simp only[N4,i,A0];rw[NC (show¬c.aG<0 by omega),NC (show¬6<c.aG by omega)];exact ih
theorem Aq (N:Nat) (k:Nat) (m:Me):∀(l:List Me) (j:Nat),O8 N k m l j true=some true
 |[],j=>rfl
 |p::l,j=>by
  rw[O8];exact Aq N k m l (j+1)
theorem wT (N:Nat) (m:Me) (d:m.args=1) (f:m.a8=0) (g:m.code=[]):∀(l:List Me) (j:Nat),(∃p∈l,p.name=m.name/\p.aU=m.aU)->O8 N 3 m l j false=some true
 |[],j,h=>by obtain⟨p,c,_⟩:=h;cases c
 |q::l,j,h=>by
  rw[O8];by_cases a:q.name=m.name
  ·by_cases b:q.aU=m.aU
   ·simp only[a,b,d,f,g,N4,NA,N3];exact Aq N 3 m l (j+1)
   ·have:∃p∈l,p.name=m.name/\p.aU=m.aU:=by
     obtain⟨p,c,e⟩:=h;rcases MJ.1 c with rfl|c
     ·exact absurd e.2 b
     ·exact⟨p,c,e⟩
    simp only[a,b,N4,NA,NB,N3];exact wT N m d f g l (j+1) this
  ·have:∃p∈l,p.name=m.name/\p.aU=m.aU:=by
    obtain⟨p,c,e⟩:=h;rcases MJ.1 c with rfl|c
    ·exact absurd e.1 a
    ·exact⟨p,c,e⟩
   simp only[a,N4,NB];exact wT N m d f g l (j+1) this
theorem B6 (N:Nat) (w:Wd) (k:Nat) (c:Cl) (s:4194304<=N) (n:D7 w) (o:c∈w.a7) (v:dK c.aC) (u:∀m∈c.aC,mI N w k m):∀(l:List Me) (j:Nat),l=c.aC.drop j->jU N w N8 k c l j=some (.next ())
 |[],j,h=>rfl
 |m::l,j,h=>by
  obtain⟨d,hl,a⟩:=Z6 h;have a:=of_decide_eq_true a;have F:=(n.2.2.1 c o).1;have ih:=B6 N w k c s n o v u l (j+1) hl;have C:j4 N8.a7 3=some ⟨⟨#[73,110,116]⟩,0,0,bt⟩:=rfl;have q:=(n.2.2.1 c o).2 m (MT d);obtain⟨b,g,E⟩:=wV N k m bt 0 false (fun p e=>e) (fun h=>by cases h);obtain⟨f,t⟩:=A9 N w (k:Int) m s n.1 q;rw[jU];have e0:((bif decide ((0:Int)<(j:Int)) then((j4 c.aC (wr ((j:Int)-(1:Int)))).bind fun r=>some ((!Y5 r.name m.name))) else some (false)):Option Bool)=some false:=by
   by_cases H:0<j
   ·have wk:wr ((j:Int)-1)=((j-1:Nat):Int):=by rw[u7 ino];omega
    obtain⟨p,e⟩:∃p,c.aC[j-1]?=some p:=⟨_,IS d9⟩;have a:=lr v e d d9;rw[ND (show(0:Int)<(j:Int) by omega)];simp only[N3,wk,D5,e,A0,a,MK]
   ·rw[NC (show¬(0:Int)<(j:Int) by omega)];rfl
  simp only[e0,C,g,t,A0,N4];rcases u m (MT d) with⟨i,p,e,x,y,z,A,B⟩|⟨G,i,D⟩
  ·subst i;have:=wT N m z A B bt 0 ⟨p,e,x,y⟩;rw[g] at this;cases this;simp only[MK,N4,A0];exact ih
  ·rw[t] at i;cases i;cases b with
   |true=>simp only[MK,N4,A0];exact ih
   |false=>simp only[MU,N3,A0,D,NA,MK,N4];exact ih
theorem As (N:Nat) (w:Wd) (b:4194304<=N) (a:D7 w) (H:∀(j:Nat) c,w.a7[j]?=some c->p8 w (j:Int)<=6/\c.aC.length<=8/\dK c.aC/\∀m∈c.aC,mI N w j m):∀(l:List Cl) (k:Nat),l=w.a7.drop k->lA N w N8 l k=some (.next ())
 |[],k,h=>rfl
 |c::l,k,h=>by
  obtain⟨d,hl,g⟩:=Z6 h;have ih:=As N w b a H l (k+1) hl;obtain⟨i,n,e,f⟩:=H k c d;rw[lA,lC N w (k:Int) d9 a.1];simp only[A0];rw[NC (show¬6<p8 w (k:Int) by omega),NC (show¬(8:Int)<(c.aC.length:Int) by omega)];simp only[N4,B6 N w k c b a (MT d) e f c.aC 0 rfl,A0];exact ih
theorem Aw (N:Nat) (w:Wd):∀(l:List V) (k:Nat),(∀v∈l,ca v (w.heap.length:Int)=0)->kE N w l k=some (.next ())
 |[],k,_=>rfl
 |v::l,k,h=>by
  rw[kE,wP];simp only[A0,h v l9,NA,MK,N4];exact Aw N w l (k+1) fun u a=>h u (by simp[a])
theorem B7 (N:Nat) (w:Wd) (g:4194304<=N) (d:D7 w):∀(l:List Ob) (k:Nat),(∀o∈l,tL w o)->kF N w l k=some (.next ())
 |[],k,_=>rfl
 |o::l,k,h=>by
  obtain⟨j,e,m,c,f⟩:=h o l9;have ih:=B7 N w g d l (k+1) fun x i=>h x (by simp[i]);have b:=lC N w o.cls d9 d.1;rw[kF];simp only[b,Aw N w o.aG 0 f,A0];rw[NC (show¬o.cls<0 by omega),NC (show¬(w.a7.length:Int)<=o.cls by omega)];by_cases a:0<o.cls
  ·rw[ND a,NC (show¬o.cls<4 by have:=e a;omega)];simp only[c,NA,MK,N3,N4,A0];exact ih
  ·rw[NC a];simp only[c,NA,MK,N4,A0];exact ih
def Ip (N:Nat) (w:Wd) (a:4194304<=N) (b:D7 w) (h:I5 N w):nG N w=some 0:=by
 obtain⟨⟨g,i,j⟩,⟨e1,f⟩,c,d,e⟩:=h;unfold nG uq;simp only[A0];rw[NC (show¬(w.a7.length:Int)<4 by omega),NC (show¬(12:Int)<(w.a7.length:Int) by omega),NC (show¬(60:Int)<(w.heap.length:Int) by omega),
  NC (show¬w.aB<0 by omega),NC (show¬1073741824<w.aB by omega)]
 simp only[N4,A0,B1 N w c w.a7 0 rfl,As N w a b d w.a7 0 rfl,B7 N w a b w.heap 0 e]
section
variable {w:Wd} {fuel:Int} {N:Nat}
end
section
variable {w:Wd} {fuel:Int} {N:Nat}
end
def Ii {w:Wd} {N:Nat} (i:4194304<=N) (j:D7 w) (f:I5 N w) {c:O9} {fuel:Int} {r:Wd×dz} (h:iV w c fuel cH r) :
  (r.2.err=0->M4 w c fuel=0/\0<=r.2.sends/\r.2.sends<=fuel/\fuel<=400/\gm w r.1.heap/\r.1=⟨w.a7,r.1.heap,w.aB⟩/\w.heap.length<=r.1.heap.length/\R8 (r.1.heap.length:Int) r.2.value) /\
  (r.2.err≠0->r.1=w/\r.2.value=⟨0,0⟩/\0<=r.2.sends/\r.2.sends<=400):=by
 rcases h with⟨a,rfl⟩|⟨a,x,c',q,s,y,rfl⟩
 ·exact⟨fun e=>absurd e a,fun _=>⟨rfl,rfl,MS _,bK⟩⟩
 ·have W:=f.od i j;have d:0<w.a7.length:=by have:=f.many.1;omega
  obtain⟨_,_,f1,p,_⟩:=qp a;obtain⟨o,g,u,l,m,v,n⟩:=vL (Q:=cH) i j f (fun _ _=>rfl) c a;rw[q] at g;cases g;obtain⟨z,A,k,t⟩:=d18 W d (fun _ _=>rfl) s l n;rw[m] at k;unfold hB;by_cases b:c'.err=0
  ·rw[N6 b];have I:=t b;exact⟨fun _=>⟨a,bK,bK,p,I.heap,rfl,k,I.back⟩,fun h=>absurd rfl h⟩
  ·rw[N5 b];exact⟨fun h=>absurd h b,fun _=>⟨rfl,rfl,bK,bK⟩⟩
theorem I5.heap {w:Wd} {N:Nat} (z:4194304<=N) (b:D7 w) (a:I5 N w) {H:List Ob} (q:gm w H):I5 N ⟨w.a7,H,w.aB⟩/\D7 ⟨w.a7,H,w.aB⟩:=by
 have g:=p6 a;have W:=a.od z b;have x:D7 ⟨w.a7,H,w.aB⟩:=⟨b.1,by have:=q.len;simp only;omega,b.2.2.1,fun o v=>by
  have n:=(q.ob o v).2.2.2.1;have:=W.aG o.cls;omega⟩
 have d:∀(k:Int) (m:Me),aj N ⟨w.a7,H,w.aB⟩ k m=aj N w k m:=by
  intro k m;have e:∀i,bo ⟨w.a7,H,w.aB⟩ k m i=bo w k m i:=fun i=>by
   unfold bo fb;simp only[pC]
  have u:∀(l:List Ins) (j:Nat),dI ⟨w.a7,H,w.aB⟩ k m l j=dI w k m l j:=by
   intro l
   induction l with
   |nil=>intro j;rfl
   |cons i l ih=>intro j;rw[dI,dI,e,ih]
  unfold aj;rw[u]
 refine⟨⟨⟨a.many.1,a.many.2.1,q.len⟩,a.aB,a.cls,fun j c u=>?_,fun o v=>?_⟩,x⟩
 ·obtain⟨n,r,s,t⟩:=a.ak j c u;refine⟨by rw[pC];exact n,r,s,fun m A=>?_⟩;rcases t m A with h|⟨f,p,y⟩
  ·exact .inl h
  ·refine .inr ⟨f,?_,y⟩;rw[om N w _ m d9 b.1 (kP g b.1 _)] at p;rw[om N ⟨w.a7,H,w.aB⟩ _ m d9 b.1 (by rw[pC];exact kP g b.1 _),d];exact p
 ·obtain⟨n,r,s,t,p⟩:=q.ob o v;exact⟨n,r,s,by rw[pC];exact t,p⟩
def kb (w:Wd) (s:St) (n:ByteArray):Prop:=∃x m i,∃j:Nat,j4 w.a7 s.cls=some x/\x.aC[j]?=some m/\m.name=s.name/\j4 m.code s.pos=some i/\i.name=n
def nameAt (w:Wd) (s:St):ByteArray:=match j4 w.a7 s.cls with
 |none=>BY
 |some x=>match bJ s.name x.aC with
  |none=>BY
  |some j=>match x.aC[j]? with
   |none=>BY
   |some m=>match j4 m.code s.pos with
    |none=>BY
    |some i=>i.name
def uE {w:Wd} (d:dT w) {s:St} {n:ByteArray} (h:kb w s n):nameAt w s=n:=by
 obtain⟨x,m,i,j,b,a,c,hi,rfl⟩:=h;have:=DQ (d x (eG b)) a;rw[c] at this;unfold nameAt;simp only[b,this,a,hi]
def iN (w:Wd) (sb:D6) (e:St×Int):D6 :=
 ⟨sb.world,sb.fN,(iG w e.1 e.2 (nameAt w e.1) sb.cells).1,nu e.1 e.2 sb.aX,
  if(iG w e.1 e.2 (nameAt w e.1) sb.cells).2.2.2=true then wr (sb.hO+1) else sb.hO,if(iG w e.1 e.2 (nameAt w e.1) sb.cells).2.2.2=true then sb.not else wr (sb.not+1)⟩
def cd (w:Wd) (l:List Ce):Prop:=∀c∈l,c.aB=w.aB->∀y∈c.lines,∃n,kb w c.site n/\0<=(l7 w n y.cls).2/\(l7 w n y.cls).1=y.found
def k7 (n:Nat) (sb:D6):Prop:=sb.cells.length<=n/\(∀x∈sb.cells,x.lines.length<=n)/\sb.aX.length<=n/\∀t∈sb.aX,t.a7.length<=n
def mG (w:Wd) (ev:List (St×Int)):Prop:=∀e∈ev,∃n,kb w e.1 n
def Bz (e c f:Int) (x:Ce):(iR e c f x).site=x.site/\(iR e c f x).aB=e:=by
 unfold iR Y2 fa;by_cases a:x.aB=e
 ·rw[N6 a];split
  ·exact⟨rfl,a⟩
  ·split<;>exact⟨rfl,a⟩
 ·rw[N5 a];split
  ·exact⟨rfl,rfl⟩
  ·split<;>exact⟨rfl,rfl⟩
def AS (e c f:Int) (x:Ce):(∀y∈(iR e c f x).lines,(x.aB=e/\y∈x.lines)\/y=⟨c,f⟩)/\(iR e c f x).lines.length<=x.lines.length+1:=by
 unfold iR Y2 fa;by_cases b:x.aB=e
 ·rw[N6 b];split
  ·exact⟨fun y a=>.inl ⟨b,a⟩,d9⟩
  ·split
   ·exact⟨fun y a=>by simp at a,l9⟩
   ·refine⟨fun y a=>?_,l9⟩;simp only[MY,Ml] at a;rcases a with a|a
    ·exact .inl ⟨b,a⟩
    ·exact .inr a
 ·rw[N5 b];split
  ·exact⟨fun y a=>by simp at a,l9⟩
  ·split
   ·exact⟨fun y a=>by simp at a,l9⟩
   ·refine⟨fun y a=>?_,l9⟩;simp only[List.nil_append,Ml] at a;exact .inr a
theorem vI {s:St} {e c f:Int}:∀{l:List Ce} {x:Ce},x∈iT s e c f l->x∈l\/∃y,(y∈l\/y=⟨s,e,false,[]⟩)/\y.site=s/\x=iR e c f y
 |[],x,h=>by
  rw[iT,Ml] at h;exact .inr ⟨_,.inr rfl,rfl,h⟩
 |y::l,x,h=>by
  rw[iT] at h;split at h
  ·rename_i d;rcases MJ.1 h with h|h
   ·exact .inr ⟨y,.inl l9,d,h⟩
   ·exact .inl (by simp[h])
  ·rcases MJ.1 h with h|h
   ·exact .inl (by simp[h])
   ·rcases vI h with h|⟨z,a,b⟩
    ·exact .inl (by simp[h])
    ·exact .inr ⟨z,a.imp (fun h=>by simp[h]) id,b⟩
theorem CU {s:St} {e c f:Int}:∀l:List Ce,(iT s e c f l).length<=l.length+1
 |[]=>by simp[iT]
 |x::l=>by
  rw[iT];split
  ·simp
  ·have:=CU (s:=s) (e:=e) (c:=c) (f:=f) l;simp only[MO];omega
def d54 {w:Wd} {s:St} {n:ByteArray} {c:Int} {l:List Ce} (h:cd w l) (k:kb w s n) (j:0<=(l7 w n c).2):cd w (iT s w.aB c (l7 w n c).1 l):=by
 intro x b i y f;rcases vI b with b|⟨z,d,a,rfl⟩
 ·exact h x b i y f
 ·rw[(Bz _ _ _ _).1,a];rcases(AS _ _ _ _).1 y f with⟨g,e⟩|rfl
  ·rcases d with d|rfl
   ·have:=h z d g y e
    rwa [a] at this
   ·simp at e
  ·exact⟨n,k,j,rfl⟩
theorem C1 {c:Int}:∀{l:List Ln},0<=ke c l->∃y∈l,y.cls=c/\y.found=ke c l
 |[],h=>by simp[ke] at h
 |y::l,h=>by
  rw[ke] at h⊢;split
  ·rename_i e;exact⟨y,l9,e,rfl⟩
  ·rename_i e;rw[N5 e] at h;obtain⟨z,a,b⟩:=C1 h;exact⟨z,by simp[a],b⟩
theorem Cp {s:St} {e c:Int}:∀{l:List Ce},0<=dv s e c l->∃x∈l,x.site=s/\x.aB=e/\∃y∈x.lines,y.cls=c/\y.found=dv s e c l
 |[],h=>by simp[dv] at h
 |x::l,h=>by
  rw[dv] at h⊢;by_cases b:x.site=s
  ·rw[N6 b] at h⊢;by_cases a:x.aB=e
   ·rw[N6 a] at h⊢;exact⟨x,l9,b,a,C1 h⟩
   ·rw[N5 a] at h;exact absurd h G7
  ·rw[N5 b] at h⊢;obtain⟨z,d,f⟩:=Cp h;exact⟨z,by simp[d],f⟩
def d34 {w:Wd} (b:dT w) {s:St} {n:ByteArray} {c:Int} {l:List Ce} (h:cd w l) (m:kb w s n) (k:0<=dv s w.aB c l):dv s w.aB c l=(l7 w n c).1/\0<=(l7 w n c).2/\dv s w.aB c l<w.a7.length:=by
 obtain⟨x,o,f,g,y,p,i,j⟩:=Cp k;obtain⟨r,d,a,e⟩:=h x o g y p;rw[f] at d;obtain rfl:r=n:=(uE b d).symm.trans (uE b m);rw[i] at a e;obtain⟨z,_,q,_⟩:=rP a;have:=(fX q).2;rw[<-j,<-e];exact⟨rfl,a,this⟩
def CV {w:Wd} (g:dT w) {s:St} {n:ByteArray} {c:Int} {l:List Ce} (h:cd w l) (f:kb w s n):(iG w s c n l).2.1=(l7 w n c).1/\(iG w s c n l).2.2.1=(l7 w n c).2 /\
  (iG w s c n l).2.2.2=decide (0<=dv s w.aB c l)/\(iG w s c n l).1=(if 0<=dv s w.aB c l then l else if(l7 w n c).2<0 then l else iT s w.aB c (l7 w n c).1 l):=by
 unfold iG;by_cases a:0<=dv s w.aB c l
 ·obtain⟨g1,b,d⟩:=d34 g h f a;rw[N6 ⟨a,d⟩,N6 a,ND a,g1,HZ b];exact⟨rfl,rfl,rfl,rfl⟩
 ·rw[N5 (fun e=>a e.1),N5 a,NC a];split<;>exact⟨rfl,rfl,rfl,rfl⟩
def Jh {s:St} {c:Int} {n:Nat} {l:List Tl} (h:l.length<=n) (b:∀t∈l,t.a7.length<=n):(nu s c l).length<=n+1/\∀t∈nu s c l,t.a7.length<=n+1:=by
 have d:∀l:List Tl,(∀t∈l,t.a7.length<=n)->∀t∈(fT s c l).1,t.a7.length<=n+1:=by
  intro l
  induction l with
  |nil=>intro _ t a;cases a
  |cons x l ih =>
   intro h t a;unfold fT at a;split at a
   ·rcases MJ.1 a with rfl|a
    ·have:=d99 c x.a7;have:=h x l9;show(qP c x.a7).length<=n+1;omega
    ·have:=h t (by simp[a]);omega
   ·rcases MJ.1 a with rfl|a
    ·have:=h t l9;omega
    ·exact ih (fun t a=>h t (by simp[a])) t a
 have hl:=Br s c l;unfold nu;split
 ·exact⟨d9,d l b⟩
 ·refine⟨L9,fun t a=>?_⟩;rcases MY.1 a with a|a
  ·exact d l b t a
  ·rw[Ml] at a;subst a;simp
def KG {w:Wd} (j:dT w) {sb:D6} {e:St×Int} {n:Nat} (o:∃m,kb w e.1 m) (d:k7 n sb) (g:cd w sb.cells):k7 (n+1) (iN w sb e)/\cd w (iN w sb e).cells:=by
 obtain⟨m,i⟩:=o;obtain⟨z1,z2,z3,z4⟩:=d;have l:=uE j i;obtain⟨_,_,_,k⟩:=CV (c:=e.2) j g i;have h:=Jh (s:=e.1) (c:=e.2) z3 z4;unfold k7 iN;simp only[l,k];have a:sb.cells.length<=n+1/\∀x∈sb.cells,x.lines.length<=n+1:=⟨d9,fun x b=>by have:=z2 x b;omega⟩;split
 ·exact⟨⟨a.1,a.2,h⟩,g⟩
 ·split
  ·exact⟨⟨a.1,a.2,h⟩,g⟩
  ·rename_i p;refine⟨⟨?_,fun x b=>?_,h⟩,d54 g i d9⟩
   ·have:=CU (s:=e.1) (e:=w.aB) (c:=e.2) (f:=(l7 w m e.2).1) sb.cells;omega
   ·rcases vI b with b|⟨z,d,_,rfl⟩
    ·exact a.2 x b
    ·have:=(AS w.aB e.2 (l7 w m e.2).1 z).2;rcases d with d|rfl
     ·have:=z2 z d;omega
     ·simp only[Mt] at this;omega
theorem wb {w:Wd} (c:dT w):∀{ev:List (St×Int)} {sb:D6} {n:Nat},mG w ev->k7 n sb->cd w sb.cells->k7 (n+ev.length) (ev.foldl (iN w) sb)/\cd w (ev.foldl (iN w) sb).cells
 |[],sb,n,_,b,a=>⟨b,a⟩
 |e::ev,sb,n,he,b,a=>by
  obtain⟨d,f⟩:=KG c (he e l9) b a;have:=wb c (show mG w ev from fun x g=>he x (Mv _ g)) d f;rw[List.foldl_cons,MO,show n+(ev.length+1)=n+1+ev.length by omega];exact this
def Kn {w:Wd} (N:Nat) (f:1048578<=N) (a:dT w) (h:D7 w) {sb:D6} {s:St} {k:Int} {n:ByteArray} {z:Nat} (l:k7 z sb) (m:z<=1099511627770) (g:cd w sb.cells) (b:kb w s n) :
  ov N s k n sb w=some ((l7 w n k).1,(l7 w n k).2,iN w sb (s,k)):=by
 obtain⟨z1,z2,z3,z4⟩:=l;obtain⟨d,e,o,p⟩:=CV (c:=k) a g b;unfold ov iN;rw[Gu N sb.cells w s k n f a h ⟨d9,fun x j=>by have:=z2 x j;omega⟩,HC N sb.aX s k (fun t i=>by have:=z4 t i;omega) d9];simp only[A0,uE a b,d,e];cases (iG w s k n sb.cells).2.2.2<;>rfl
section
variable {w:Wd} {fuel:Int} {N:Nat}
structure sY (w:Wd) (fuel:Int) (c:Cf):Prop where
 inv:cz w fuel c
 len:(c.ev.length:Int)<=c.sends
 ok:mG w c.ev
def Ac {c:Cf} (I:cz w fuel c) {f:j3} {F:List j3} (d:c.fs=f::F) {i:Ins} {x:Cl} {m:Me} (hi:j4 f.code f.aH=some i) (h:j4 w.a7 f.aI=some x) (g:j4 x.aC f.aK=some m):kb w (S9 f m i f.aH) i.name:=by
 have e:=I.fs;rw[d] at e;obtain⟨⟨l,k,R⟩,_⟩:=e;obtain⟨n,b,a⟩:=R.ak;rw[h] at b;cases b;rw[g] at a;cases a;rw[R.code] at hi;have j:S9 f m i f.aH=⟨f.aI,m.name,f.aH⟩:=by unfold S9;rw[R.bm];rfl
 rw[j];exact⟨x,m,i,f.aK.toNat,h,(l6 g).2,rfl,hi,rfl⟩
def Be {Q:Int->Int->Fs×Bool} (W:cZ w) (z:0<w.a7.length) (A:∀k j,(Q k j).2=false) {c g:Cf} (I:sY w fuel c) (b:c.err=0) (o:c.fs≠[]) (l:P8 w fuel (fun _ k s=>l7 w s k) Q c=some g) :
  (g.err=0->sY w fuel g)/\mG w g.ev/\g.ev.length<=c.ev.length+1:=by
 cases a:c.fs with
 |nil=>exact absurd a o
 |cons f F =>
  obtain⟨y,r,p⟩:=sU (Q:=Q) W z A I.inv b a;rw[l] at r;cases r;rcases DE l with h|⟨E,C,i,x,m,k,q,t,D,u,v,n,d⟩
  ·rw[h];refine⟨fun e=>⟨p.inv e,?_,by rw[h];exact I.ok⟩,I.ok,d9⟩;rw[h];exact Int.le_trans I.len p.sends.1
  ·rw[a] at q;cases q;have B:=Ac I.inv a t u v;have aP:mG w g.ev:=by
    rw[n];intro e b;rcases MY.1 b with b|b
    ·exact I.ok e b
    ·rw[Ml] at b;subst b;exact⟨_,B⟩
   refine⟨fun e=>⟨p.inv e,?_,aP⟩,aP,by rw[n];simp⟩;rcases d with⟨_,d⟩|⟨_,d|d⟩
   ·rw[d] at e;cases e
   ·exact absurd e d
   ·rw[d,n];have:=I.len;simp;omega
def KZ {Q:Int->Int->Fs×Bool} (W:cZ w) (h:0<w.a7.length) (i:∀k j,(Q k j).2=false) {c c':Cf} (p:Path w fuel (fun _ k s=>l7 w s k) Q c c') (b:c.err=0->sY w fuel c) (aP:mG w c.ev) (hl:c.ev.length<=401) :
  mG w c'.ev/\c'.ev.length<=401:=by
 induction p with
 |refl=>exact⟨aP,hl⟩
 |@step c n o a d e _ ih =>
  obtain⟨f,g,m⟩:=Be W h i (b a) a d e;have q:=(b a).inv.sends;have l:=(b a).len;exact ih f g d9
def JL {Q:Int->Int->Fs×Bool} {c:O9} {b:Cf} (a:gI w fuel Q c=some b):b.ev=[]:=by
 unfold gI at a;split at a
 ·cases a;rfl
 ·exact(sF a).1
end
def Ig {w:Wd} {N:Nat} {fuel:Int} (G:4194304<=N) (B:D7 w) (u:I5 N w) (c:O9) (l:List Ce) (t:List Tl) (z:Nat) (v:k7 z ⟨⟨[],[],0⟩,⟨⟨0,0⟩,0,0⟩,l,t,0,0⟩) (hz2:z<=1099511627000) (Y:cd w l) :
  ∃r ev sb,sC N w c fuel l t=some ⟨r.1,r.2,sb.cells,sb.aX,sb.hO,sb.not⟩/\qW w c fuel r ev/\sb=ev.foldl (iN w) ⟨⟨[],[],0⟩,⟨⟨0,0⟩,0,0⟩,l,t,0,0⟩/\mG w ev/\ev.length<=401:=by
 have W:=u.od G B;have g:0<w.a7.length:=by have:=u.many.1;omega
 unfold sC;rw[w8 N ⟨by have:=v.1;simp only at this;omega,fun x D=>by have:=v.2.1 x D;omega⟩,BF N (fun x D=>by have:=v.2.2.2 x D;omega) (by have:=v.2.2.1;simp only at this;omega)];simp only[A0];generalize J:(⟨⟨[],[],0⟩,⟨⟨0,0⟩,0,0⟩,l,t,0,0⟩:D6)=sb at v⊢;have H:cd w sb.cells:=by rw[<-J];exact Y
 by_cases C:M4 w c fuel=0
 ·obtain⟨q,E,P,b3,b4,R,S⟩:=vL (Q:=cH) G B u (fun _ _=>rfl) c C;have a:=JL E;have y:q.err=0->sY w fuel q:=fun e=>⟨S e,by rw[a];simpa using P,by rw[a];intro e d;cases d⟩;obtain⟨c',O,p2,p3,p4⟩:=Ih (gl:=fun o p K s_=>ov N o p K s_ w) (gq:=fun o p=>pb N o p) (T:=iN w) (sb:=sb) (Q:=cH) (L:=fun _ k s=>l7 w s k) G B u.ct (fun k j x m _ _=>rfl) (sY w fuel)
   (fun c I d A=>by
    refine⟨I.inv.wk W (fun k j h=>by cases h),?_,?_⟩
    ·intro f F i x m k b hi V D X;have n:=Ac I.inv b hi D X;obtain⟨t1,t2⟩:=wb u.ct I.ok v H;have hl:=I.len;have Z:=I.inv.sends;exact Kn N d9 u.ct B t1 d9 t2 n
    ·cases b:c.fs with
     |nil=>exact absurd b A
     |cons f F =>
      obtain⟨q,M,k2⟩:=sU (Q:=cH) W g (fun _ _=>rfl) I.inv d b;exact⟨q,M,k2.mu,(Be W g (fun _ _=>rfl) I d A M).1⟩) W.a8 (fun k j h=>by cases h) c C q E y R
  obtain⟨e1,U⟩:=KZ W g (fun _ _=>rfl) O y (by rw[a];intro e d;cases d) (by rw[a];simp);refine⟨hB w c',c'.ev,c'.ev.foldl (iN w) sb,?_,.inr ⟨C,q,c',E,O,p2,rfl,rfl⟩,rfl,e1,U⟩;rw[p4];rfl
 ·refine⟨(w,⟨⟨0,0⟩,M4 w c fuel,0⟩),[],sb,?_,.inl ⟨C,rfl,rfl⟩,rfl,(fun e d=>by cases d),l9⟩;rw[HK B c C];rfl
def iS (s:ByteArray) (l:List Cl):Bool:=l.any fun x=>decide (x.name=s)
def hX : Wd:=⟨[],[],0⟩
def gv (w:Wd) (s:ByteArray) (c n:Int):Wd×Int×Int :=
 if Y4 s=false\/iS s w.a7=true then(hX,0,7)
 else if c<0\/(w.a7.length:Int)<=c then(hX,0,6)
 else if n<0\/6-p8 w c<n\/(c≠0/\c<4) then(hX,0,3)
 else if 12<=w.a7.length then(hX,0,5)
 else(⟨w.a7++[⟨s,c,n,[]⟩],w.heap,w.aB⟩,(w.a7.length:Int),0)
theorem Dw (N:Nat) (s:ByteArray):∀(l:List Cl) (k:Nat),∃o,F3 N (fun b=>oz N b s) l k=some o/\(match o with|.ret r=>0<=r/\iS s l=true|.next ()=>iS s l=false)
 |[],k=>⟨_,rfl,rfl⟩
 |x::l,k=>by
  rw[F3,oz];simp only[A0];by_cases h:x.name=s
  ·exact⟨.ret (k:Int),by simp[h],by simp[iS,h]⟩
  ·obtain⟨o,d,a⟩:=Dw N s l (k+1);refine⟨o,by simp[h,d],?_⟩;cases o with
   |ret r=>exact⟨a.1,by have:=a.2;unfold iS at this⊢;simp[this]⟩
   |next u=>show iS s (x::l)=false;have c:iS s l=false:=a;unfold iS at c⊢;simp only[List.any_cons,c,h,NB,Bool.or_false]
def has_eq (N:Nat) (s:ByteArray) (l:List Cl):J7 N l (fun b=>oz N b s)=some (iS s l):=by
 unfold J7 U8;obtain⟨o,e,c⟩:=Dw N s l 0;rw[e];cases o with
 |ret r=>obtain⟨a,d⟩:=c;simp[a,d]
 |next u=>have a:iS s l=false:=c;simp[a]
def H3 (N:Nat) (w:Wd) (s:ByteArray) (c n:Int) (k:1048578<=N) (d:D7 w) (l:∀x∈w.a7,0<=x.aG/\x.aG<=6):sB N w s c n=some (gv w s c n):=by
 unfold sB gv;have hS:=kP l d.1 c;rw[qn,has_eq,oq N w c k d.1,GX N w d];have m:wr (6-p8 w c)=6-p8 w c:=u7 ino;simp only[A0,m];cases o:Y4 s with
 |false=>simp[hX]
 |true =>
 cases p:iS s w.a7 with
 |true=>simp[hX]
 |false =>
 simp only[MK,N4,A0];by_cases f:c<0
 ·simp[f,hX]
 by_cases i:(w.a7.length:Int)<=c
 ·simp[f,i,hX]
 simp only[f,i,NB,N4,A0];by_cases g:n<0
 ·simp[g,hX]
 by_cases j:6-p8 w c<n
 ·simp[g,j,hX]
 simp only[g,j,NB,N4,A0];by_cases e:c=0
 ·subst e;by_cases b:(12:Int)<=(w.a7.length:Int)
  ·have a:12<=w.a7.length:=d9;simp[b,a,hX]
  ·have a:¬12<=w.a7.length:=d9;have:=d.1;simp only[b,a,NA,NB,N4,A0,MK];rw[F9 L9];simp
 ·by_cases h:c<4
  ·simp[e,h,hX]
  ·by_cases b:(12:Int)<=(w.a7.length:Int)
   ·have a:12<=w.a7.length:=d9;simp[e,h,b,a,hX]
   ·have a:¬12<=w.a7.length:=d9;have:=d.1;simp only[e,h,b,a,NB,N4,N3,A0,MU];rw[F9 L9];simp
def cy (m:Me):List Me->List Me
 |[]=>[m]
 |x::r=>if x.name=m.name then m::r else if Y5 m.name x.name=true then m::x::r else x::cy m r
theorem Bg (m:Me):∀(ms:List Me) (v:Nat),dK ms->v<=ms.length->(∀i x,i<v->ms[i]?=some x->Y5 x.name m.name=true)->(∀i x,v<=i->ms[i]?=some x->Y5 x.name m.name=false) ->
  cy m ms=if(bJ m.name ms).isSome=true then ms.set v m else ms.take v++m::ms.drop v
 |[],v,_,h,_,_=>by simp[cy,bJ]
 |x::r,0,hr,_,_,h2=>by
  have a:=h2 0 x (It _) rfl;by_cases e:x.name=m.name
  ·simp[cy,bJ,e]
  ·have b:Y5 m.name x.name=true:=by
    cases q:Y5 m.name x.name with
    |true=>rfl
    |false=>exact absurd (E0 a q) e
   have g:(bJ m.name (x::r)).isSome=false:=by
    cases q:bJ m.name (x::r) with
    |none=>rfl
    |some j =>
     obtain⟨k,d,f⟩:=jb q;cases j with
     |zero=>cases d;exact absurd f e
     |succ j =>
      have:=lr hr (i:=0) (j:=j+1) rfl d d9;rw[f,a] at this;cases this
   simp only[g];rw[cy,N5 e,N6 b];rfl
 |x::r,v+1,hr,h,h1,h2=>by
  have a:=h1 0 x (Nat.succ_pos _) rfl;have e:x.name≠m.name:=LY a;have ih:=Bg m r v (List.pairwise_cons.1 hr).2 (by simpa using h) (fun i y hi c=>h1 (i+1) y d9 (by simpa using c)) (fun i y hi c=>h2 (i+1) y d9 (by simpa using c));rw[cy,N5 e,N5 (by rw[DO a];decide),ih];have:(bJ m.name (x::r)).isSome=(bJ m.name r).isSome:=by
   rw[bJ,N5 e];cases bJ m.name r<;>rfl
  rw[this];by_cases q:(bJ m.name r).isSome=true
  ·simp[q]
  ·simp[q]
def iO (w:Wd) (c:Int) (m:Me):Wd×Int :=
 if 0<=c then(match w.a7[c.toNat]? with
  |none=>(⟨[],[],0⟩,6)
  |some x=>if(bJ m.name x.aC).isSome=false/\8<=x.aC.length then(⟨[],[],0⟩,5)
   else(⟨w.a7.set c.toNat ⟨x.name,x.aR,x.aG,cy m x.aC⟩,w.heap,wr (w.aB+1)⟩,0)) else(⟨[],[],0⟩,6)
def GB (N:Nat) (w:Wd) (c:Int) (m:Me) (H:1048578<=N) (n:D7 w) (s:dT w) (E:m.code.length<=1048576):rU N w c m=some (iO w c m):=by
 unfold rU iO;by_cases k:c<0
 ·have:¬0<=c:=d9;simp[k,this]
 have b:0<=c:=d9;by_cases q:(w.a7.length:Int)<=c
 ·have:w.a7[c.toNat]?=none:=Mi d9;simp[k,b,q,this]
 obtain⟨x,o,p⟩:=dc (l:=w.a7) b d9;have a:=MT o;obtain⟨v,t,u,j,z,A⟩:=AW N x.aC m.name d9 (n.2.2.1 x a).1 (s x a);have h:=Bg m x.aC v (s x a) j z A;have D:c.toNat<w.a7.length:=d9;simp only[k,b,q,o,p,t,NB,N4,A0,if_true,GR N w n,uU N m E];cases hi:(bJ m.name x.aC).isSome with
 |true =>
  obtain⟨i,e⟩:=Option.isSome_iff_exists.1 hi;obtain⟨y,G,_⟩:=jb e;have F:v=i:=by have:=u i e;omega
  subst F;rw[hi] at h;simp only[MK,N4,A0,o,D5,G];simp[h]
 |false =>
  have hl:=(n.2.2.1 x a).1;rw[hi] at h;by_cases r:8<=x.aC.length
  ·have d:(8:Int)<=(x.aC.length:Int):=d9;simp[r,d]
  ·have d:¬(8:Int)<=(x.aC.length:Int):=d9;have f:rC N x.aC (v:Int) [(⟨BY,(0:Int),(0:Int),(0:Int),[]⟩:Me)]=some (x.aC.take v++(⟨BY,0,0,0,[]⟩:Me)::x.aC.drop v):=by
    unfold rC;rw[F9 d9];have:(v:Int)<=(x.aC.length:Int):=d9;simp[this]
   simp only[f,r,d,MU,N3,N4,NB,A0,and_false,if_false];have g:(w.a7.set c.toNat (⟨x.name,x.aR,x.aG,x.aC.take v++(⟨BY,0,0,0,[]⟩:Me)::x.aC.drop v⟩:Cl))[c.toNat]?=some (⟨x.name,x.aR,x.aG,x.aC.take v++(⟨BY,0,0,0,[]⟩:Me)::x.aC.drop v⟩:Cl):=by
    rw[List.getElem?_set_self D]
   have B:j4 (x.aC.take v++(⟨BY,0,0,0,[]⟩:Me)::x.aC.drop v) (v:Int)=some (⟨BY,0,0,0,[]⟩:Me):=by
    rw[D5,Mf L9];simp[Nat.min_eq_left j]
   have C:(x.aC.take v++(⟨BY,0,0,0,[]⟩:Me)::x.aC.drop v).set v m=x.aC.take v++m::x.aC.drop v:=by
    rw[List.set_append_right _ _ L9];simp[Nat.min_eq_left j]
   simp only[g,B,A0,List.set_set,Mk,C,h,Mp,if_false]
structure Ext (w w':Wd):Prop where
 sup:∀(j:Nat) x,w.a7[j]?=some x->x.aR<j
 cls:∀(j:Nat) x,w.a7[j]?=some x->∃x',w'.a7[j]?=some x'/\x'.aR=x.aR/\x'.aG=x.aG
theorem Ext.len {w w':Wd} (h:Ext w w'):w.a7.length<=w'.a7.length:=by
 rcases Nat.lt_or_ge w'.a7.length w.a7.length with hl|hl
 ·obtain⟨b,a,_⟩:=h.cls w'.a7.length _ (IS hl);have:=(MI.1 a).1;omega
 ·exact hl
def DW (w:Wd) (n:Nat) {c:Int} (h:c<0):bf w n c=[]:=by
 cases n with
 |zero=>rfl
 |succ n=>rw[bf,N5 d9]
theorem Ext.qj {w w':Wd} (h:Ext w w'):∀(c:Nat),c<w.a7.length->∀n b,c<n->c<b->bf w' b (c:Int)=bf w n (c:Int):=by
 intro c
 induction c using Nat.strongRecOn with
 |ind c ih =>
  intro j n b o k;obtain⟨n,rfl⟩:∃m,n=m+1:=⟨n-1,d9⟩;obtain⟨b,rfl⟩:∃m,b=m+1:=⟨b - 1,d9⟩;have f:=IS j;obtain⟨p,g,i,_⟩:=h.cls c _ f;have l:=h.sup c _ f;rw[bf,bf,N6 (Int.natCast_nonneg c),N6 (Int.natCast_nonneg c),Mk,g,f];simp only[i];rcases Int.lt_or_le (w.a7[c]).aR 0 with a|d
  ·rw[DW _ _ a,DW _ _ a]
  ·obtain⟨s,e⟩:=Int.eq_ofNat_of_zero_le d;rw[e] at l⊢;rw[ih s d9 d9 n b d9 d9]
theorem Ext.aG {w w':Wd} (h:Ext w w') {c:Nat} (f:c<w.a7.length):p8 w' (c:Int)=p8 w (c:Int):=by
 unfold p8;have:=h.len;rw[h.qj c f (w.a7.length+1) (w'.a7.length+1) d9 d9];have a:=yM w (w.a7.length+1) (c:Int);generalize bf w (w.a7.length+1) (c:Int)=l at a;generalize (0:Int)=z
 induction l generalizing z with
 |nil=>rfl
 |cons k l ih =>
  obtain⟨j,m⟩:=a k l9;have b:=IS (l:=w.a7) (i:=k.toNat) d9;obtain⟨n,d,_,e⟩:=h.cls _ _ b;simp only[List.foldl_cons,d,b,e];exact ih (fun q g=>a q (by simp[g])) _
def KN {w w':Wd} {c:Int} {m:Me} {i:Ins} (f:p8 w' c=p8 w c) (hl:w.a7.length<=w'.a7.length) (h:bo w c m i=0):bo w' c m i=0:=by
 unfold bo at h⊢;have key:∀b,fb w c m i=some b->b=true->fb w' c m i=some true:=by
  intro b;unfold fb;rw[f];split
  ·intro e a;rw[e,a]
  split
  ·intro e a;rw[e,a]
  split
  ·intro e a;rw[e,a]
  split
  ·intro e a;rw[e,a]
  split
  ·intro e a;rw[e,a]
  split
  ·intro e a;cases e;simp only[Bool.or_eq_true,IT,NF] at a;simp only[Option.some.injEq,Bool.or_eq_true,IT,NF];omega
  split
  ·intro e a;rw[e,a]
  split
  ·intro e a;rw[e,a]
  ·intro e;cases e
 cases d:fb w c m i with
 |none=>rw[d] at h;cases h
 |some b =>
  rw[d] at h;cases b with
  |false=>cases h
  |true=>rw[key true d rfl];exact h
theorem Bi {w w':Wd} {c:Int} {m:Me} (a:p8 w' c=p8 w c) (hl:w.a7.length<=w'.a7.length):∀{l:List Ins} {k:Nat},dI w c m l k=.next ()->dI w' c m l k=.next ()
 |[],_,_=>rfl
 |i::l,k,h=>by
  rw[dI] at h⊢;by_cases hi:bo w c m i=0
  ·rw[N6 hi] at h;rw[N6 (KN a hl hi)];exact Bi a hl h
  ·rw[N5 hi] at h;cases h
theorem d11 {w:Wd} {c:Int} {m:Me}:∀{l:List Ins} {k:Nat} {f:cu},dI w c m l k=.ret f->f.err≠0
 |[],_,_,h=>by cases h
 |i::l,k,f,h=>by
  rw[dI] at h;by_cases hi:bo w c m i=0
  ·rw[N6 hi] at h;exact d11 h
  ·rw[N5 hi] at h;cases h;exact hi
def uQ {N:Nat} {w w':Wd} {c:Int} {m:Me} (k:p8 w' c=p8 w c) (hl:w.a7.length<=w'.a7.length) {f:cu} (h:aj N w c m=some f) (a:f.err=0):∃d,aj N w' c m=some d/\d.err=0:=by
 unfold aj at h⊢;split at h
 ·cases h;cases a
 rename_i l;rw[N5 d9];split at h
 ·cases h;cases a
 rename_i e;rw[N5 e];split at h
 ·cases h;cases a
 rename_i g;rw[N5 g];split at h
 ·cases h;cases a
 rename_i i;rw[N5 i];split at h
 ·cases h;cases a
 rename_i j;rw[N5 j];cases b:dI w c m m.code 0 with
 |ret r=>rw[b] at h;cases h;exact absurd a (d11 b)
 |next u=>rw[b] at h;rw[Bi k hl b];exact⟨f,h,a⟩
def xh {N:Nat} {w:Wd} (u:4194304<=N) (many:4<=w.a7.length/\w.a7.length<=12/\w.heap.length<=60) (aB:0<=w.aB/\w.aB<=1073741824) (cls:∀(j:Nat) c,w.a7[j]?=some c->lp w j c)
  (ak:∀(j:Nat) c,w.a7[j]?=some c->p8 w (j:Int)<=6/\c.aC.length<=8/\dK c.aC/\∀m∈c.aC,ns j m\/∃f,aj N w (j:Int) m=some f/\f.err=0) (obj:∀o∈w.heap,tL w o):I5 N w/\D7 w:=by
 have e:∀x∈w.a7,0<=x.aG/\x.aG<=6:=fun x l=>by
  obtain⟨j,i⟩:=N0.1 l;exact(cls j x i).2.2.2.2
 have b:w.a7.length<=1048576:=d9;have r:I5 N w:=⟨many,aB,cls,fun j c s=>by
  obtain⟨p,n,q,g⟩:=ak j c s;refine⟨p,n,q,fun m k=>?_⟩;rcases g m k with h|⟨f,a,d⟩
  ·exact .inl h
  ·exact .inr ⟨f,by rw[om N w _ m d9 b (kP e b _)];exact a,d⟩,obj⟩
 refine⟨r,b,d9,fun x l=>?_,fun o t=>?_⟩
 ·obtain⟨j,i⟩:=N0.1 l;obtain⟨_,n,_,g⟩:=ak j x i;refine⟨d9,fun m k=>?_⟩;rcases g m k with⟨_,_,_,_,_,_,_,h⟩|⟨f,a,d⟩
  ·rw[h];simp
  ·unfold aj at a;split at a
   ·cases a;cases d
   split at a
   ·cases a;cases d
   split at a
   ·cases a;cases d
   split at a
   ·cases a;cases d
   split at a
   ·cases a;cases d
   ·omega
 ·have:=(obj o t).2.2.2.1;have:=wz e many.2.1 o.cls;omega
theorem I5.vX {N:Nat} {w:Wd} (k:4194304<=N) (b:D7 w) (h:I5 N w) {j:Nat} {c:Cl} (g:w.a7[j]?=some c) {m:Me} (i:m∈c.aC):ns j m\/∃f,aj N w (j:Int) m=some f/\f.err=0:=by
 rcases(h.ak j c g).2.2.2 m i with d|⟨f,a,e⟩
 ·exact .inl d
 ·exact .inr ⟨f,by rw[om N w _ m d9 b.1 (kP (p6 h) b.1 _)] at a;exact a,e⟩
theorem I5.sup {N:Nat} {w:Wd} (h:I5 N w) (j:Nat) (x:Cl) (g:w.a7[j]?=some x):x.aR<j:=by
 obtain⟨_,_,b,c,_⟩:=h.cls j x g;rcases Nat.lt_or_ge j 4 with a|a
 ·obtain⟨f,d,_,e,_⟩:=b a;rw[e];have:j=0\/j=1\/j=2\/j=3:=d9;rcases this with rfl|rfl|rfl|rfl<;>(cases d;decide)
 ·exact(c a).2.1
theorem I5.other {w:Wd} {N:Nat} (p:4194304<=N) (y:D7 w) (a:I5 N w) {H:List Ob} (n:gm w H) {e:Int} (t:0<=e/\e<=1073741824):I5 N ⟨w.a7,H,e⟩/\D7 ⟨w.a7,H,e⟩:=by
 have k:Ext w ⟨w.a7,H,e⟩:=⟨a.sup,fun j x z=>⟨x,z,rfl,rfl⟩⟩;refine xh p ⟨a.many.1,a.many.2.1,n.len⟩ t a.cls (fun j c l=>?_) fun o v=>?_
 ·have q:=(MI.1 l).1;obtain⟨b,d,g,_⟩:=a.ak j c l;refine⟨by rw[k.aG q];exact b,d,g,fun m u=>?_⟩;rcases a.vX p y l u with h|⟨f,i,s⟩
  ·exact .inl h
  ·exact .inr (uQ (k.aG q) k.len i s)
 ·obtain⟨b,d,g,r,i⟩:=n.ob o v;exact⟨b,d,g,by rw[pC];exact r,i⟩
theorem wH {w:Wd} (b:∀x∈w.a7,0<=x.aG/\x.aG<=6) (d:Int) (hd:0<=d):∀(l:List Int) (a:Int),0<=a->a+d+6*l.length<=100000000 ->
  l.foldl (fun n k=>match w.a7[k.toNat]? with|some x=>wr (n+x.aG)|none=>n) (a+d)=l.foldl (fun n k=>match w.a7[k.toNat]? with|some x=>wr (n+x.aG)|none=>n) a+d
 |[],a,_,_=>rfl
 |k::l,a,h0,h1=>by
  simp only[MO] at h1;simp only[List.foldl_cons];cases c:w.a7[k.toNat]? with
  |none=>exact wH b d hd l a h0 d9
  |some x =>
   have:=b x (MT c);simp only;rw[u7 ino,u7 ino,show a+d+x.aG=a+x.aG+d by omega];exact wH b d hd l (a+x.aG) d9 d9
def d86 {w:Wd} {s:ByteArray} {c n:Int} (o:w.a7.length<=12) (j:∀x∈w.a7++[(⟨s,c,n,[]⟩:Cl)],0<=x.aG/\x.aG<=6) (d:Ext w ⟨w.a7++[⟨s,c,n,[]⟩],w.heap,w.aB⟩) {k:Nat} (i:c=(k:Int)) (f:k<w.a7.length) :
  p8 ⟨w.a7++[⟨s,c,n,[]⟩],w.heap,w.aB⟩ (w.a7.length:Int)=p8 w c+n:=by
 have m:0<=n/\n<=6:=j ⟨s,c,n,[]⟩ l9;have b:(w.a7++[(⟨s,c,n,[]⟩:Cl)]).length=w.a7.length+1:=l9;have e1:p8 ⟨w.a7++[⟨s,c,n,[]⟩],w.heap,w.aB⟩ c=p8 w c:=by have e:=d.aG f;rw[<-i] at e;exact e
 rw[<-e1];unfold p8;simp only[b];have hl:=vN ⟨w.a7++[⟨s,c,n,[]⟩],w.heap,w.aB⟩ (w.a7.length+1) c;rw[bf,N6 (Int.natCast_nonneg _),Mk];have a:(w.a7++[(⟨s,c,n,[]⟩:Cl)])[w.a7.length]?=some ⟨s,c,n,[]⟩:=by rw[Mf (It _),Nat.sub_self];rfl
 simp only[a,List.foldl_cons,Mk];have l:bf ⟨w.a7++[⟨s,c,n,[]⟩],w.heap,w.aB⟩ (w.a7.length+1+1) c=bf ⟨w.a7++[⟨s,c,n,[]⟩],w.heap,w.aB⟩ (w.a7.length+1) c:=by
  have g:=d.qj k f (w.a7.length+1) (w.a7.length+1+1) d9 d9;have h:=d.qj k f (w.a7.length+1) (w.a7.length+1) d9 d9;rw[<-i] at g h;rw[g,h]
 rw[l,u7 ino];exact wH (w:=⟨w.a7++[⟨s,c,n,[]⟩],w.heap,w.aB⟩) j n m.1 (bf ⟨w.a7++[⟨s,c,n,[]⟩],w.heap,w.aB⟩ (w.a7.length+1) c) 0 d9 d9
def AQ {N:Nat} {w:Wd} (D:4194304<=N) (F:D7 w) (i:I5 N w) {s:ByteArray} {c n:Int} (h:(gv w s c n).2.2=0) :
  I5 N (gv w s c n).1/\D7 (gv w s c n).1/\(gv w s c n).1=⟨w.a7++[⟨s,c,n,[]⟩],w.heap,w.aB⟩/\Ext w (gv w s c n).1:=by
 unfold gv at h⊢;split at h
 ·cases h
 rename_i y;rw[N5 y];split at h
 ·cases h
 rename_i K;rw[N5 K];split at h
 ·cases h
 rename_i L;rw[N5 L];split at h
 ·cases h
 rename_i M;rw[N5 M];simp only;have B:∀{j:Nat} {x:Cl},w.a7[j]?=some x->(w.a7++[⟨s,c,n,[]⟩])[j]?=some x:=fun {j x} a=>by
  rw[Mu (MI.1 a).1];exact a
 have u:∀{j:Nat} {x:Cl},(w.a7++[⟨s,c,n,[]⟩])[j]?=some x->w.a7[j]?=some x\/(j=w.a7.length/\x=⟨s,c,n,[]⟩):=fun {j x} a=>by
  rcases Nat.lt_trichotomy j w.a7.length with b|b|b
  ·rw[Mu b] at a;exact .inl a
  ·subst b;rw[Mf (It _),Nat.sub_self] at a;cases a;exact .inr ⟨rfl,rfl⟩
  ·rw[Mi L9] at a;cases a
 have l:Ext w ⟨w.a7++[⟨s,c,n,[]⟩],w.heap,w.aB⟩:=⟨i.sup,fun j x a=>⟨x,B a,rfl,rfl⟩⟩;have p:=i.many;obtain⟨G,z⟩:=Int.eq_ofNat_of_zero_le (show 0<=c by omega);have A:G<w.a7.length:=d9;have t:=p6 i;have k:∀x∈w.a7++[(⟨s,c,n,[]⟩:Cl)],0<=x.aG/\x.aG<=6:=fun x a=>by
  rcases MY.1 a with a|a
  ·exact t x a
  ·have:=Ml.1 a;subst this;have:=kP t F.1 c;exact⟨bK,bK⟩
 have q:=d86 p.2.1 k l z A;have g:(w.a7++[(⟨s,c,n,[]⟩:Cl)]).length=w.a7.length+1:=l9;have E:=xh (w:=⟨w.a7++[⟨s,c,n,[]⟩],w.heap,w.aB⟩) D (by simp only[g];omega) i.aB (fun j x a=>by
  rcases u a with a|⟨rfl,rfl⟩
  ·have b:=(MI.1 a).1;have:=i.cls j x a;unfold lp at this⊢;rw[List.take_append_of_le_length d9];exact this
  ·refine⟨by simpa using fun e=>y (.inl e),fun d hd e=>y (.inr ?_),fun R=>d9,fun _=>⟨bK,bK,fun J=>?_⟩,k _ l9⟩
   ·rw[List.take_append_of_le_length (It _),List.take_length] at hd;unfold iS;rw[List.any_eq_true];exact⟨d,hd,by simpa using e⟩
   ·simp only at J⊢;omega) (fun j x a=>by
  rcases u a with a|⟨rfl,rfl⟩
  ·have b:=(MI.1 a).1;obtain⟨g1,v,C,_⟩:=i.ak j x a;refine⟨by rw[l.aG b];exact g1,v,C,fun m p=>?_⟩;rcases i.vX D F a p with h|⟨f,O,P⟩
   ·exact .inl h
   ·exact .inr (uQ (l.aG b) l.len O P)
  ·exact⟨by rw[q];omega,l9,List.Pairwise.nil,fun m p=>by cases p⟩) fun o Q=>by
  obtain⟨g1,v,C,H,I⟩:=i.obj o Q;obtain⟨S,r⟩:=Int.eq_ofNat_of_zero_le g1;exact⟨g1,v,by simp only[g];omega,by rw[r,l.aG d9,<-r];exact H,I⟩
 exact⟨E.1,E.2,trivial,l⟩
theorem xV {m x:Me}:∀{l:List Me},x∈cy m l->x=m\/x∈l
 |[],h=>by simpa[cy] using h
 |y::l,h=>by
  unfold cy at h;split at h
  ·rcases MJ.1 h with h|h
   ·exact .inl h
   ·exact .inr (Mv _ h)
  split at h
  ·rcases MJ.1 h with h|h
   ·exact .inl h
   ·exact .inr h
  ·rcases MJ.1 h with h|h
   ·exact .inr (by rw[h];simp)
   ·rcases xV h with h|h
    ·exact .inl h
    ·exact .inr (Mv _ h)
def CJ {y:Me} {l:List Me} (h:dK (y::l)):(∀x∈l,Y5 y.name x.name=true)/\dK l:=List.pairwise_cons.1 h
theorem DC {m:Me}:∀{l:List Me},dK l->(cy m l).length<=l.length+1/\((bJ m.name l).isSome=true->(cy m l).length=l.length)
 |[],_=>⟨by simp[cy],fun h=>by cases h⟩
 |y::l,hr=>by
  obtain⟨b,c⟩:=CJ hr;have ih:=DC (m:=m) c;unfold cy bJ;split
  ·exact⟨l9,fun _=>l9⟩
  rename_i f;split
  ·rename_i a;refine⟨l9,fun h=>?_⟩;cases q:bJ m.name l with
   |none=>rw[q] at h;cases h
   |some i =>
    obtain⟨x,d,e⟩:=jb q;have:=DO (b x (MT d));rw[e,a] at this;cases this
  ·exact⟨by simp only[MO];omega,fun h=>by
    simp only[MO];rw[ih.2 (by cases q:bJ m.name l with|none=>rw[q] at h;cases h|some i=>rfl)]⟩
theorem Bs {m:Me}:∀{l:List Me},dK l->dK (cy m l)
 |[],_=>by simp[cy,dK]
 |y::l,hr=>by
  obtain⟨c,e⟩:=CJ hr;have ih:=Bs (m:=m) e;unfold cy;split
  ·rename_i d;exact List.pairwise_cons.2 ⟨fun x b=>by rw[<-d];exact c x b,e⟩
  rename_i d;split
  ·rename_i a;exact List.pairwise_cons.2 ⟨fun x b=>by
    rcases MJ.1 b with rfl|b
    ·exact a
    ·exact lt_trans a (c x b),hr⟩
  ·rename_i a;refine List.pairwise_cons.2 ⟨fun x b=>?_,ih⟩;rcases xV b with rfl|b
   ·cases q:Y5 y.name x.name with
    |true=>rfl
    |false=>exact absurd (E0 q (by simpa using a)) d
   ·exact c x b
def Ad {N:Nat} {w:Wd} (Q:4194304<=N) (Y:D7 w) (l:I5 N w) {c:Int} {m:Me} {f:cu} (V:aj N w c m=some f) (J:f.err=0) (he:w.aB<1073741824) (h:(iO w c m).2=0) :
  I5 N (iO w c m).1/\D7 (iO w c m).1/\(iO w c m).1.aB=w.aB+1:=by
 unfold iO at h⊢;by_cases C:0<=c
 ·rw[N6 C] at h⊢;cases A:w.a7[c.toNat]? with
  |none=>rw[A] at h;cases h
  |some x =>
   rw[A] at h;simp only at h⊢;split at h
   ·cases h
   rename_i P;rw[N5 P];simp only;have W:=l.many;have u:wr (w.aB+1)=w.aB+1:=u7 (by unfold I4;have:=l.aB;omega);have I:c.toNat<w.a7.length:=(MI.1 A).1;have aH:∀(j:Nat) y,(w.a7.set c.toNat ⟨x.name,x.aR,x.aG,cy m x.aC⟩)[j]?=some y->∃z,w.a7[j]?=some z/\y.name=z.name/\y.aR=z.aR/\y.aG=z.aG/\((j=c.toNat/\z=x/\y.aC=cy m x.aC)\/y.aC=z.aC):=fun j y k=>by
    rw[Mc] at k;split at k
    ·rename_i e;subst e;cases k;exact⟨x,A,rfl,rfl,rfl,.inl ⟨rfl,rfl,rfl⟩⟩
    ·exact⟨y,k,rfl,rfl,rfl,.inr rfl⟩
   have r:Ext w ⟨w.a7.set c.toNat ⟨x.name,x.aR,x.aG,cy m x.aC⟩,w.heap,wr (w.aB+1)⟩:=⟨l.sup,fun j z a=>by
    by_cases e:c.toNat=j
    ·subst e;rw[A] at a;cases a;exact⟨⟨x.name,x.aR,x.aG,cy m x.aC⟩,by simp only;rw[List.getElem?_set_self I],rfl,rfl⟩
    ·exact⟨z,by simp only;rw[List.getElem?_set_ne e];exact a,rfl,rfl⟩⟩
   have s:∀(j:Nat),∀d∈(w.a7.set c.toNat ⟨x.name,x.aR,x.aG,cy m x.aC⟩).take j,∃D∈w.a7.take j,D.name=d.name:=fun j d hd=>by
    obtain⟨i,hi⟩:=N0.1 hd;rw[My] at hi;split at hi
    ·rename_i K;obtain⟨z,a,L,_⟩:=aH i d hi
     exact⟨z,N0.2 ⟨i,by rw[My,N6 K];exact a⟩,L.symm⟩
    ·cases hi
   have R:=xh (w:=⟨w.a7.set c.toNat ⟨x.name,x.aR,x.aG,cy m x.aC⟩,w.heap,wr (w.aB+1)⟩) Q (by simp only[Mh];exact W) (by simp only;rw[u];have:=l.aB;omega) (fun j y k=>by
    obtain⟨z,a,e1,E,F,_⟩:=aH j y k
    obtain⟨g1,t,p,G,H⟩:=l.cls j z a;refine⟨by rw[e1];exact g1,fun d hd=>?_,fun g=>?_,fun g=>by rw[E];exact G g,by rw[F];exact H⟩
    ·obtain⟨D,M,O⟩:=s j d hd;rw[e1,<-O];exact t D M
    ·obtain⟨ff,M,O,Z,q4⟩:=p g;exact⟨ff,M,by rw[e1];exact O,by rw[E];exact Z,by rw[F];exact q4⟩) (fun j y k=>by
    have g:=(MI.1 k).1;simp only[Mh] at g;obtain⟨z,a,e1,E,F,b⟩:=aH j y k
    obtain⟨g1,t,p,_⟩:=l.ak j z a;have B:∀q∈z.aC,ns j q\/∃f,aj N ⟨w.a7.set c.toNat ⟨x.name,x.aR,x.aG,cy m x.aC⟩,w.heap,wr (w.aB+1)⟩ (j:Int) q=some f/\f.err=0:=fun q n=>by
     rcases l.vX Q Y a n with h|⟨f,S,T⟩
     ·exact .inl h
     ·exact .inr (uQ (r.aG g) r.len S T)
    rcases b with⟨rfl,rfl,b⟩|b
    ·have hl:=DC (m:=m) p;refine⟨by rw[r.aG g];exact g1,?_,by rw[b];exact Bs p,fun q n=>?_⟩
     ·rw[b];by_cases q:(bJ m.name z.aC).isSome=true
      ·rw[hl.2 q];exact t
      ·have:¬8<=z.aC.length:=fun U=>P ⟨by simpa using q,U⟩;omega
     ·rw[b] at n;rcases xV n with rfl|n
      ·right;rw[Int.toNat_of_nonneg C];have:=r.aG g;rw[Int.toNat_of_nonneg C] at this;exact uQ this r.len V J
      ·exact B q n
    ·exact⟨by rw[r.aG g];exact g1,by rw[b];exact t,by rw[b];exact p,fun q n=>B q (by rw[<-b];exact n)⟩) fun o X=>by
    obtain⟨g1,t,p,G,H⟩:=l.obj o X;obtain⟨oi,v⟩:=Int.eq_ofNat_of_zero_le g1;exact⟨g1,t,by simp only[Mh];exact p,by rw[v,r.aG d9,<-v];exact G,H⟩
   exact⟨R.1,R.2,u⟩
 ·rw[N5 C] at h;cases h
def B4 : ∀(u:Nat) (b:UInt8),b∈Lib.decDigits u->48<=b.toNat/\b.toNat<=57:=by
 intro u
 induction u using Nat.strongRecOn with
 |_ u ih =>
  intro b a;have one:∀d:Nat,d<10->(UInt8.ofNat (48+d)).toNat=48+d:=fun d hd=>L9;rw[Lib.decDigits] at a;split at a
  ·simp only[Ml] at a;subst a;rw[one u (by assumption)];omega
  ·rcases MY.1 a with a|a
   ·exact ih (u / 10) d9 b a
   ·simp only[Ml] at a;subst a;rw[one (u % 10) d9];omega
def wW (u:Nat):Lib.decDigits u≠[]:=by
 rw[Lib.decDigits];split<;>simp
def FL : ∀(u:Nat),u<18446744073709551616->∀r,Lib.parseUint10 0 (Lib.decDigits u++r)=Lib.parseUint10 u r:=by
 intro u
 induction u using Nat.strongRecOn with
 |_ u ih =>
  intro a r;have one:∀d:Nat,d<10->(UInt8.ofNat (48+d)).toNat=48+d:=fun d hd=>L9;rw[Lib.decDigits];split
  ·rename_i h;simp only[List.cons_append,List.nil_append,Lib.parseUint10,one u h];rw[N6 d9,N5 d9,N5 d9];congr 1;omega
  ·rename_i h;rw[MZ,ih (u / 10) d9 d9];simp only[List.cons_append,List.nil_append,Lib.parseUint10,one (u % 10) d9];rw[N6 d9,N5 d9,N5 d9];congr 1;omega
def zw {u:Nat} (a:u<18446744073709551616):Lib.parseMag (Lib.decDigits u)=.ok u:=by
 unfold Lib.parseMag;rw[N5 (wW u)];have:=FL u a [];simpa[Lib.parseUint10] using this
def IP {n:Int} (d:I4 n):Lib.atoiAll (Lib.itoa n)=.ok n:=by
 unfold I4 at d;unfold Lib.itoa;split
 ·rw[Lib.atoiAll_minus,zw d9];simp only[Lib.signed];rw[N5 d9];congr 1;omega
 ·have a:=zw (u:=n.toNat) d9;have b:=B4 n.toNat;cases hd:Lib.decDigits n.toNat with
  |nil=>exact absurd hd (wW _)
  |cons c r =>
   have e:=b c (by rw[hd];simp);rw[hd] at a;rw[Lib.atoiAll_plain c r d9 d9,a];simp only[Lib.signless];rw[N5 d9];congr 1;omega
def Bn (n:Int):Lib.itoa n≠[]/\(32:UInt8) ∉ Lib.itoa n:=by
 have key:∀u:Nat,(32:UInt8) ∉ Lib.decDigits u:=fun u h=>by
  have:=B4 u 32 h;have e:(32:UInt8).toNat=32:=rfl;omega
 unfold Lib.itoa;split
 ·refine⟨l9,fun h=>?_⟩;rcases MJ.1 h with h|h
  ·cases h
  ·exact key _ h
 ·exact⟨wW _,key _⟩
abbrev BL := List UInt8
def dZ (s:ByteArray):BL:=s.data.toList++[32]
def dP (n:Int):BL:=Lib.itoa n++[32]
def cM (l:List Int):BL:=(l.map dP).flatten
def eh (i:Ins):BL:=cM [i.op,i.a]++(if i.op=14 then dZ i.name else[])
def ec (m:Me):BL:=dZ m.name++(cM [m.args,m.a8,m.aU,(m.code.length:Int)]++(m.code.map eh).flatten)
def fJ (c:Cl):BL:=dZ c.name++(cM [c.aR,c.aG,(c.aC.length:Int)]++(c.aC.map ec).flatten)
def vT (v:V):BL:=cM [v.k,v.n]
def fL (o:Ob):BL:=cM [o.cls,(o.aG.length:Int)]++(o.aG.map vT).flatten
def da (w:Wd):BL:=cM [w.aB,(w.a7.length:Int)]++((w.a7.map fJ).flatten++(cM [(w.heap.length:Int)]++(w.heap.map fL).flatten))
def U (t:BL):List Int:=t.map fun b=>(b.toNat:Int)
def kY (a b:BL):U (a++b)=U a++U b:=by simp[U]
def fS (t:BL):(U t).length=t.length:=by simp[U]
def E7 (t:BL):(strOfNums (U t)).data.toList=t:=by
 rw[strOfNums_data,U,List.map_map];have:((fun n:Int=>UInt8.ofNat n.toNat)∘fun b:UInt8=>(b.toNat:Int))=id:=by
  funext b;simp
 rw[this,List.map_id]
theorem xZ (s:ByteArray):eU s=U s.data.toList:=rfl
def Dp {a b:ByteArray} (h:a.data.toList=b.data.toList):a=b:=by
 apply ByteArray.ext;exact Array.toList_inj.1 h
def sr (s:ByteArray):s.data.toList.length=s.size:=by rw[Array.length_toList];rfl
def KS {n:Int} (a:I4 n):(dP n).length<=22:=by
 have:=Lib.itoa_length_le n a.1 a.2;simp only[dP,MN,Mz];omega
def vS (N:Nat) (a:List Int) (s:ByteArray) (h:a.length+(dZ s).length<=140737488355328):kz N a s=some (a++U (dZ s)):=by
 have b:=sr s;have hl:(eU s).length=s.size:=by rw[xZ,fS,b]
 simp only[dZ,MN,Mz,b] at h;unfold kz tu tw;rw[Nat.ble_eq_true_of_le (show a.length+s.size<=140737488355328 by omega)];simp only[N3,A0];rw[Nat.ble_eq_true_of_le (show((a++eU s).length+[(32:Int)].length)*1<=140737488355328 by simp only[MN,hl,Mz];omega)];simp only[N3,A0,dZ,kY,xZ];rw[MZ];rfl
theorem DP (N:Nat):∀(l:List Int) (k:Nat) (a:List Int),a.length+(cM l).length<=140737488355328->Y9 N l k a=some (a++U (cM l))
 |[],k,a,_=>by simp[Y9,cM,U]
 |n::l,k,a,h=>by
  have e:cM (n::l)=dP n++cM l:=by simp[cM]
  rw[e,MN] at h;have b:dZ ⟨(Lib.itoa n).toArray⟩=dP n:=rfl;rw[Y9];simp only[strconv_Itoa,A0];rw[vS N a _ (by rw[b];omega),b];simp only[A0];rw[DP N l (k+1) _ (by rw[MN,fS];omega),e,kY,MZ]
def nd (N:Nat) (a l:List Int) (h:a.length+(cM l).length<=140737488355328):U9 N a l=some (a++U (cM l)):=by
 unfold U9;rw[DP N l 0 a h];rfl
theorem qO {b:Type} (tx:b->BL) (L:List b->Nat->List Int->Option (List Int)) (c:∀k a,L [] k a=some a)
  (d:∀x l k a,a.length+(tx x).length<=140737488355328->L (x::l) k a=L l (k+1) (a++U (tx x))):∀(l:List b) (k:Nat) (a:List Int),a.length+(l.map tx).flatten.length<=140737488355328->L l k a=some (a++U (l.map tx).flatten)
 |[],k,a,_=>by simp[c,U]
 |x::l,k,a,h=>by
  simp only[MW,List.flatten_cons,MN] at h;rw[d x l k a d9,qO tx L c d l (k+1) _ (by rw[MN,fS];omega),MW,List.flatten_cons,kY,MZ]
def HT (N:Nat):∀(l:List Ins) (k:Nat) (a:List Int),a.length+(l.map eh).flatten.length<=140737488355328->V6 N l k a=some (a++U (l.map eh).flatten) :=
 qO eh (V6 N) (fun k a=>rfl) fun i l k a h=>by
  simp only[eh,MN] at h;rw[V6,nd N a _ d9];simp only[A0];by_cases b:i.op=14
  ·rw[N6 b] at h;simp only[b,NA,N3];rw[vS N _ _ (by rw[MN,fS];rw[b] at h;omega)];simp only[A0,eh,b,if_true,kY,MZ]
  ·simp only[b,NB,N4,A0,eh,if_false,kY,U,List.map_nil,List.append_nil]
def d71 (N:Nat) (a:List Int) (m:Me) (h:a.length+(ec m).length<=140737488355328):qw N a m=some (a++U (ec m)):=by
 simp only[ec,MN] at h;unfold qw;rw[vS N a _ d9];simp only[A0];rw[nd N _ _ (by rw[MN,fS];omega)];simp only[A0];rw[HT N m.code 0 _ (by simp only[MN,fS];omega)];simp only[A0,ec,kY,MZ]
def Hh (N:Nat):∀(l:List Me) (k:Nat) (a:List Int),a.length+(l.map ec).flatten.length<=140737488355328->lI N l k a=some (a++U (l.map ec).flatten) :=
 qO ec (lI N) (fun k a=>rfl) fun m l k a h=>by
  rw[lI,d71 N a m h];rfl
def HY (N:Nat):∀(l:List Cl) (k:Nat) (a:List Int),a.length+(l.map fJ).flatten.length<=140737488355328->lJ N l k a=some (a++U (l.map fJ).flatten) :=
 qO fJ (lJ N) (fun k a=>rfl) fun c l k a h=>by
  simp only[fJ,MN] at h;rw[lJ,vS N a _ d9];simp only[A0];rw[nd N _ _ (by rw[MN,fS];omega)];simp only[A0];rw[Hh N c.aC 0 _ (by simp only[MN,fS];omega)];simp only[A0,fJ,kY,MZ]
def Hc (N:Nat):∀(l:List V) (k:Nat) (a:List Int),a.length+(l.map vT).flatten.length<=140737488355328->lL N l k a=some (a++U (l.map vT).flatten) :=
 qO vT (lL N) (fun k a=>rfl) fun v l k a h=>by
  rw[lL,nd N a _ h];rfl
def Hg (N:Nat):∀(l:List Ob) (k:Nat) (a:List Int),a.length+(l.map fL).flatten.length<=140737488355328->lH N l k a=some (a++U (l.map fL).flatten) :=
 qO fL (lH N) (fun k a=>rfl) fun o l k a h=>by
  simp only[fL,MN] at h;rw[lH,nd N a _ d9];simp only[A0];rw[Hc N o.aG 0 _ (by rw[MN,fS];omega)];simp only[A0,fL,kY,MZ]
def Dt (w:Wd):da w≠[]:=by
 intro h;have:=congrArg List.length h;simp only[da,cM,MW,List.flatten_cons,dP,MN,Mz,Mt] at this;omega
def Jc (N:Nat) (w:Wd) (h:(da w).length<=140737488355328):pQ N w=some (U (da w)):=by
 have b:=Dt w;simp only[da,MN] at h;unfold pQ;rw[nd N [] _ (by simp only[Mt];omega)];simp only[A0,List.nil_append];rw[HY N w.a7 0 _ (by rw[fS];omega)];simp only[A0];rw[nd N _ _ (by simp only[MN,fS];omega)];simp only[A0];rw[Hg N w.heap 0 _ (by simp only[MN,fS];omega)];have e:U (cM [w.aB,(w.a7.length:Int)])++U (w.a7.map fJ).flatten++U (cM [(w.heap.length:Int)])++U (w.heap.map fL).flatten=U (da w):=by
  simp only[da,kY,MZ]
 simp only[A0,e];have c:(U (da w)).isEmpty=false:=by
  cases d:da w with
  |nil=>exact absurd d b
  |cons a l=>rfl
 rw[c];simp only[MU,N3,xZ,E7]
def gy : BL->Option (BL×BL)
 |[]=>none
 |b::r=>if b=32 then some ([],r) else(gy r).map fun p=>(b::p.1,p.2)
def index_one (t:BL):(gy t=none/\Lib.index t [32]=-1)\/∃w r,gy t=some (w,r)/\Lib.index t [32]=(w.length:Int)/\t=w++32::r/\(32:UInt8) ∉ w:=by
 induction t with
 |nil=>exact .inl ⟨rfl,rfl⟩
 |cons b t ih =>
  by_cases a:b=32
  ·subst a;exact .inr ⟨[],t,by simp[gy],by simp[Lib.index],rfl,l9⟩
  ·have g:([32]:BL).isPrefixOf (b::t)=false:=by simp[List.isPrefixOf];exact fun e=>a e.symm
   rcases ih with⟨c,d⟩|⟨w,r,c,d,h,i⟩
   ·exact .inl ⟨by simp[gy,a,c],by simp[Lib.index,g,d]⟩
   ·refine .inr ⟨b::w,r,by simp[gy,a,c],?_,by rw[h];rfl,by simp[i,Ne.symm a]⟩;have f:¬((w.length:Int) == -1)=true:=l9;simp only[Lib.index,g,d,MO];rw[N5 l9,N5 f];omega
def Bt {t w r:BL} (h:gy t=some (w,r)):t=w++32::r/\(32:UInt8) ∉ w:=by
 rcases index_one t with⟨a,_⟩|⟨w',d,a,_,b,c⟩
 ·rw[a] at h;cases h
 ·rw[a] at h;cases h;exact⟨b,c⟩
def Iy {w:BL} (r:BL) (h:(32:UInt8) ∉ w):gy (w++32::r)=some (w,r):=by
 induction w with
 |nil=>simp[gy]
 |cons b w ih =>
  have a:b≠32:=fun e=>h (by simp[e]);simp[gy,a,ih (fun e=>h (by simp[e]))]
def L7 (t:BL):Lib.cut t [32]=match gy t with
  |some (w,r)=>(w,r,true)
  |none=>(t,[],false):=by
 unfold Lib.cut;rcases index_one t with⟨a,b⟩|⟨w,r,a,b,c,d⟩
 ·rw[a,b];rfl
 ·rw[a,b,N6 d9];simp only[Mk,Mz];subst c;simp
def pw (t:BL):Option (ByteArray×BL):=match gy t with
 |some (w,r)=>if w=[] then none else some (⟨w.toArray⟩,r)
 |none=>none
def iC (s:ByteArray):Prop:=s.data.toList≠[]/\(32:UInt8) ∉ s.data.toList
def sx {t:BL} {s:ByteArray} {r:BL} (h:pw t=some (s,r)):t=dZ s++r/\iC s:=by
 unfold pw at h;split at h
 ·rename_i w e c;split at h
  ·cases h
  ·rename_i d;cases h;obtain⟨a,b⟩:=Bt c;exact⟨by rw[a];simp[dZ],d,b⟩
 ·cases h
def tE {s:ByteArray} (r:BL) (h:iC s):pw (dZ s++r)=some (s,r):=by
 have e:dZ s++r=s.data.toList++32::r:=by simp[dZ]
 unfold pw;rw[e,Iy r h.2];simp only[h.1,if_false]
def pn (t:BL):Option (Int×BL):=(pw t).bind fun p=>match Lib.atoiAll p.1.data.toList with
 |.ok n=>if Lib.itoa n=p.1.data.toList then some (n,p.2) else none
 |_=>none
def gj {t:BL} {n:Int} {r:BL} (h:pn t=some (n,r)):t=dP n++r/\I4 n:=by
 unfold pn at h;cases a:pw t with
 |none=>rw[a] at h;cases h
 |some p =>
  rw[a] at h;simp only[A0] at h;split at h
  ·rename_i m c;split at h
   ·rename_i b;cases h;have:=(sx (s:=p.1) (r:=p.2) a).1;exact⟨by rw[this,dZ,<-b];rfl,Lib.atoiAll_bounds c⟩
   ·cases h
  ·cases h
def gp {n:Int} (r:BL) (h:I4 n):pn (dP n++r)=some (n,r):=by
 have a:iC ⟨(Lib.itoa n).toArray⟩:=Bn n;have e:dP n=dZ ⟨(Lib.itoa n).toArray⟩:=rfl;unfold pn;rw[e,tE r a];simp only[A0];rw[IP h];simp
def pc (a:Int) (t:BL):Option (Int×BL):=(pn t).bind fun p=>if p.1<0\/a<p.1 then none else some p
def cU {a:Type} (p:BL->Option (a×BL)):Nat->BL->Option (List a×BL)
 |0,t=>some ([],t)
 |n+1,t=>(p t).bind fun x=>(cU p n x.2).bind fun l=>some (x.1::l.1,l.2)
def qX (t:BL):Option (Ins×BL):=(pn t).bind fun a=>(pn a.2).bind fun b=>if a.1=14 then(pw b.2).bind fun s=>some (⟨a.1,b.1,0,0,s.1⟩,s.2) else some (⟨a.1,b.1,0,0,BY⟩,b.2)
def qh (t:BL):Option (Me×BL):=(pw t).bind fun s=>(pn s.2).bind fun a=>(pn a.2).bind fun b=>(pn b.2).bind fun c=>(pc 60 c.2).bind fun n=>(cU qX n.1.toNat n.2).bind fun l=>some (⟨s.1,a.1,b.1,c.1,l.1⟩,l.2)
def qg (t:BL):Option (Cl×BL):=(pw t).bind fun s=>(pn s.2).bind fun a=>(pn a.2).bind fun b=>(pc 8 b.2).bind fun n=>(cU qh n.1.toNat n.2).bind fun l=>some (⟨s.1,a.1,b.1,l.1⟩,l.2)
def pV (t:BL):Option (V×BL):=(pn t).bind fun a=>(pn a.2).bind fun b=>some (⟨a.1,b.1⟩,b.2)
def qi (t:BL):Option (Ob×BL):=(pn t).bind fun a=>(pc 6 a.2).bind fun n=>(cU pV n.1.toNat n.2).bind fun l=>some (⟨a.1,l.1⟩,l.2)
def oV (t:BL):Option (Wd×BL):=(pn t).bind fun e=>(pc 12 e.2).bind fun n=>(cU qg n.1.toNat n.2).bind fun l=>(pc 60 l.2).bind fun m=>(cU qi m.1.toNat m.2).bind fun h=>some (⟨l.1,h.1,e.1⟩,h.2)
structure I1 {α:Type} (tx:α->BL) (p:BL->Option (α×BL)) (W:α->Prop):Prop where
 there:∀x r,W x->p (tx x++r)=some (x,r)
 back:∀t x r,p t=some (x,r)->t=tx x++r/\W x
theorem I1.word : I1 dZ pw iC:=⟨fun x r h=>tE r h,fun t x r h=>sx h⟩
theorem I1.num : I1 dP pn I4:=⟨fun x r h=>gp r h,fun t x r h=>gj h⟩
theorem I1.count (a:Int):I1 dP (pc a) fun n=>I4 n/\0<=n/\n<=a:=by
 refine⟨fun n r h=>?_,fun t n r h=>?_⟩
 ·unfold pc;rw[gp r h.1];simp only[A0];rw[N5 d9]
 ·unfold pc at h;cases b:pn t with
  |none=>rw[b] at h;cases h
  |some p =>
   rw[b] at h;simp only[A0] at h;split at h
   ·cases h
   ·cases h;obtain⟨c,d⟩:=gj b;exact⟨c,d,d9,d9⟩
theorem I1.rep {b:Type} {tx:b->BL} {p:BL->Option (b×BL)} {W:b->Prop} (h:I1 tx p W):∀n:Nat,I1 (fun l=>(l.map tx).flatten) (cU p n) fun l=>l.length=n/\∀x∈l,W x
 |0=>⟨fun l r hl=>by
   have:l=[]:=Mo hl.1;subst this;rfl,fun t l r hl=>by cases hl;exact⟨rfl,rfl,l9⟩⟩
 |n+1=>by
  have ih:=I1.rep h n;refine⟨fun l r hl=>?_,fun t l r hl=>?_⟩
  ·cases l with
   |nil=>simp at hl
   |cons x l =>
    simp only[MW,List.flatten_cons,MZ,cU];rw[h.there x _ (hl.2 x l9)];simp only[A0];rw[ih.there l r ⟨by simpa using hl.1,fun y a=>hl.2 y (by simp[a])⟩];rfl
  ·simp only[cU,Option.bind_eq_some_iff] at hl;obtain⟨x,k,m,j,e⟩:=hl;cases e;obtain⟨c,d⟩:=h.back t x.1 x.2 k;obtain⟨f,g,i⟩:=ih.back x.2 m.1 m.2 j;refine⟨by rw[c,f];simp,by simp[g],fun y a=>?_⟩;rcases MJ.1 a with rfl|a
   ·exact d
   ·exact i y a
def vd (i:Ins):Prop:=I4 i.op/\I4 i.a/\i.b=0/\i.c=0/\(i.op=14->iC i.name)/\(i.op≠14->i.name=BY)
def tN (m:Me):Prop:=iC m.name/\I4 m.args/\I4 m.a8/\I4 m.aU/\m.code.length<=60/\∀i∈m.code,vd i
def d52 (c:Cl):Prop:=iC c.name/\I4 c.aR/\I4 c.aG/\c.aC.length<=8/\∀m∈c.aC,tN m
def zL (v:V):Prop:=I4 v.k/\I4 v.n
def yw (o:Ob):Prop:=I4 o.cls/\o.aG.length<=6/\∀v∈o.aG,zL v
def qR (w:Wd):Prop:=I4 w.aB/\w.a7.length<=12/\w.heap.length<=60/\(∀c∈w.a7,d52 c)/\∀o∈w.heap,yw o
def kX (a b:Int):cM [a,b]=dP a++dP b:=by simp[cM]
def EC (a b c:Int):cM [a,b,c]=dP a++(dP b++dP c):=by simp[cM]
def EH (a b c d:Int):cM [a,b,c,d]=dP a++(dP b++(dP c++dP d)):=by simp[cM]
def EA (a:Int):cM [a]=dP a:=by simp[cM]
def si {n:Nat} {m:Int} (h:(n:Int)<=m) (a:m<=1000):I4 (n:Int)/\(0:Int)<=(n:Int)/\(n:Int)<=m:=ino
theorem I1.ins : I1 eh qX vd:=by
 refine⟨fun i r h=>?_,fun t i r h=>?_⟩
 ·obtain⟨l,m,o,p,q,u⟩:=h;obtain⟨op,a,b,c,nm⟩:=i;simp only at l m o p q u;subst o p;unfold eh qX;simp only[kX,MZ];rw[gp _ l];simp only[A0];rw[gp _ m];simp only[A0];by_cases d:op=14
  ·subst d;simp only[if_true];rw[tE r (q rfl)];rfl
  ·simp only[d,if_false,u d,List.nil_append]
 ·unfold qX at h;simp only[Option.bind_eq_some_iff] at h;obtain⟨a,v,b,w,h⟩:=h;obtain⟨f,g⟩:=gj (n:=a.1) (r:=a.2) v;obtain⟨j,k⟩:=gj (n:=b.1) (r:=b.2) w;split at h
  ·rename_i d;simp only[Option.bind_eq_some_iff] at h;obtain⟨s,x,e⟩:=h;cases e;obtain⟨s1,y⟩:=sx (s:=s.1) (r:=s.2) x;refine⟨?_,g,k,rfl,rfl,fun _=>y,fun h=>absurd d h⟩;rw[f,j,s1];simp only[eh,kX,d,if_true,MZ]
  ·rename_i d;cases h;refine⟨?_,g,k,rfl,rfl,fun h=>absurd h d,fun _=>rfl⟩;rw[f,j];simp only[eh,kX,d,if_false,MZ,List.nil_append]
theorem I1.me : I1 ec qh tN:=by
 refine⟨fun m r h=>?_,fun t m r h=>?_⟩
 ·obtain⟨o,p,q,u,F,v⟩:=h;unfold ec qh;simp only[EH,MZ];rw[tE _ o];simp only[A0];rw[gp _ p];simp only[A0];rw[gp _ q];simp only[A0];rw[gp _ u];simp only[A0];rw[(I1.count 60).there _ _ (si d9 G7)];simp only[A0,Mk];rw[(I1.rep I1.ins m.code.length).there m.code r ⟨rfl,v⟩];rfl
 ·unfold qh at h;simp only[Option.bind_eq_some_iff] at h;obtain⟨s,A,a,w,b,x,c,y,n,z,l,hl,e⟩:=h;cases e;obtain⟨s1,E⟩:=sx (s:=s.1) (r:=s.2) A;obtain⟨d,f⟩:=gj (n:=a.1) (r:=a.2) w;obtain⟨g,i⟩:=gj (n:=b.1) (r:=b.2) x;obtain⟨j,k⟩:=gj (n:=c.1) (r:=c.2) y;obtain⟨D,G,H,I⟩:=(I1.count 60).back _ n.1 n.2 z;obtain⟨B,l2,C⟩:=(I1.rep I1.ins n.1.toNat).back _ l.1 l.2 hl;refine⟨?_,E,f,i,k,by show l.1.length<=60;omega,C⟩;have e:((l.1.length:Nat):Int)=n.1:=d9;simp only[ec,EH,e,MZ];rw[s1,d,g,j,D,B]
theorem I1.cl : I1 fJ qg d52:=by
 refine⟨fun m r h=>?_,fun t m r h=>?_⟩
 ·obtain⟨i,j,k,A,o⟩:=h;unfold fJ qg;simp only[EC,MZ];rw[tE _ i];simp only[A0];rw[gp _ j];simp only[A0];rw[gp _ k];simp only[A0];rw[(I1.count 8).there _ _ (si d9 G7)];simp only[A0,Mk];rw[(I1.rep I1.me m.aC.length).there m.aC r ⟨rfl,o⟩];rfl
 ·unfold qg at h;simp only[Option.bind_eq_some_iff] at h;obtain⟨s,v,a,p,b,q,n,u,l,hl,e⟩:=h;cases e;obtain⟨s1,z⟩:=sx (s:=s.1) (r:=s.2) v;obtain⟨c,d⟩:=gj (n:=a.1) (r:=a.2) p;obtain⟨f,g⟩:=gj (n:=b.1) (r:=b.2) q;obtain⟨y,B,C,D⟩:=(I1.count 8).back _ n.1 n.2 u;obtain⟨w,l2,x⟩:=(I1.rep I1.me n.1.toNat).back _ l.1 l.2 hl;refine⟨?_,z,d,g,by show l.1.length<=8;omega,x⟩;have e:((l.1.length:Nat):Int)=n.1:=d9;simp only[fJ,EC,e,MZ];rw[s1,c,f,y,w]
theorem I1.v : I1 vT pV zL:=by
 refine⟨fun v r h=>?_,fun t v r h=>?_⟩
 ·unfold vT pV;simp only[kX,MZ];rw[gp _ h.1];simp only[A0];rw[gp _ h.2];rfl
 ·unfold pV at h;simp only[Option.bind_eq_some_iff] at h;obtain⟨a,i,b,j,e⟩:=h;cases e;obtain⟨c,d⟩:=gj (n:=a.1) (r:=a.2) i;obtain⟨f,g⟩:=gj (n:=b.1) (r:=b.2) j;refine⟨?_,d,g⟩;simp only[vT,kX,MZ];rw[c,f]
theorem I1.ob : I1 fL qi yw:=by
 refine⟨fun m r h=>?_,fun t m r h=>?_⟩
 ·obtain⟨d,p,f⟩:=h;unfold fL qi;simp only[kX,MZ];rw[gp _ d];simp only[A0];rw[(I1.count 6).there _ _ (si d9 G7)];simp only[A0,Mk];rw[(I1.rep I1.v m.aG.length).there m.aG r ⟨rfl,f⟩];rfl
 ·unfold qi at h;simp only[Option.bind_eq_some_iff] at h;obtain⟨a,g,n,i,l,hl,e⟩:=h;cases e;obtain⟨b,c⟩:=gj (n:=a.1) (r:=a.2) g;obtain⟨o,q,s,u⟩:=(I1.count 6).back _ n.1 n.2 i;obtain⟨j,l2,k⟩:=(I1.rep I1.v n.1.toNat).back _ l.1 l.2 hl;refine⟨?_,c,by show l.1.length<=6;omega,k⟩;have e:((l.1.length:Nat):Int)=n.1:=d9;simp only[fL,kX,e,MZ];rw[b,o,j]
theorem I1.wo : I1 da oV qR:=by
 refine⟨fun m r h=>?_,fun t m r h=>?_⟩
 ·obtain⟨f,A,B,g,i⟩:=h;unfold da oV;simp only[kX,EA,MZ];rw[gp _ f];simp only[A0];rw[(I1.count 12).there _ _ (si d9 G7)];simp only[A0,Mk];rw[(I1.rep I1.cl m.a7.length).there m.a7 _ ⟨rfl,g⟩];simp only[A0];rw[(I1.count 60).there _ _ (si d9 G7)];simp only[A0,Mk];rw[(I1.rep I1.ob m.heap.length).there m.heap r ⟨rfl,i⟩];rfl
 ·unfold oV at h;simp only[Option.bind_eq_some_iff] at h;obtain⟨a,j,n,q,l,hl,k,p,o,s,e⟩:=h;cases e;obtain⟨b,c⟩:=gj (n:=a.1) (r:=a.2) j;obtain⟨x,F,G,H⟩:=(I1.count 12).back _ n.1 n.2 q;obtain⟨v,l2,w⟩:=(I1.rep I1.cl n.1.toNat).back _ l.1 l.2 hl;obtain⟨u,C,D,E⟩:=(I1.count 60).back _ k.1 k.2 p;obtain⟨y,I,z⟩:=(I1.rep I1.ob k.1.toNat).back _ o.1 o.2 s;refine⟨?_,c,by show l.1.length<=12;omega,by show o.1.length<=60;omega,w,z⟩;have e:((l.1.length:Nat):Int)=n.1:=d9;have d:((o.1.length:Nat):Int)=k.1:=d9;simp only[da,kX,EA,e,d,MZ];rw[b,x,v,u,y]
def G5 {α:Type} (f:D9->Option (α×D9)) (p:BL->Option (α×BL)) (A:α->Prop):Prop :=
 ∀r:D9,r.s.size<4294967281->∃a b,f r=some (a,b)/\A a/\b.s.size<=r.s.size/\(r.gW=false->b.gW=false) /\
  (r.gW=true->match p r.s.data.toList with
   |some (x,t)=>a=x/\b.gW=true/\b.s.data.toList=t
   |none=>b.gW=false)
section
variable {α β:Type}
theorem G5.pure {a:α} {A:α->Prop} (h:A a):G5 (fun r=>some (a,r)) (fun t=>some (a,t)) A :=
 fun r _=>⟨a,r,rfl,h,It _,fun h=>h,fun h=>⟨rfl,h,rfl⟩⟩
theorem G5.bind {f:D9->Option (α×D9)} {p:BL->Option (α×BL)} {A:α->Prop} (o:G5 f p A) {k:α×D9->Option (β×D9)} {q:α×BL->Option (β×BL)} {B:β->Prop}
  (u:∀a,A a->G5 (fun r=>k (a,r)) (fun t=>q (a,t)) B):G5 (fun r=>(f r).bind k) (fun t=>(p t).bind q) B:=by
 intro r v;obtain⟨a,w,j,l,C,m,c⟩:=o r v;obtain⟨b,y,g1,g,z,d,i⟩:=u a l w d9;refine⟨b,y,by simp only[j,A0,g1],g,d9,fun h=>d (m h),fun h=>?_⟩;have c:=c h;dsimp only;cases e:p r.s.data.toList with
 |none =>
  rw[e] at c;exact d c
 |some x =>
  rw[e] at c;obtain⟨x,t⟩:=x;obtain⟨rfl,n,rfl⟩:=c;exact i n
theorem G5.e8 {L:D9->Option (D9×α)} {p:BL->Option (α×BL)} {A:α->Prop} (e:G5 (fun r=>(L r).map fun y=>(y.2,y.1)) p A) {k:D9×α->Option (β×D9)} {q:α×BL->Option (β×BL)} {B:β->Prop}
  (f:∀a,A a->G5 (fun r=>k (r,a)) (fun t=>q (a,t)) B):G5 (fun r=>(L r).bind k) (fun t=>(p t).bind q) B:=by
 have:=G5.bind e (k:=fun y=>k (y.2,y.1)) f;intro r h;obtain⟨b,c,g1,g⟩:=this r h;refine⟨b,c,?_,g⟩;have d:((L r).map fun y=>(y.2,y.1)).bind (fun y=>k (y.2,y.1))=some (b,c):=g1;show(L r).bind k=some (b,c);rw[<-d];cases L r<;>rfl
theorem G5.loop {p:BL->Option (α×BL)} {step:D9->Option (α×D9)} (o:G5 step p fun _=>True) {L:Nat->Nat->D9->List α->Option (D9×List α)} (m:∀k r l,L 0 k r l=some (r,l))
  (q:∀n k r l,l.length<=1000->L (n+1) k r l=(step r).bind fun y=>L n (k+1) y.2 (l++[y.1])) :
  ∀(n k:Nat) (l:List α),l.length+n<=1000->G5 (fun r=>(L n k r l).map fun y=>(y.2,y.1)) (fun t=>(cU p n t).map fun y=>(l++y.1,y.2)) fun _=>True
 |0,k,l,_=>fun r e=>⟨l,r,by simp[m],trivial,It _,fun h=>h,fun h=>by simp[cU,h]⟩
 |n+1,k,l,hl=>by
  intro r e;obtain⟨a,g,u,B,C,v,d⟩:=o r e;obtain⟨b,i,g1,z,A,j,c⟩:=G5.loop o m q n (k+1) (l++[a]) L9 g d9;have g1:(L n (k+1) g (l++[a])).map (fun y=>(y.2,y.1))=some (b,i):=g1;refine⟨b,i,?_,trivial,d9,fun h=>j (v h),fun h=>?_⟩
  ·show(L (n+1) k r l).map (fun y=>(y.2,y.1))=some (b,i);rw[q n k r l d9,u,<-g1];rfl
  have d:=d h;dsimp only;cases f:p r.s.data.toList with
  |none =>
   rw[f] at d;simp only[cU,f,Option.bind_none,Option.map_none];exact j d
  |some x =>
   rw[f] at d;obtain⟨x,t⟩:=x;obtain⟨rfl,w,rfl⟩:=d;have c:=c w;dsimp only at c;simp only[cU,f,A0];cases e:cU p n g.s.data.toList with
   |none=>rw[e] at c;exact c
   |some y =>
    rw[e] at c;simp only[Mj,MZ,List.singleton_append] at c;exact c
theorem G5.rep {p:BL->Option (α×BL)} {step:D9->Option (α×D9)} (c:G5 step p fun _=>True) {L:Nat->Nat->D9->List α->Option (D9×List α)} (a:∀k r l,L 0 k r l=some (r,l))
  (d:∀n k r l,l.length<=1000->L (n+1) k r l=(step r).bind fun y=>L n (k+1) y.2 (l++[y.1])) (n:Nat) (b:n<=1000):G5 (fun r=>(L n 0 r []).map fun y=>(y.2,y.1)) (cU p n) fun _=>True:=by
 have:=G5.loop c a d n 0 [] (by simpa using b);have e:(fun t=>(cU p n t).map fun y=>(([]:List α)++y.1,y.2))=cU p n:=by
  funext t;cases cU p n t<;>rfl
 rwa [e] at this
end
theorem G5.word (N:Nat):G5 (Q5 N) pw fun w=>w.size<4294967281:=by
 intro r i;obtain⟨s,o⟩:=r;simp only at i;have l:=sr s;have c:=L7 s.data.toList;unfold Q5 strings_Cut;have d:(⟨#[32]⟩:ByteArray).data.toList=[32]:=rfl;rw[ND (show(s.size<4294967281) from i),d];simp only[N3,A0];cases a:gy s.data.toList with
 |none =>
  rw[a] at c;rw[c];simp only[MU,N3,A0];refine⟨_,_,rfl,by show 0<_;omega,It _,fun _=>rfl,fun h=>?_⟩;simp[pw,a]
 |some y =>
  obtain⟨w,t⟩:=y;rw[a] at c;obtain⟨j,k⟩:=Bt a;have hl:=congrArg List.length j;simp only[MN,MO] at hl;rw[c];simp only[MK,N4,A0];by_cases g:w=[]
  ·subst g;have:(⟨([]:BL).toArray⟩:ByteArray)=⟨#[]⟩:=rfl;rw[this];simp only[NA,N3];refine⟨_,_,rfl,by show 0<_;omega,It _,fun _=>rfl,fun h=>?_⟩;simp[pw,a]
  ·have f:¬(⟨w.toArray⟩:ByteArray)=⟨#[]⟩:=fun e=>g (by
    have:=congrArg (fun b:ByteArray=>b.data.toList) e;simpa using this)
   rw[NC f];simp only[N4];refine⟨_,_,rfl,?_,?_,fun h=>h,fun h=>?_⟩
   ·show w.toArray.size<_;rw[List.size_toArray];omega
   ·show t.toArray.size<=s.size;rw[List.size_toArray];omega
   ·simp[pw,a,g,h]
theorem G5.num (N:Nat):G5 (q8 N) pn fun _=>True:=by
 unfold q8 pn;refine G5.bind (G5.word N) fun w d=>?_;intro r c;obtain⟨s,o⟩:=r;simp only;have f:=sr w;unfold strconv_Atoi strconv_Itoa;rw[ND (show(w.size<=281474976710656) by omega)];simp only[N3,A0];cases b:Lib.atoiAll w.data.toList with
 |ok n =>
  simp only[MK,N4,A0];by_cases a:Lib.itoa n=w.data.toList
  ·have e:(⟨(Lib.itoa n).toArray⟩:ByteArray)=w:=Dp a;rw[ND e];simp only[MK,N4,A0];exact⟨_,_,rfl,trivial,It _,fun h=>h,fun h=>by simp[a,h]⟩
  ·have e:¬(⟨(Lib.itoa n).toArray⟩:ByteArray)=w:=fun e=>a (by rw[<-e]);rw[NC e];simp only[MU,N3,A0];exact⟨_,_,rfl,trivial,It _,fun _=>rfl,fun _=>by simp[a]⟩
 |_ =>
  simp only[MU,N3,A0];exact⟨_,_,rfl,trivial,It _,fun _=>rfl,fun _=>rfl⟩
theorem G5.count (N:Nat) (a:Int) (d:0<=a):G5 (fun r=>L8 N r a) (pc a) fun n=>0<=n/\n<=a:=by
 unfold L8 pc;refine G5.bind (G5.num N) fun n _=>?_;intro r e;obtain⟨s,o⟩:=r;simp only;by_cases b:n<0
 ·simp only[b,NA,N3,A0];exact⟨_,_,rfl,⟨MS _,d⟩,It _,fun _=>rfl,fun _=>by simp[b]⟩
 ·by_cases c:a<n
  ·simp only[b,c,NA,NB,N3,N4,A0];exact⟨_,_,rfl,⟨MS _,d⟩,It _,fun _=>rfl,fun _=>by simp[c]⟩
  ·simp only[b,c,NB,N4,A0];exact⟨_,_,rfl,⟨d9,d9⟩,It _,fun h=>h,fun h=>by simp[b,c,h]⟩
def d39 (a:Int):(a-((0:Nat):Int)).toNat=a.toNat:=l9
def pg {α:Type} {l:List α} {x:α} {B:Nat} (h:l.length<=1000) (a:B<=1000):IN ((l.length+[x].length)*B) 140737488355328=true:=by
 refine Nat.ble_eq_true_of_le ?_;have:(l.length+[x].length)*B<=1001*1000:=Nat.mul_le_mul (by simp only[Mz];omega) a;omega
def va (N:Nat) (r:D9):Option (Ins×D9):=(q8 N r).bind fun a=>(q8 N a.2).bind fun b=>bif decide (a.1=14) then(Q5 N b.2).bind fun s=>some (⟨a.1,b.1,0,0,s.1⟩,s.2) else some (⟨a.1,b.1,0,0,BY⟩,b.2)
theorem G5.ins (N:Nat):G5 (va N) qX fun _=>True:=by
 unfold va qX;refine G5.bind (G5.num N) fun a _=>?_;dsimp only;by_cases h:a=14
 ·simp only[h,NA,N3,if_true];refine G5.bind (G5.num N) fun b _=>?_;dsimp only;exact G5.bind (G5.word N) fun s _=>by dsimp only;exact G5.pure trivial
 ·simp only[h,NB,N4,if_false];exact G5.bind (G5.num N) fun b _=>by dsimp only;exact G5.pure trivial
def Gc (N:Nat) (n k:Nat) (r:D9) (l:List Ins) (hl:l.length<=1000):P5 N (n+1) k r l=(va N r).bind fun y=>P5 N n (k+1) y.2 (l++[y.1]):=by
 rw[P5];unfold va;cases d:q8 N r with
 |none=>rfl
 |some a =>
  simp only[A0];cases e:q8 N a.2 with
  |none=>rfl
  |some b =>
   simp only[A0];by_cases c:a.1=14
   ·simp only[c,NA,N3];cases f:Q5 N b.2 with
    |none=>rfl
    |some s=>simp only[A0,pg hl (show 48<=1000 by decide),N3]
   ·simp only[c,NB,N4,A0,pg hl (show 48<=1000 by decide),N3]
theorem G5.me (N:Nat):G5 (mi N) qh fun _=>True:=by
 unfold mi qh;refine G5.bind (G5.word N) fun w _=>?_;dsimp only;refine G5.bind (G5.num N) fun a _=>?_;dsimp only;refine G5.bind (G5.num N) fun b _=>?_;dsimp only;refine G5.bind (G5.num N) fun c _=>?_;dsimp only;refine G5.bind (G5.count N 60 G7) fun n d=>?_;dsimp only;simp only[d39];exact G5.e8 (G5.rep (G5.ins N) (L:=P5 N) (fun k r l=>rfl) (Gc N) n.toNat d9) fun l _=>by dsimp only;exact G5.pure trivial
def Gr (N:Nat) (n k:Nat) (r:D9) (l:List Me) (hl:l.length<=1000):L6 N (n+1) k r l=(mi N r).bind fun y=>L6 N n (k+1) y.2 (l++[y.1]):=by
 rw[L6];cases b:mi N r with
 |none=>rfl
 |some a=>simp only[A0,pg hl (show 64<=1000 by decide),N3]
def d25 (N:Nat) (r:D9):Option (Cl×D9):=(Q5 N r).bind fun s=>(q8 N s.2).bind fun a=>(q8 N a.2).bind fun b=>(L8 N b.2 8).bind fun n=>(L6 N n.1.toNat 0 n.2 []).bind fun l=>some (⟨s.1,a.1,b.1,l.2⟩,l.1)
theorem G5.cl (N:Nat):G5 (d25 N) qg fun _=>True:=by
 unfold d25 qg;refine G5.bind (G5.word N) fun w _=>?_;dsimp only;refine G5.bind (G5.num N) fun a _=>?_;dsimp only;refine G5.bind (G5.num N) fun b _=>?_;dsimp only;refine G5.bind (G5.count N 8 G7) fun n c=>?_;dsimp only;exact G5.e8 (G5.rep (G5.me N) (L:=L6 N) (fun k r l=>rfl) (Gr N) n.toNat d9) fun l _=>by dsimp only;exact G5.pure trivial
def Gi (N:Nat) (n k:Nat) (r:D9) (l:List Cl) (hl:l.length<=1000):T9 N (n+1) k r l=(d25 N r).bind fun y=>T9 N n (k+1) y.2 (l++[y.1]):=by
 rw[T9];unfold d25;cases e:Q5 N r with
 |none=>rfl
 |some s =>
  simp only[A0];cases f:q8 N s.2 with
  |none=>rfl
  |some a =>
   simp only[A0];cases g:q8 N a.2 with
   |none=>rfl
   |some b =>
    simp only[A0];cases h:L8 N b.2 8 with
    |none=>rfl
    |some c =>
     simp only[A0,d39];cases i:L6 N c.1.toNat 0 c.2 [] with
     |none=>rfl
     |some d=>simp only[A0,pg hl (show 56<=1000 by decide),N3]
def vr (N:Nat) (r:D9):Option (V×D9):=(q8 N r).bind fun a=>(q8 N a.2).bind fun b=>some (⟨a.1,b.1⟩,b.2)
theorem G5.v (N:Nat):G5 (vr N) pV fun _=>True:=by
 unfold vr pV;refine G5.bind (G5.num N) fun a _=>?_;dsimp only;exact G5.bind (G5.num N) fun b _=>by dsimp only;exact G5.pure trivial
def H4 (N:Nat) (n k:Nat) (r:D9) (l:List V) (hl:l.length<=1000):K9 N (n+1) k r l=(vr N r).bind fun y=>K9 N n (k+1) y.2 (l++[y.1]):=by
 rw[K9];unfold vr;cases c:q8 N r with
 |none=>rfl
 |some a =>
  simp only[A0];cases d:q8 N a.2 with
  |none=>rfl
  |some b=>simp only[A0,pg hl (show 16<=1000 by decide),N3]
def d64 (N:Nat) (r:D9):Option (Ob×D9):=(q8 N r).bind fun a=>(L8 N a.2 6).bind fun n=>(K9 N n.1.toNat 0 n.2 []).bind fun l=>some (⟨a.1,l.2⟩,l.1)
theorem G5.ob (N:Nat):G5 (d64 N) qi fun _=>True:=by
 unfold d64 qi;refine G5.bind (G5.num N) fun a _=>?_;dsimp only;refine G5.bind (G5.count N 6 G7) fun n b=>?_;dsimp only;exact G5.e8 (G5.rep (G5.v N) (L:=K9 N) (fun k r l=>rfl) (H4 N) n.toNat d9) fun l _=>by dsimp only;exact G5.pure trivial
def Gw (N:Nat) (n k:Nat) (r:D9) (l:List Ob) (hl:l.length<=1000):R9 N (n+1) k r l=(d64 N r).bind fun y=>R9 N n (k+1) y.2 (l++[y.1]):=by
 rw[R9];unfold d64;cases c:q8 N r with
 |none=>rfl
 |some a =>
  simp only[A0];cases e:L8 N a.2 6 with
  |none=>rfl
  |some b =>
   simp only[A0,d39];cases f:K9 N b.1.toNat 0 b.2 [] with
   |none=>rfl
   |some d=>simp only[A0,pg hl (show 32<=1000 by decide),N3]
theorem G5.wo (N:Nat):G5 (rA N) oV fun _=>True:=by
 unfold rA oV;refine G5.bind (G5.num N) fun e _=>?_;dsimp only;refine G5.bind (G5.count N 12 G7) fun n b=>?_;dsimp only;simp only[d39];refine G5.e8 (G5.rep (G5.cl N) (L:=T9 N) (fun k r l=>rfl) (Gi N) n.toNat d9) fun l _=>?_;dsimp only;refine G5.bind (G5.count N 60 G7) fun m a=>?_;dsimp only;exact G5.e8 (G5.rep (G5.ob N) (L:=R9 N) (fun k r l=>rfl) (Gw N) m.toNat d9) fun l _=>by dsimp only;exact G5.pure trivial
def d33 (t:BL):Option Wd:=match oV t with
 |some (w,[])=>some w
 |_=>none
def KO {w:Wd} (h:qR w):d33 (da w)=some w:=by
 have:=I1.wo.there w [] h;rw[List.append_nil] at this;unfold d33;rw[this]
def Jl (N:Nat) (b:List Int) (i:b.length<4294967281):lW N b=match d33 (strOfNums b).data.toList with
  |none=>some (⟨[],[],0⟩,2)
  |some w=>(pF N w).bind fun r=>bif (!decide (r=0)) then some (⟨[],[],0⟩,r) else some (w,0):=by
 unfold lW;obtain⟨w,r,g,_,_,_,c⟩:=G5.wo N ⟨strOfNums b,true⟩ (by rw[strOfNums_size];exact i);have c:=c rfl;rw[g];simp only[A0];simp only at c;unfold d33;cases f:oV (strOfNums b).data.toList with
 |none =>
  rw[f] at c;simp only[c,MU,N3,A0]
 |some x =>
  obtain⟨x,t⟩:=x;rw[f] at c;obtain⟨rfl,h,d⟩:=c;simp only[h,MK,N4,A0];cases t with
  |nil =>
   have:r.s=⟨#[]⟩:=Dp d;simp only[this,NA,MK,N4]
  |cons a t =>
   have:¬r.s=⟨#[]⟩:=fun e=>by rw[e] at d;cases d
   simp only[this,NB,MU,N3]
def j7 (a:List Cl) (s:ByteArray):Bool:=a.any fun d=>decide (d.name=s)
def tO (k:Nat) (c:Cl):Bool:=match N8.a7[k]? with
 |some f=>!decide (c.name=f.name)
 |none=>false
def qS (k:Nat) (c:Cl):Bool:=(match N8.a7[k]? with
 |some f=>!decide (c.aR=f.aR) || !decide (c.aG=0)
 |none=>decide (c.aR<0) || (decide ((k:Int)<=c.aR) || (!decide (c.aR=0) && decide (c.aR<4)))) || (decide (c.aG<0) || decide (6<c.aG))
def lh (a:List Cl) (k:Nat) (c:Cl):Int:=bif !Y4 c.name || (j7 a c.name || tO k c) then 7 else bif qS k c then 3 else 0
def ji (w:Wd):List Cl->Nat->H9 Int Unit
 |[],_=>.next ()
 |c::l,k=>bif decide (lh (w.a7.take k) k c=0) then ji w l (k+1) else .ret (lh (w.a7.take k) k c)
def qJ (k:Nat) (m:Me):Bool:=decide (k=3) && (bt.any (fun p=>decide (p.name=m.name) && decide (p.aU=m.aU)) && (decide (m.args=1) && (decide (m.a8=0) && decide (m.code=[]))))
def nz (p:Option Me) (m:Me):Bool:=match p with
 |some q=>!Y5 q.name m.name
 |none=>false
def d40 (N:Nat) (w:Wd) (k:Nat) (p:Option Me) (m:Me):Option Int:=bif nz p m then some 7 else bif qJ k m then some 0 else(aj N w (k:Int) m).map (·.err)
def qB (N:Nat) (w:Wd) (k:Nat) (ms:List Me):List Me->Nat->Option (H9 Int Unit)
 |[],_=>some (.next ())
 |m::l,j=>(d40 N w k (if j=0 then none else ms[j-1]?) m).bind fun e=>bif decide (e=0) then qB N w k ms l (j+1) else some (.ret e)
def mA (N:Nat) (w:Wd):List Cl->Nat->Option (H9 Int Unit)
 |[],_=>some (.next ())
 |c::l,k=>bif decide (6<p8 w (k:Int)) then some (.ret 3) else bif decide (8<(c.aC.length:Int)) then some (.ret 5) else(qB N w k c.aC c.aC 0).bind fun o=>match o with
  |.ret r=>some (.ret r)
  |.next ()=>mA N w l (k+1)
def lg (n:Int):List V->H9 Int Unit
 |[]=>.next ()
 |v::l=>bif decide (ca v n=0) then lg n l else .ret (ca v n)
def oS (w:Wd) (o:Ob):Bool:=(!decide (o.cls=0) && (decide (o.cls<4) || decide ((w.a7.length:Int)<=o.cls))) || !decide ((o.aG.length:Int)=p8 w o.cls)
def mC (w:Wd):List Ob->H9 Int Unit
 |[]=>.next ()
 |o::l=>bif oS w o then .ret 8 else match lg (w.heap.length:Int) o.aG with
  |.ret r=>.ret r
  |.next ()=>mC w l
def pt (N:Nat) (w:Wd):Option Int :=
 bif decide ((w.a7.length:Int)<4) || (decide (12<(w.a7.length:Int)) || decide (60<(w.heap.length:Int))) then some 5
 else bif decide (w.aB<0) || decide (1073741824<w.aB) then some 3
 else match ji w w.a7 0 with
  |.ret r=>some r
  |.next ()=>(mA N w w.a7 0).bind fun o=>match o with
   |.ret r=>some r
   |.next ()=>match mC w w.heap with
    |.ret r=>some r
    |.next ()=>some 0
theorem DG {c:Type} [DecidableEq c] (x s:c):∀v:List (c×Bool),fi s (eC x true v)=(decide (x=s) || fi s v)
 |[]=>by
  by_cases h:s=x
  ·simp[eC,fi,h]
  ·simp[eC,fi,h,Ne.symm h]
 |(y,b)::l=>by
  have ih:=DG x s l;by_cases h:x=y
  ·subst h;by_cases a:s=x
   ·simp[eC,fi,a]
   ·simp[eC,fi,a,Ne.symm a]
  ·by_cases a:s=y
   ·have:¬x=s:=fun e=>h (e.trans a);simp[eC,fi,h,a]
   ·simp only[eC,N5 h,fi,N5 a];exact ih
def Ia (a:List Cl) (c:Cl) (s:ByteArray):j7 (a++[c]) s=(decide (c.name=s) || j7 a s):=by
 simp only[j7,List.any_append,List.any_cons,List.any_nil,Bool.or_false];exact Bool.or_comm _ _
theorem sd : N8.a7.length=4:=rfl
def d94 {k:Nat} {f:Cl} (h:N8.a7[k]?=some f):k<4:=by
 have:=(MI.1 h).1
 rwa [sd] at this
def d83 {k:Nat} (h:N8.a7[k]?=none):4<=k:=by
 have:=List.getElem?_eq_none_iff.1 h
 rwa [sd] at this
theorem CA (N:Nat) (w:Wd) (r:w.a7.length<=1048576):∀(l:List Cl) (k:Nat) (v:List (ByteArray×Bool)),l=w.a7.drop k->v.length<=k->(∀s,fi s v=j7 (w.a7.take k) s)->mz N N8 l k v=some (ji w l k)
 |[],k,v,_,_,_=>rfl
 |c::l,k,v,h,hv,hm=>by
  obtain⟨p,hl,i⟩:=Z6 h;have i:=of_decide_eq_true i;have t:=xJ p;have ih:=CA N w r l (k+1) (eC c.name true v) hl (by have:=xi c.name true v;omega) (fun s=>by rw[DG,hm,t,Ia]);rw[mz,qn,ji,sd];simp only[A0,hm,ih,Nat.ble_eq_true_of_le (show v.length+1<=140737488355328 by omega),N3];unfold lh tO qS;cases u:Y4 c.name with
  |false=>simp
  |true =>
   cases hd:j7 (w.a7.take k) c.name with
   |true=>simp
   |false =>
    cases o:N8.a7[k]? with
    |some f =>
     have q:=d94 o;have e1:decide ((k:Int)<((4:Nat):Int))=true:=ND d9;have n:decide (((4:Nat):Int)<=(k:Int))=false:=NC d9;simp only[e1,n,D5,o,A0,N3,N4,MK,Bool.false_or];by_cases b:c.name=f.name
     ·by_cases a:c.aR=f.aR
      ·by_cases d:c.aG=0
       ·simp[b,a,d]
       ·simp[b,a,d]
      ·simp[b,a]
     ·simp[b]
    |none =>
     have q:=d83 o;have e:¬k=0:=d9;have e1:decide ((k:Int)<((4:Nat):Int))=false:=NC d9;have n:decide (((4:Nat):Int)<=(k:Int))=true:=ND d9;simp only[e1,n,A0,N3,N4,MK,Bool.false_or];by_cases b:c.aR<0
     ·simp[b]
     ·by_cases a:(k:Int)<=c.aR
      ·simp[b,a]
      ·by_cases d:c.aR=0
       ·by_cases g:c.aG<0
        ·simp[e,a,d,g]
        ·by_cases j:6<c.aG
         ·simp[e,a,d,g,j]
         ·simp[e,a,d,g,j]
       ·by_cases m:c.aR<4
        ·simp[b,a,d,m]
        ·by_cases g:c.aG<0
         ·simp[b,a,d,g,m]
         ·by_cases j:6<c.aG
          ·simp[b,a,d,g,j,m]
          ·simp[b,a,d,g,j,m]
theorem Dn {s:ByteArray} {q:Int}:∀{l:List Me},dK l->l.any (fun p=>decide (p.name=s) && decide (p.aU=q))=match bJ s l with
  |some i=>(match l[i]? with
   |some x=>decide (x.aU=q)
   |none=>false)
  |none=>false
 |[],_=>rfl
 |m::r,h=>by
  have d:=(List.pairwise_cons.1 h).1;have ih:=Dn (s:=s) (q:=q) (List.pairwise_cons.1 h).2;rw[List.any_cons,bJ];by_cases e:m.name=s
  ·rw[N6 e,ND e];have:r.any (fun p=>decide (p.name=s) && decide (p.aU=q))=false:=by
    rw[List.any_eq_false];intro p f;have a:=d p f;have b:¬p.name=s:=fun c=>by
     rw[e,<-c] at a;rw[jk] at a;cases a
    simp[b]
   rw[this];simp
  ·rw[N5 e,NC e,ih];cases bJ s r with
   |none=>rfl
   |some i=>simp
def DB : dK bt:=by unfold dK;decide +kernel
def IB : dT N8:=fun x a=>by
 have:x.aC=[]\/x.aC=bt:=by
  simp only[N8,MJ,List.not_mem_nil,or_false] at a;rcases a with rfl|rfl|rfl|rfl<;>simp
 rcases this with e|e<;>rw[e]
 ·exact List.Pairwise.nil
 ·exact DB
def uD : D7 N8:=by
 refine⟨G7,G7,fun x b=>?_,fun o c=>by cases c⟩;simp only[N8,MJ,List.not_mem_nil,or_false] at b;have a:∀m∈bt,m.code.length<=1048576:=G7;rcases b with rfl|rfl|rfl|rfl
 ·exact⟨G7,fun m a=>by cases a⟩
 ·exact⟨G7,fun m a=>by cases a⟩
 ·exact⟨G7,fun m a=>by cases a⟩
 ·exact⟨G7,a⟩
def J1 (s:ByteArray):l7 N8 s 3=match bJ s bt with
  |some i=>(3,(i:Int))
  |none=>(-1,-1):=by
 unfold l7;have a:N8.a7[(3:Int).toNat]?=some ⟨⟨#[73,110,116]⟩,0,0,bt⟩:=rfl;have e0:N8.a7[(0:Int).toNat]?=some ⟨⟨#[79,98,106,101,99,116]⟩,-1,0,[]⟩:=rfl;have b:X3 N8 s 4 0=none:=by
  rw[X3,N6 G7,e0];show X3 N8 s 3 (-1)=none;rw[X3,N5 G7]
 rw[sd,X3,N6 G7,a];show(match bJ s bt with
  |some i=>some ((3:Int),(i:Int))
  |none=>X3 N8 s 4 0).getD (-1,-1)=_
 rw[b];cases bJ s bt<;>rfl
def JJ (N:Nat) (j:1048578<=N) (m:Me):pW N N8 m=some (bt.any (fun p=>decide (p.name=m.name) && decide (p.aU=m.aU)) && (decide (m.args=1) && (decide (m.a8=0) && decide (m.code=[])))):=by
 have hl:∀i,bJ m.name bt=some i->∃x,bt[i]?=some x:=fun i h=>by
  obtain⟨x,b,_⟩:=jb h;exact⟨x,b⟩
 have k:decide ((m.code.length:Int)=0)=decide (m.code=[]):=by
  cases m.code<;>simp;omega
 unfold pW;rw[lM N N8 3 m.name j IB uD,J1,Dn DB];cases hi:bJ m.name bt with
 |none=>rfl
 |some i =>
  obtain⟨x,b⟩:=hl i hi;have g:j4 N8.a7 3=some ⟨⟨#[73,110,116]⟩,0,0,bt⟩:=rfl;simp only[A0,g,D5,b,ND (Int.natCast_nonneg i),N3,k];by_cases a:x.aU=m.aU
  ·by_cases d:m.args=1
   ·by_cases f:m.a8=0
    ·simp[a,d,f]
    ·simp[a,d,f]
   ·simp[a,d]
  ·have c:¬m.aU=x.aU:=fun e=>a e.symm;simp[a,c]
def Jn {m:Me} (h:bt.any (fun p=>decide (p.name=m.name) && decide (p.aU=m.aU))=true):m.aU≠0/\∃p∈bt,p.name=m.name/\p.aU=m.aU:=by
 obtain⟨p,a,h⟩:=List.any_eq_true.1 h;simp only[IT,NF] at h;have b:∀q∈bt,q.aU≠0:=G7;exact⟨by rw[<-h.2];exact b p a,p,a,h⟩
theorem CL (N:Nat) (w:Wd) (k:Nat) (c:Cl) (q:4194304<=N) (i:D7 w) (r:c∈w.a7):∀(l:List Me) (j:Nat),l=c.aC.drop j->n5 N w N8 k c l j=qB N w k c.aC l j
 |[],j,_=>rfl
 |m::l,j,h=>by
  obtain⟨y,hl,b⟩:=Z6 h;have b:=of_decide_eq_true b;have v:=(i.2.2.1 c r).1;have ih:=CL N w k c q i r l (j+1) hl;have ep:((bif decide ((0:Int)<(j:Int)) then((j4 c.aC (wr ((j:Int)-(1:Int)))).bind fun e=>some ((!Y5 e.name m.name))) else some (false)):Option Bool) =
    some (nz (if j=0 then none else c.aC[j-1]?) m):=by
   by_cases o:j=0
   ·subst o;rfl
   ·have wk:wr ((j:Int)-1)=((j-1:Nat):Int):=by rw[u7 ino];omega
    obtain⟨p,x⟩:∃p,c.aC[j-1]?=some p:=⟨_,IS d9⟩;rw[ND (show(0:Int)<(j:Int) by omega),N5 o];simp only[N3,wk,D5,x,A0,nz]
  have eq:((bif (!decide (m.aU=(0:Int))) then(bif decide ((k:Int)=(3:Int)) then((pW N N8 m).bind fun d=>some (d)) else some (false)) else some (false)):Option Bool)=some (qJ k m):=by
   rw[JJ N d9 m];unfold qJ;by_cases g:k=3
   ·have a:(k:Int)=3:=d9;cases t:bt.any (fun p=>decide (p.name=m.name) && decide (p.aU=m.aU)) with
    |true =>
     have:=(Jn t).1;simp[g,this]
    |false =>
     by_cases n:m.aU=0<;>simp[g,n]
   ·have a:¬(k:Int)=3:=d9;by_cases n:m.aU=0<;>simp[g,a,n]
  rw[n5,ep,eq,Az N w _ _ d9 i.1,qB];unfold d40;simp only[A0,ih];cases nz (if j=0 then none else c.aC[j-1]?) m with
  |true=>simp
  |false =>
   cases qJ k m with
   |true=>simp
   |false =>
    simp only[N4];obtain⟨f,u⟩:=wv N w (k:Int) m q;rw[u];simp only[A0,Mj];by_cases s:f.err=0
    ·simp[s]
    ·simp[s]
theorem CD (N:Nat) (w:Wd) (b:4194304<=N) (a:D7 w):∀(l:List Cl) (k:Nat),l=w.a7.drop k->n4 N w N8 l k=mA N w l k
 |[],k,_=>rfl
 |c::l,k,h=>by
  obtain⟨d,hl,e⟩:=Z6 h;rw[n4,oq N w _ d9 a.1,mA,CL N w k c b a (MT d) c.aC 0 rfl];simp only[A0,CD N w b a l (k+1) hl];rfl
theorem Cg (N:Nat) (w:Wd):∀(l:List V) (k:Nat),nM N w l k=some (lg (w.heap.length:Int) l)
 |[],k=>rfl
 |v::l,k=>by
  rw[nM,Ae,lg];simp only[A0,Cg N w l (k+1)];by_cases h:ca v (w.heap.length:Int)=0<;>simp[h]
theorem D0 (N:Nat) (w:Wd) (b:1048578<=N) (c:w.a7.length<=1048576) (f:4<=w.a7.length):∀(l:List Ob) (k:Nat),nH N w l k=some (mC w l)
 |[],k=>rfl
 |o::l,k=>by
  rw[nH,oq N w _ b c,mC,Cg];simp only[A0,D0 N w b c f l (k+1)];have e:((bif (!decide (o.cls=(0:Int))) then(bif decide (o.cls<(4:Int)) then some (true) else(bif decide ((w.a7.length:Int)<=o.cls) then some (true) else some ((!decide ((o.aG.length:Int)=p8 w o.cls))))) else some ((!decide ((o.aG.length:Int)=p8 w o.cls)))):Option Bool)=some (oS w o):=by
   unfold oS;by_cases a:o.cls=0
   ·simp[a]
   ·by_cases d:o.cls<4
    ·simp[a,d]
    ·by_cases g:(w.a7.length:Int)<=o.cls<;>simp[a,d,g]
  rw[e];simp only[A0];cases oS w o with
  |true=>rfl
  |false =>
   simp only[N4];cases lg (w.heap.length:Int) o.aG<;>rfl
def Gk (N:Nat) (w:Wd) (e:4194304<=N) (b:D7 w):pF N w=pt N w:=by
 unfold pF pt uI;have e1:((bif decide ((w.a7.length:Int)<(N8.a7.length:Int)) then some (true) else(bif decide ((12:Int)<(w.a7.length:Int)) then some (true) else some (decide ((60:Int)<(w.heap.length:Int))))):Option Bool)=some (decide ((w.a7.length:Int)<4) || (decide (12<(w.a7.length:Int)) || decide (60<(w.heap.length:Int)))):=by
  rw[sd];have:((4:Nat):Int)=4:=rfl;rw[this];by_cases a:(w.a7.length:Int)<4
  ·simp[a]
  ·by_cases g:(12:Int)<(w.a7.length:Int)<;>simp[a,g]
 have c:((bif decide (w.aB<(0:Int)) then some (true) else some (decide ((1073741824:Int)<w.aB))):Option Bool)=some (decide (w.aB<0) || decide (1073741824<w.aB)):=by
  by_cases a:w.aB<0<;>simp[a]
 simp only[A0,e1,c];cases f:(decide ((w.a7.length:Int)<4) || (decide (12<(w.a7.length:Int)) || decide (60<(w.heap.length:Int)))) with
 |true=>rfl
 |false =>
  have d:4<=w.a7.length:=by
   simp only[Bool.or_eq_false_iff,decide_eq_false_iff_not] at f;omega
  simp only[N4];cases (decide (w.aB<0) || decide (1073741824<w.aB)) with
  |true=>rfl
  |false =>
   simp only[N4,CA N w b.1 w.a7 0 [] rfl (It _) (fun s=>rfl),CD N w e b w.a7 0 rfl,uG,D0 N w d9 b.1 d w.heap 0,A0];cases ji w w.a7 0 with
   |ret r=>rfl
   |next u =>
    cases mA N w w.a7 0 with
    |none=>rfl
    |some o =>
     cases o with
     |ret r=>rfl
     |next u =>
      simp only[A0];cases mC w w.heap<;>rfl
end Go.Proofs.YtibjcppjfkamhaaGreatDoor
