import Derived.Test.YtibjcppjfkamhaaGreatDoorC
set_option linter.unusedVariables false
set_option linter.defProp false
set_option linter.unusedSimpArgs false
namespace Go.Proofs.YtibjcppjfkamhaaGreatDoor
open Go.RowKit
open _root_.Bool renaming not_true->IT,and_eq_true->It,not_false->QJ,false_eq_true->Qe
open _root_.ByteArray renaming empty->IS
open _root_.Int renaming le_refl->QQ,toNat_natCast->Qc
open _root_.List renaming getElem?_eq_getElem->No,getElem?_eq_some_iff->OR,length_append->Of,mem_cons->QG,replicate->QH,length_cons->QI,map->QK,mem_of_getElem?->QM,map_cons->QO,all_eq_true->QP,mem_append->QS,mem_map->QT,length_map->QU,getElem?_set->QV,sum_cons->QX,getElem?_append_right->QY,length_set->Qa,getElem?_eq_none->Qb,nil_append->Qd,mem_singleton->Qf,length_nil->Qh,eq_nil_of_length_eq_zero->Qj,mem_cons_of_mem->Qp,length_singleton->Qq,mem_iff_getElem?->Qv,getElem?_cons_zero->Qy
open _root_.Nat renaming ble->AT,le_refl->NO
open _root_.Option renaming bind_some->A0,map_eq_some_iff->QL,map_some->QZ
open _root_.Or renaming inl->IN
def kJ(a b:V):cE (eV a) (eV b)=decide (a=b):=N3 a b
def dh(a b:St):cE (Z8 a) (Z8 b)=decide (a=b):=Ap a b
def kG(a b:Ln):cE (O6 a) (O6 b)=decide (a=b):=PZ a b
def jw(a b:Ins):cE (bh a) (bh b)=decide (a=b):=Oz a b
def ma{b:Type}{l:List b}{k n:Nat}(h:n+1=(l.drop k).length):∃y,l[k]?=some y/\l.drop k=y::l.drop (k+1)/\n=(l.drop (k+1)).length:=by
 rw[List.length_drop] at h;have a:k<l.length:=d9;refine⟨l[k],No a,List.drop_eq_getElem_cons a,by rw[List.length_drop];omega⟩
def mc{a:Type}{l:List a}{k:Nat}(h:0=(l.drop k).length):l.drop k=[]:=Qj h.symm
def Dm(N:Nat)(b:List Ins):∀(l:List Ins) (k:Nat),l.length=(b.drop k).length->ns N b l k=some (if l=b.drop k then .next () else .ret false)
 |[],k,h=>by rw[mc h];rfl
 |x::l,k,h=>by
  obtain⟨y,a,hd,hl⟩:=ma h;rw[hd,ns];simp only[A0,Option.bind_none,Qz,R0,Bool.cond_decide,kJ,dh,kG,jw,IT,QJ,q9,a,Dm N b l (k+1) hl];by_cases e:x=y<;>simp[e]
def Kv(N:Nat)(a b:List Ins):vP N a b=some (decide (a=b)):=by
 unfold vP;by_cases h:a.length=b.length
 ·rw[Dm N b a 0 (by simpa using h)];by_cases e:a=b<;>simp[h,e]
 ·have:a≠b:=fun e=>h (by rw[e]);have c:¬((a.length:Int)=b.length):=d9;simp[this,c]
def CG(N:Nat)(b:List Ln):∀(l:List Ln) (k:Nat),l.length=(b.drop k).length->nf N b l k=some (if l=b.drop k then .next () else .ret false)
 |[],k,h=>by rw[mc h];rfl
 |x::l,k,h=>by
  obtain⟨y,a,hd,hl⟩:=ma h;rw[hd,nf];simp only[A0,Option.bind_none,Qz,R0,Bool.cond_decide,kJ,dh,kG,jw,IT,QJ,q9,a,CG N b l (k+1) hl];by_cases e:x=y<;>simp[e]
def CC(N:Nat)(a b:List Ln):sC N a b=some (decide (a=b)):=by
 unfold sC;by_cases h:a.length=b.length
 ·rw[CG N b a 0 (by simpa using h)];by_cases e:a=b<;>simp[h,e]
 ·have:a≠b:=fun e=>h (by rw[e]);have c:¬((a.length:Int)=b.length):=d9;simp[this,c]
def CI(N:Nat)(b:Wd)(i:Nat)(o:Ob)(a:b.heap[i]?=some o):∀(l:List V) (k:Nat),l.length=(o.aG.drop k).length->nq N b i l k=some (if l=o.aG.drop k then .next () else .ret false)
 |[],k,h=>by rw[mc h];rfl
 |x::l,k,h=>by
  obtain⟨y,c,hd,hl⟩:=ma h;rw[hd,nq];simp only[A0,Option.bind_none,Qz,R0,Bool.cond_decide,kJ,dh,kG,jw,IT,QJ,q9,c,a,CI N b i o a l (k+1) hl];by_cases e:x=y<;>simp[e]
def CE(N:Nat)(b:Wd):∀(l:List Ob) (k:Nat),l.length=(b.heap.drop k).length->ni N b l k=some (if l=b.heap.drop k then .next () else .ret false)
 |[],k,h=>by rw[mc h];rfl
 |x::l,k,h=>by
  obtain⟨y,i,hd,hl⟩:=ma h;rw[hd,ni];simp only[A0,Option.bind_none,Qz,R0,Bool.cond_decide,kJ,dh,kG,jw,IT,QJ,q9,i,CE N b l (k+1) hl];obtain⟨m,a⟩:=x;obtain⟨j,c⟩:=y;by_cases e1:m=j
  ·by_cases f:a.length=c.length
   ·have:=CI N b k ⟨j,c⟩ i a 0 (by simpa using f);simp only[List.drop_zero] at this;by_cases d:a=c
    ·subst d;simp[e1,this]
    ·simp[e1,f,d,this]
   ·have d:a≠c:=fun e=>f (by rw[e]);have g:¬((a.length:Int)=c.length):=d9;simp[e1,g,d]
  ·simp[e1]
def Dh(N:Nat)(c:Cl):∀(l:List Me) (k:Nat),l.length=(c.aB.drop k).length->nj N c l k=some (if l=c.aB.drop k then .next () else .ret false)
 |[],k,h=>by rw[mc h];rfl
 |x::l,k,h=>by
  obtain⟨y,f,hd,hl⟩:=ma h;rw[hd,nj];simp only[A0,Option.bind_none,Qz,R0,Bool.cond_decide,kJ,dh,kG,jw,IT,QJ,q9,f,Dh N c l (k+1) hl,Kv];obtain⟨g,i,j,m,n⟩:=x;obtain⟨o,p,q,r,s⟩:=y;by_cases e1:g=o
  ·by_cases a:i=p
   ·by_cases b:j=q
    ·by_cases d:m=r
     ·by_cases e:n=s<;>simp[e1,a,b,d,e]
     ·simp[e1,a,b,d]
    ·simp[e1,a,b]
   ·simp[e1,a]
  ·simp[e1]
def Db(N:Nat)(b:Wd):∀(l:List Cl) (k:Nat),l.length=(b.a7.drop k).length->nh N b l k=some (if l=b.a7.drop k then .next () else .ret false)
 |[],k,h=>by rw[mc h];rfl
 |x::l,k,h=>by
  obtain⟨y,p,hd,hl⟩:=ma h;rw[hd,nh];simp only[A0,Option.bind_none,Qz,R0,Bool.cond_decide,kJ,dh,kG,jw,IT,QJ,q9,p,Db N b l (k+1) hl];obtain⟨q,r,s,c⟩:=x;obtain⟨m,n,o,d⟩:=y;by_cases e1:q=m
  ·by_cases a:r=n
   ·by_cases f:s=o
    ·by_cases i:c.length=d.length
     ·have:=Dh N ⟨m,n,o,d⟩ c 0 (by simpa using i);simp only[List.drop_zero] at this;by_cases g:c=d
      ·subst g;simp[e1,a,f,this]
      ·simp[e1,a,f,i,g,this]
     ·have g:c≠d:=fun e=>i (by rw[e]);have j:¬((c.length:Int)=d.length):=d9;simp[e1,a,f,j,g]
    ·simp[e1,a,f]
   ·simp[e1,a]
  ·simp[e1]
def d30(N:Nat)(a b:Wd):vK N a b=some (decide (a=b)):=by
 unfold vK;obtain⟨g,h,q⟩:=a;obtain⟨c,d,m⟩:=b;by_cases f:q=m
 ·by_cases j:g.length=c.length
  ·by_cases k:h.length=d.length
   ·have l:=Db N ⟨c,d,m⟩ g 0 (by simpa using j);have p:=CE N ⟨c,d,m⟩ h 0 (by simpa using k);simp only[List.drop_zero] at l p;by_cases e1:g=c
    ·subst e1;by_cases i:h=d
     ·subst i;simp[f,l,p]
     ·simp[i,f,k,l,p]
    ·simp[e1,f,j,k,l]
   ·have i:h≠d:=fun e=>k (by rw[e]);have o:¬((h.length:Int)=d.length):=d9;simp[i,f,j,o]
  ·have e1:g≠c:=fun e=>j (by rw[e]);have n:¬((g.length:Int)=c.length):=d9;simp[e1,f,n]
 ·simp[f]
def p9{a b:Nat}(h:a<=b):AT a b=true:=by rw[Nat.ble_eq];exact h
def zk{a:Type}{l:List a}{i:Int}(h:¬(i<l.length)):l[i.toNat]?=none:=Qb d9
def fC{a:Type}{l:List a}{i:Int}(h:0<=i):j3 l i=l[i.toNat]?:=by
 unfold j3;rw[RE h];rfl
def V7{a:Type}{l:List a}{i:Int}(h:0<=i)(b:i<l.length):∃x,l[i.toNat]?=some x/\j3 l i=some x:=by
 have hl:i.toNat<l.length:=d9;exact⟨l[i.toNat],No hl,by rw[fC h,No hl]⟩
def Z9(v:V)(n:Int):Int :=
 if v.k=0\/v.k=1\/v.k=2 then(if v.n=0 then 0 else 2)
 else if v.k=3 then(if v.n < -1073741824\/1073741824<v.n then 3 else 0)
 else if v.k=4 then(if v.n<0\/n<=v.n then 6 else 0) else 1
def D1(N:Nat)(v:V)(n:Int):sr N v n=some (Z9 v n):=by
 unfold sr Z9;by_cases b:v.k=0
 ·by_cases h:v.n=0<;>simp[b,h]
 by_cases c:v.k=1
 ·by_cases h:v.n=0<;>simp[c,h]
 by_cases d:v.k=2
 ·by_cases h:v.n=0<;>simp[d,h]
 by_cases e:v.k=3
 ·by_cases h:v.n < -1073741824<;>by_cases a:1073741824<v.n<;>simp[e,h,a]
 by_cases f:v.k=4
 ·by_cases h:v.n<0<;>by_cases a:n<=v.n<;>simp[f,h,a]
 simp[b,c,d,e,f]
def ri(N:Nat)(v:V)(n:Int):qX N v n=some (Z9 v n):=by
 unfold qX Z9;by_cases b:v.k=0
 ·by_cases h:v.n=0<;>simp[b,h]
 by_cases c:v.k=1
 ·by_cases h:v.n=0<;>simp[c,h]
 by_cases d:v.k=2
 ·by_cases h:v.n=0<;>simp[d,h]
 by_cases e:v.k=3
 ·by_cases h:v.n < -1073741824<;>by_cases a:1073741824<v.n<;>simp[e,h,a]
 by_cases f:v.k=4
 ·by_cases h:v.n<0<;>by_cases a:n<=v.n<;>simp[f,h,a]
 by_cases g:v.k<0
 ·simp[b,c,d,e,f,g]
 ·have i:4<v.k:=d9;simp[b,c,d,e,f,g,i]
def y9(h:List Ob)(v:V):Int :=
 if v.k=0 then 1 else if v.k=1\/v.k=2 then 2 else if v.k=3 then 3
 else if v.k=4/\0<=v.n then(match h[v.n.toNat]? with|some o=>o.cls|none=>0) else 0
def sQ(N:Nat)(h:List Ob)(v:V):mP N h v=some (y9 h v):=by
 unfold mP y9;by_cases d:v.k=0
 ·simp[d]
 by_cases e:v.k=1
 ·simp[e]
 by_cases f:v.k=2
 ·simp[f]
 by_cases g:v.k=3
 ·simp[g]
 by_cases a:v.k=4
 ·by_cases b:0<=v.n
  ·by_cases c:v.n<h.length
   ·obtain⟨x,i,j⟩:=V7 b c;simp[a,b,c,j];exact(congrArg Ob.cls (OR.1 i).2).symm
   ·simp[a,b,c]
  ·simp[a,b]
 ·simp[d,e,f,g,a]
def Ck(N:Nat)(h:List Ob)(v:V):sa N h v=some (y9 h v):=by
 unfold sa y9;by_cases d:v.k=0
 ·simp[d,j3]
 by_cases e:v.k=1
 ·simp[e,j3]
 by_cases f:v.k=2
 ·simp[f,j3]
 by_cases g:v.k=3
 ·simp[g,j3]
 by_cases b:v.k=4
 ·by_cases a:0<=v.n
  ·by_cases c:v.n<h.length
   ·obtain⟨x,i,j⟩:=V7 a c;simp[b,a,c,j];exact(congrArg Ob.cls (OR.1 i).2).symm
   ·simp[b,a,c]
  ·simp[b,a]
 ·by_cases a:v.k<0
  ·simp[d,e,f,g,b,a]
  ·have c:3<v.k:=d9;simp[d,e,f,g,b,a,c]
def jY(h:List Ob)(v:V)(n:Int):V :=
 if v.k=4/\0<=v.n/\0<=n then(match h[v.n.toNat]? with|some o=>o.aG.getD n.toNat ⟨0,0⟩|none=>⟨0,0⟩) else⟨0,0⟩
def DS(N:Nat)(h:List Ob)(v:V)(n:Int):tH N h v n=some (jY h v n):=by
 unfold tH jY;by_cases e:v.k=4
 ·by_cases f:0<=v.n
  ·have a:¬v.n<0:=d9;by_cases o:v.n<h.length
   ·have b:¬((h.length:Int)<=v.n):=d9;obtain⟨x,l,m⟩:=V7 f o;by_cases g:0<=n
    ·have c:¬n<0:=d9;by_cases p:n<x.aG.length
     ·have d:¬((x.aG.length:Int)<=n):=d9;obtain⟨y,i,j⟩:=V7 g p;simp[e,f,a,b,g,c,l,m,d,i,j,List.getD_eq_getElem?_getD]
     ·have d:((x.aG.length:Int)<=n):=d9;simp[e,f,a,b,g,c,l,m,d,List.getD_eq_getElem?_getD]
    ·have c:n<0:=d9;simp[e,f,a,b,g,c]
   ·have b:((h.length:Int)<=v.n):=d9;simp[e,f,a,b]
  ·have a:v.n<0:=d9;simp[e,f,a]
 ·simp[e]
def yN(N:Nat)(n:Int):∀(l:List V) (k:Nat),lr N n l k=some (if(k:Int)<=n then(match l[(n-k).toNat]? with|some x=>.ret x|none=>.next ()) else .next ())
 |[],k=>by simp[lr]
 |x::l,k=>by
  rw[lr,yN N n l (k+1)];by_cases e:(k:Int)=n
  ·subst e;simp
  ·by_cases h:(k:Int)<=n
   ·have a:((k+1:Nat):Int)<=n:=d9;have b:(n-(k:Int)).toNat=(n-((k+1:Nat):Int)).toNat+1:=d9;rw[RA a,RA h,b];simp[e]
   ·have a:¬((k+1:Nat):Int)<=n:=d9;rw[R1 a,R1 h];simp[e]
def Jp(N:Nat)(h:List Ob)(v:V)(n:Int):uq N h v n=some (jY h v n):=by
 unfold uq jY;by_cases a:v.k=4
 ·by_cases b:0<=v.n
  ·by_cases c:v.n<h.length
   ·obtain⟨x,g,e⟩:=V7 b c;by_cases d:0<=n
    ·simp only[a,b,c,g,e,A0,Option.bind_none,Qz,R0,Bool.cond_decide,kJ,dh,kG,jw,IT,QJ,q9,RB,yN];have:(n-((0:Nat):Int)).toNat=n.toNat:=d9;rw[this];cases f:x.aG[n.toNat]?<;>simp[d,f,List.getD_eq_getElem?_getD]
    ·simp[a,b,c,e,yN,d]
   ·simp[a,b,c]
  ·simp[a,b]
 ·simp[a]
def xz(N:Nat)(b:Bool):tJ N b=some (if b=true then⟨2,0⟩ else⟨1,0⟩):=by cases b<;>rfl
def yT(N:Nat)(b:Bool):qg N b=some (if b=true then⟨2,0⟩ else⟨1,0⟩):=by cases b<;>rfl
def ug(N:Nat){l:List V}(h:l.length<=1048576):oJ N l=some l:=by
 unfold oJ;rw[p9 d9];rfl
def Cd(N:Nat):∀(l:List Ob) (k:Nat) (a:List Ob),(∀o∈l,o.aG.length<=1048576)->a.length+l.length<=1048576->mI N l k a=some (a++l)
 |[],k,a,_,_=>by simp[mI]
 |x::l,k,a,h,hl=>by
  rw[mI,ug N (h x l9)];simp only[A0];rw[p9 (by simp at hl⊢;omega)];simp only[Qz];rw[Cd N l (k+1) _ (fun o b=>h o (by simp[b])) (by simp at hl⊢;omega)];simp
def sj(N:Nat){l:List Ob}(h:∀o∈l,o.aG.length<=1048576)(hl:l.length<=1048576):ow N l=some l:=by
 unfold ow;rw[Cd N l 0 [] h (by simpa using hl)];rfl
def d24(N:Nat){l:List Ob}(c s:Int)(h:∀o∈l,o.aG.length<=1048576)(hl:l.length<=1048575)(e:0<=s)(f:s<=1000):
  jM N l c s=some (if 60<=l.length then([],⟨0,0⟩,15) else(l++[⟨c,QH s.toNat ⟨0,0⟩⟩],⟨4,(l.length:Int)⟩,0)):=by
 unfold jM;have d:max s 0=s:=d9;by_cases b:60<=l.length
 ·have a:(60:Int)<=l.length:=d9;simp[b,a]
 ·have a:¬(60:Int)<=l.length:=d9;rw[sj N h d9,d];have e1:(decide (0<=s) && decide (s<=140737488355328) && decide (s*16<=140737488355328))=true:=by
   simp only[It,RF];omega
  rw[e1];simp only[A0,Qz];rw[p9 F5];simp[b,a]
def iq(n:Int):V:=⟨3,n.tmod 1073741825⟩
def ck(p:Int)(a b:V):V×Int :=
 if a.k≠3\/b.k≠3 then(⟨0,0⟩,12)
 else if p=1 then(iq (a.n+b.n),0) else if p=2 then(iq (a.n-b.n),0) else if p=3 then(iq (a.n*b.n),0)
 else if p=4 then(if a.n<b.n then⟨2,0⟩ else⟨1,0⟩,0) else if p=5 then(if a.n=b.n then⟨2,0⟩ else⟨1,0⟩,0) else(⟨0,0⟩,1)
def Nn(n:Int):H8 (n.tmod 1073741825):=by
 have a:=Int.tmod_lt_of_pos n (show(0:Int)<1073741825 by omega);have b:-1073741825<n.tmod 1073741825:=by
  rcases Int.le_total 0 n with h|h
  ·have:=Int.tmod_nonneg (1073741825:Int) h;omega
  ·have:=Int.tmod_lt_of_pos (-n) (show(0:Int)<1073741825 by omega);rw[Int.neg_tmod] at this;omega
 exact⟨d9,d9⟩
def JC(N:Nat)(n:Int):qe N n=some (iq n):=by
 first
  |rfl
  |(unfold qe iq
    have:=Nn n;simp[this])
def eb(n:Int):Prop:=-1073741824<=n/\n<=1073741824
def FO{a b:Int}(c:eb a)(d:eb b):-1152921504606846976<=a*b/\a*b<=1152921504606846976:=by
 have h:(a*b).natAbs<=1073741824*1073741824:=by
  rw[Int.natAbs_mul];exact Nat.mul_le_mul (by have:=c.1;have:=c.2;omega) (by have:=d.1;have:=d.2;omega)
 omega
def Jt(N:Nat)(p:Int)(a b:V)(c:a.k=3->eb a.n)(d:b.k=3->eb b.n):vG N p a b=some (ck p a b):=by
 unfold vG ck;by_cases e:a.k=3
 ·by_cases f:b.k=3
  ·have c:=c e;have d:=d f;have o:=FO c d;have l:wr (a.n+b.n)=a.n+b.n:=q8 (by unfold H8;unfold eb at c d;omega);have m:wr (a.n-b.n)=a.n-b.n:=q8 (by unfold H8;unfold eb at c d;omega);have w3:wr (a.n*b.n)=a.n*b.n:=q8 ino;simp only[e,f,l,m,w3,JC,xz,A0,Option.bind_none,Qz,R0,Bool.cond_decide,kJ,dh,kG,jw,IT,QJ,q9,RB,RF,ne_eq,not_true_eq_false,or_self,if_false];by_cases e1:p=1
   ·simp[e1]
   by_cases g:p=2
   ·simp[g]
   by_cases h:p=3
   ·simp[h]
   by_cases i:p=4
   ·simp[i]
   by_cases j:p=5
   ·simp[j]
   simp[e1,g,h,i,j]
  ·simp[e,f]
 ·simp[e]
def Lg{n:Int}(h:0<=n)(f:n<=1152921504606846976):wr (n-wr (n.tdiv 1073741825*1073741825))=n.tmod 1073741825/\H8 (n.tdiv 1073741825):=by
 have e:=Int.mul_tdiv_add_tmod n 1073741825;have c:=Int.tmod_nonneg (1073741825:Int) h;have d:=Int.tmod_lt_of_pos n (show(0:Int)<1073741825 by omega);have a:wr (n.tdiv 1073741825*1073741825)=n.tdiv 1073741825*1073741825:=q8 ino;have b:wr (n-n.tdiv 1073741825*1073741825)=n-n.tdiv 1073741825*1073741825:=q8 ino;rw[a,b];exact⟨d9,ino⟩
def Ld{n:Int}(h:n<0)(g:-1152921504606846976<=n):wr (n+wr ((-n).tdiv 1073741825*1073741825))=n.tmod 1073741825/\H8 ((-n).tdiv 1073741825)/\H8 (-n):=by
 have e:=Int.mul_tdiv_add_tmod (-n) 1073741825;have d:=Int.tmod_nonneg (1073741825:Int) (show(0:Int)<=-n by omega);have f:=Int.tmod_lt_of_pos (-n) (show(0:Int)<1073741825 by omega);have a:wr ((-n).tdiv 1073741825*1073741825)=(-n).tdiv 1073741825*1073741825:=q8 ino;have b:wr (n+(-n).tdiv 1073741825*1073741825)=n+(-n).tdiv 1073741825*1073741825:=q8 ino;have c:(-n).tmod 1073741825=-(n.tmod 1073741825):=Int.neg_tmod ..;rw[a,b];exact⟨d9,ino,ino⟩
def JL(N:Nat)(p:Int)(a b:V)(f:a.k=3->eb a.n)(g:b.k=3->eb b.n):vy N p a b=some (ck p a b):=by
 unfold vy;by_cases c:a.k=3
 ·by_cases d:b.k=3
  ·have f:=f c;have g:=g d;have u:=FO f g;have y:wr (a.n+b.n)=a.n+b.n:=q8 (by unfold H8;unfold eb at f g;omega);have z:wr (a.n-b.n)=a.n-b.n:=q8 (by unfold H8;unfold eb at f g;omega);have w3:wr (a.n*b.n)=a.n*b.n:=q8 ino;have e:∀n:Int,-1152921504606846976<=n->n<=1152921504606846976->(bif decide ((0:Int)<=n) then(bif (decide ((1073741825:Int)≠0) && decide (H8 (n.tdiv (1073741825:Int)))) then some ((⟨(3:Int),(wr (n-(wr ((n.tdiv (1073741825:Int))*(1073741825:Int)))))⟩:V),(0:Int)) else none) else(bif decide (H8 (-n)) then(bif (decide ((1073741825:Int)≠0) && decide (H8 ((-n).tdiv (1073741825:Int)))) then some ((⟨(3:Int),(wr (n+(wr (((-n).tdiv (1073741825:Int))*(1073741825:Int)))))⟩:V),(0:Int)) else none) else none))=some (iq n,0):=by
    intro n w l2;by_cases o:0<=n
    ·obtain⟨q,r⟩:=Lg o l2;have j:=RE r;have i:decide ((1073741825:Int)≠0)=true:=G7;simp only[o,q,j,i,iq,RB,Qz,Bool.and_true]
    ·obtain⟨q,r,x⟩:=Ld (show n<0 by omega) w;have j:=RE r;have v:=RE x;have i:decide ((1073741825:Int)≠0)=true:=G7;simp only[o,q,j,v,i,iq,RC,Qz,R0,Bool.and_true]
   unfold eb at f g;by_cases e1:p=1
   ·have h:ck p a b=(iq (a.n+b.n),0):=(by simp[ck,c,d,e1]);rw[h];simp only[c,d,y,e1,RB,IT,Qz,R0,A0];exact e _ d9 d9
   by_cases l:p=2
   ·have h:ck p a b=(iq (a.n-b.n),0):=(by simp[ck,c,d,l]);rw[h];simp only[c,d,z,l,RB,IT,Qz,R0,A0];exact e _ d9 d9
   by_cases m:p=3
   ·have h:ck p a b=(iq (a.n*b.n),0):=(by simp[ck,c,d,m]);rw[h];simp only[c,d,w3,m,RB,IT,Qz,R0,A0];exact e _ u.1 u.2
   unfold ck;simp only[c,d,yT,e1,l,m,RB,RC,IT,R0,A0];by_cases s:p=4
   ·simp[s]
   by_cases t:p=5
   ·simp[t]
   simp[s,t]
  ·simp[ck,c,d]
 ·simp[ck,c]
def GA : ∀a:List UInt8,Op.bytesLess a a=false
 |[]=>rfl
 |a::x=>by simp[Op.bytesLess,GA x]
def d55 : ∀a b c:List UInt8,Op.bytesLess a b=true->Op.bytesLess b c=true->Op.bytesLess a c=true
 |_,[],_,h,_=>by simp[Op.bytesLess] at h
 |_,_::_,[],_,h=>by simp[Op.bytesLess] at h
 |[],_::_,_::_,_,_=>rfl
 |a::x,b::y,c::z,h,d=>by
  simp only[Op.bytesLess,Bool.or_eq_true,It,RF,beq_iff_eq] at h d⊢;rcases h with h|⟨rfl,h⟩
  ·rcases d with d|⟨rfl,_⟩
   ·exact IN (UInt8.lt_trans h d)
   ·exact IN h
  ·rcases d with d|⟨rfl,d⟩
   ·exact IN d
   ·exact Or.inr ⟨rfl,d55 x y z h d⟩
def GZ : ∀a b:List UInt8,Op.bytesLess a b=false->Op.bytesLess b a=false->a=b
 |[],[],_,_=>rfl
 |[],_::_,h,_=>by simp[Op.bytesLess] at h
 |_::_,[],_,h=>by simp[Op.bytesLess] at h
 |a::x,b::y,h,h'=>by
  simp only[Op.bytesLess,Bool.or_eq_false_iff,decide_eq_false_iff_not,Bool.and_eq_false_iff,beq_eq_false_iff_ne,ne_eq] at h h';have e:a=b:=by
   rcases h with⟨c,_⟩
   rcases h' with⟨d,_⟩
   exact UInt8.le_antisymm (UInt8.not_lt.1 d) (UInt8.not_lt.1 c)
  subst e;have c:Op.bytesLess x y=false:=h.2.resolve_left (fun h=>h rfl);have d:Op.bytesLess y x=false:=h'.2.resolve_left (fun h=>h rfl);rw[GZ x y c d]
def EY(b:ByteArray):b.toList=b.data.toList:=by
 have:∀(n i:Nat) (r:List UInt8),n=b.size-i->ByteArray.toList.loop b i r=r.reverse++b.data.toList.drop i:=by
  intro n
  induction n with
  |zero =>
   intro i r h;unfold ByteArray.toList.loop;rw[R1 d9];have:b.data.toList.length<=i:=by simpa using(show b.size<=i by omega)
   rw[List.drop_eq_nil_of_le this];simp
  |succ n ih =>
   intro i r h;have hi:i<b.size:=d9;have a:i<b.data.toList.length:=by simpa using hi
   unfold ByteArray.toList.loop;rw[RA hi,ih (i+1) _ d9,List.drop_eq_getElem_cons a];have e:b.get! i=b.data.toList[i]:=by
    show b.data[i]! = _;rw[getElem!_pos b.data i hi,Array.getElem_toList]
   simp[e]
 have:=this b.size 0 [] d9;simpa[ByteArray.toList] using this
def toList_inj{a b:ByteArray}(h:a.toList=b.toList):a=b:=by
 rw[EY,EY] at h;cases a;cases b;congr;exact Array.toList_inj.1 h
def jU(a:ByteArray):V8 a a=false:=GA _
def lt_trans{a b c:ByteArray}(h:V8 a b=true)(d:V8 b c=true):V8 a c=true:=d55 _ _ _ h d
def d43{a b:ByteArray}(h:V8 a b=false)(c:V8 b a=false):a=b:=toList_inj (GZ _ _ h c)
def Ew{a b:ByteArray}(h:V8 a b=true):a≠b:=fun e=>by rw[e,jU] at h;cases h
def AR{a b:ByteArray}(h:V8 a b=true):V8 b a=false:=by
 cases e:V8 b a with
 |false=>rfl
 |true=>have:=lt_trans h e;rw[jU] at this;cases this
def dN(ms:List Me):Prop:=ms.Pairwise fun a b=>V8 a.name b.name=true
def V3(s:ByteArray):List Me->Option Nat
 |[]=>none
 |m::r=>if m.name=s then some 0 else(V3 s r).map (·+1)
def jQ{s:ByteArray}:∀{ms:List Me} {i:Nat},V3 s ms=some i->∃m,ms[i]?=some m/\m.name=s
 |m::r,i,h=>by
  unfold V3 at h;by_cases e:m.name=s
  ·rw[RA e] at h;cases h;exact⟨m,rfl,e⟩
  ·rw[R1 e] at h;cases a:V3 s r with
   |none=>rw[a] at h;cases h
   |some j=>rw[a] at h;cases h;obtain⟨d,b,c⟩:=jQ a;exact⟨d,b,c⟩
def d73{s:ByteArray}:∀{ms:List Me},V3 s ms=none->∀m∈ms,m.name≠s
 |[],_=>fun m c=>by cases c
 |m::r,h=>by
  unfold V3 at h;by_cases e:m.name=s
  ·rw[RA e] at h;cases h
  ·rw[R1 e] at h;cases b:V3 s r with
   |some j=>rw[b] at h;cases h
   |none =>
    intro x a;rcases QG.1 a with rfl|a
    ·exact e
    ·exact d73 b x a
def mf{ms:List Me}(h:dN ms){i j:Nat}{a b:Me}(hi:ms[i]?=some a)(f:ms[j]?=some b)(d:i<j):V8 a.name b.name=true:=by
 obtain⟨c,rfl⟩:=OR.1 hi;obtain⟨e,rfl⟩:=OR.1 f;exact List.pairwise_iff_getElem.1 h i j c e d
def Am{ms:List Me}(h:dN ms){i:Nat}{m:Me}(b:ms[i]?=some m):V3 m.name ms=some i:=by
 cases e:V3 m.name ms with
 |none=>exact absurd rfl (d73 e m (QM b))
 |some j =>
  obtain⟨f,c,d⟩:=jQ e;rcases Nat.lt_trichotomy i j with a|a|a
  ·have:=mf h b c a;rw[d,jU] at this;cases this
  ·rw[a]
  ·have:=mf h c b a;rw[d,jU] at this;cases this
def NX{ms:List Me}(h:∀i m p,0<i->ms[i]?=some m->ms[i-1]?=some p->V8 p.name m.name=true):dN ms:=by
 have key:∀(d i:Nat) (a b:Me),ms[i]?=some a->ms[i+d+1]?=some b->V8 a.name b.name=true:=by
  intro d
  induction d with
  |zero=>intro i a b e c;exact h (i+1) b a d9 c (by simpa using e)
  |succ d ih =>
   intro i a b e c;have l:=(OR.1 c).1;obtain⟨x,f⟩:∃x,ms[i+d+1]?=some x:=⟨_,No d9⟩;exact lt_trans (ih i a x e f) (h (i+(d+1)+1) b x d9 c (by rw[show i+(d+1)+1-1=i+d+1 by omega];exact f))
 refine List.pairwise_iff_getElem.2 fun i j hi k g=>?_;refine key (j-i-1) i _ _ (No hi) ?_;rw[show i+(j-i-1)+1=j by omega];exact No k
def Cy(N:Nat)(m:Me)(s:ByteArray):ki N m s=some (if V8 m.name s=true then -1 else if m.name=s then 0 else 1):=by
 unfold ki yM cmp_isNaN_string;cases h:V8 m.name s
 ·by_cases e:m.name=s<;>simp[e]
 ·simp
def zJ(N:Nat)(ms:List Me)(s:ByteArray)(hl:ms.length<=1048576)(l:dN ms):∀(n:Nat) (a b:Nat),a<=b->b<=ms.length->b-a<n ->
  (∀i m,i<a->ms[i]?=some m->V8 m.name s=true)->(∀i m,b<=i->ms[i]?=some m->V8 m.name s=false) ->
  ∃v:Nat,y8 N ms s (fun o p=>ki N o p) n (a:Int) (b:Int)=some (v:Int)/\v<=ms.length /\
   (∀i m,i<v->ms[i]?=some m->V8 m.name s=true)/\(∀i m,v<=i->ms[i]?=some m->V8 m.name s=false)
 |0,a,b,_,_,h,_,_=>d9
 |n+1,a,b,t,r,D,q,f=>by
  rw[y8];by_cases u:a<b
  ·have c:(a:Int)<(b:Int):=d9;have A:wr ((a:Int)+(b:Int))=((a+b:Nat):Int):=by rw[q8 ino];omega
   have B:((a+b:Nat):Int) / 2=(((a+b) / 2:Nat):Int):=d9;have w3:decide (H8 ((((a+b) / 2:Nat):Int)))=true:=RE ino;have C:wr ((((a+b) / 2:Nat):Int)+1)=(((a+b) / 2+1:Nat):Int):=by rw[q8 ino];omega
   have g:(a+b) / 2<ms.length:=d9;obtain⟨x,j⟩:∃x,ms[(a+b) / 2]?=some x:=⟨_,No g⟩;have w5:(0:Int)<=((a+b:Nat):Int):=d9;have w:=Cy N x s;simp only[A,B,w3,C,w5,c,q9,j,w,RB,Qz,A0];cases k:V8 x.name s with
   |true =>
    simp only[if_true,show((-1:Int)<0)=True by simp,RB,Qz,A0];refine zJ N ms s hl l n _ b d9 r d9 (fun i m hi d=>?_) f;rcases Nat.lt_or_ge i ((a+b) / 2) with h|h
    ·exact lt_trans (mf l d j h) k
    ·have e:i=(a+b) / 2:=d9;subst e;rw[j] at d;cases d;exact k
   |false =>
    have hd:∀i m,(a+b) / 2<=i->ms[i]?=some m->V8 m.name s=false:=by
     intro i m hi d;rcases Nat.lt_or_ge ((a+b) / 2) i with h|h
     ·cases y:V8 m.name s with
      |false=>rfl
      |true=>have:=lt_trans (mf l j d h) y;rw[k] at this;cases this
     ·have e:i=(a+b) / 2:=d9;subst e;rw[j] at d;cases d;exact k
    have z:decide ((if false=true then(-1:Int) else if x.name=s then 0 else 1)<0)=false:=by
     by_cases e:x.name=s<;>simp[e]
    rw[z];simp only[R0,A0];exact zJ N ms s hl l n a _ d9 d9 d9 q hd
  ·have c:¬(a:Int)<(b:Int):=d9;simp only[c,RC,R0];have e:a=b:=d9;subst e;exact⟨a,rfl,r,q,f⟩
def E6(N:Nat)(ms:List Me)(s:ByteArray)(y:1048577<=N)(hl:ms.length<=1048576)(l:dN ms):
  ∃v:Nat,F4 N ms s (fun f g=>ki N f g)=some ((v:Int),(V3 s ms).isSome)/\(∀i:Nat,V3 s ms=some i->(v:Int)=i)/\v<=ms.length /\
   (∀i m,i<v->ms[i]?=some m->V8 m.name s=true)/\(∀i m,v<=i->ms[i]?=some m->V8 m.name s=false):=by
 obtain⟨v,w,o,k,n⟩:=zJ N ms s hl l N 0 ms.length d9 d9 d9 (fun i m h=>absurd h d9) (fun i m h u=>by
  have:=(OR.1 u).1;omega)
 refine⟨v,?_,?_,o,k,n⟩
 ·unfold F4;have q:y8 N ms s (fun f g=>ki N f g) N (0:Int) (ms.length:Int)=some (v:Int):=w;rw[q];simp only[A0];by_cases p:v<ms.length
  ·have c:(v:Int)<(ms.length:Int):=d9;obtain⟨x,d⟩:∃x,ms[v]?=some x:=⟨_,No p⟩;have r:=n v x (NO _) d;simp only[c,RB,Qz,q9,d,A0,Cy,r];by_cases e:x.name=s
   ·have:=Am l d;rw[e] at this;simp[e,this]
   ·cases hi:V3 s ms with
    |none=>simp[e]
    |some i =>
     obtain⟨j,a,b⟩:=jQ hi;rcases Nat.lt_trichotomy i v with h|h|h
     ·have:=k i j h a;rw[b,jU] at this;cases this
     ·subst h;rw[d] at a;cases a;exact absurd b e
     ·have:=mf l d a h;rw[b] at this;rw[r] at this;cases this
  ·have c:¬(v:Int)<(ms.length:Int):=d9;simp only[c,RC,R0,A0];cases hi:V3 s ms with
   |none=>rfl
   |some i =>
    obtain⟨j,a,b⟩:=jQ hi;have:=(OR.1 a).1;have:=k i j d9 a;rw[b,jU] at this;cases this
 ·intro i hi;obtain⟨j,a,b⟩:=jQ hi;have t:=(OR.1 a).1;rcases Nat.lt_trichotomy i v with h|h|h
  ·have:=k i j h a;rw[b,jU] at this;cases this
  ·rw[h]
  ·obtain⟨x,d⟩:∃x,ms[v]?=some x:=⟨ms[v]' d9,No d9⟩;have:=mf l d a h;rw[b] at this;rw[n v x (NO _) d] at this;cases this
def gY(N:Nat)(ms:List Me)(s:ByteArray)(e:1048577<=N)(hl:ms.length<=1048576)(f:dN ms):
  ∃v:Int,F4 N ms s (fun a b=>ki N a b)=some (v,(V3 s ms).isSome)/\∀i:Nat,V3 s ms=some i->v=i:=by
 obtain⟨v,c,d,_⟩:=E6 N ms s e hl f;exact⟨_,c,d⟩
def U7(w:Wd)(s:ByteArray):Nat->Int->Option (Int×Int)
 |0,_=>none
 |n+1,c=>if 0<=c then(match w.a7[c.toNat]? with
  |some x=>(match V3 s x.aB with|some i=>some (c,(i:Int))|none=>U7 w s n x.aQ)
  |none=>none) else none
def l7(w:Wd)(s:ByteArray)(c:Int):Int×Int:=(U7 w s (w.a7.length+1) c).getD (-1,-1)
def dD(w:Wd):Prop:=∀x∈w.a7,dN x.aB
def E8(w:Wd):Prop:=w.a7.length<=1048576/\w.heap.length<=1048576/\(∀x∈w.a7,x.aB.length<=1048576/\∀m∈x.aB,m.code.length<=1048576)/\∀o∈w.heap,o.aG.length<=1048576
def ml{a:Type}(o:Option (Int×Int))(s:a):M7 (Int×Int) a:=match o with|some p=>.ret p|none=>.next s
def CZ(N:Nat)(w:Wd)(s:ByteArray)(m:1048577<=N)(o:dD w)(j:E8 w):∀(n:Nat) (k:Nat) (c:Int),k<=w.a7.length+1->w.a7.length+1-k<n ->
  oX N w s n c (k:Int)=some (ml (U7 w s (w.a7.length+1-k) c) ())
 |0,k,c,_,h=>d9
 |n+1,k,c,t,u=>by
  rw[oX];by_cases a:0<=c
  ·by_cases d:c<w.a7.length
   ·obtain⟨x,p,f⟩:=V7 a d;by_cases r:k<=w.a7.length
    ·have b:(k:Int)<=(w.a7.length:Int):=d9;have g:=QM p;obtain⟨v,q,l⟩:=gY N x.aB s m (j.2.2.1 x g).1 (o x g);have e:w.a7.length+1-k=(w.a7.length+1-(k+1))+1:=d9;have wk:wr ((k:Int)+1)=((k+1:Nat):Int):=by rw[q8 (by have:=j.1;unfold H8;omega)];omega
     rw[e,U7];simp only[a,d,b,RB,Qz,A0,f,q,p,if_true,wk];cases hi:V3 s x.aB with
     |some i=>have:=l i hi;subst this;rfl
     |none =>
      simp only[Option.isSome_none,R0];exact CZ N w s m o j n (k+1) x.aQ d9 d9
    ·have b:¬(k:Int)<=(w.a7.length:Int):=d9;have e:w.a7.length+1-k=0:=d9;simp only[a,d,b,RB,RC,Qz,R0,A0,e];rfl
   ·have:U7 w s (w.a7.length+1-k) c=none:=by
     cases w.a7.length+1-k with
     |zero=>rfl
     |succ n=>rw[U7,RA a,zk d]
    simp only[a,d,RB,RC,Qz,R0,A0,this];rfl
  ·have:U7 w s (w.a7.length+1-k) c=none:=by
    cases w.a7.length+1-k with
    |zero=>rfl
    |succ n=>rw[U7,R1 a]
   simp only[a,RC,R0,A0,this];rfl
def mA(N:Nat)(w:Wd)(c:Int)(s:ByteArray)(e:1048578<=N)(d:dD w)(a:E8 w):gm N w c s=some (l7 w s c):=by
 unfold gm l7;have h:=CZ N w s d9 d a N 0 c d9 (by have:=a.1;omega);have b:oX N w s N c (0:Int)=some (ml (U7 w s (w.a7.length+1) c) ()):=h;rw[b];cases U7 w s (w.a7.length+1) c<;>rfl
def bg(w:Wd):Nat->Int->List Int
 |0,_=>[]
 |n+1,c=>if 0<=c then(match w.a7[c.toNat]? with|some x=>c::bg w n x.aQ|none=>[]) else[]
def wg(w:Wd):∀(n:Nat) (c:Int),(bg w n c).length<=n
 |0,_=>NO _
 |n+1,c=>by
  rw[bg];split
  ·split
   ·have:=wg w n;simp only[QI];exact Nat.succ_le_succ (this _)
   ·simp
  ·simp
def Af(w:Wd):∀(n:Nat) (c:Int),∀k∈bg w n c,0<=k/\k<w.a7.length
 |0,_,k,h=>by cases h
 |n+1,c,k,h=>by
  rw[bg] at h;split at h
  ·split at h
   ·rename_i a _ x b;rcases QG.1 h with rfl|h
    ·exact⟨a,by have:=(OR.1 b).1;omega⟩
    ·exact Af w n _ k h
   ·cases h
  ·cases h
def CW(N:Nat)(w:Wd)(j:w.a7.length<=1048576):∀(n:Nat) (c:Int) (a:List Int),a.length<=w.a7.length+1->w.a7.length+1-a.length<n ->
  qU N w n c a=some (a++bg w (w.a7.length+1-a.length) c)
 |0,c,a,_,h=>d9
 |n+1,c,a,m,o=>by
  rw[qU];by_cases b:0<=c
  ·by_cases f:c<w.a7.length
   ·obtain⟨x,k,g⟩:=V7 b f;by_cases l:a.length<=w.a7.length
    ·have d:(a.length:Int)<=(w.a7.length:Int):=d9;have e:w.a7.length+1-a.length=(w.a7.length+1-(a++[c]).length)+1:=F5;have i:AT ((a.length+[c].length)*8) 140737488355328=true:=p9 F5;rw[e,bg];simp only[b,f,d,RB,Qz,A0,g,k,if_true,i];rw[CW N w j n x.aQ (a++[c]) F5 F5];simp
    ·have d:¬(a.length:Int)<=(w.a7.length:Int):=d9;have e:w.a7.length+1-a.length=0:=d9;simp[b,f,d,e,bg]
   ·have:bg w (w.a7.length+1-a.length) c=[]:=by
     cases w.a7.length+1-a.length with
     |zero=>rfl
     |succ n=>rw[bg,RA b,zk f]
    simp[b,f,this]
  ·have:bg w (w.a7.length+1-a.length) c=[]:=by
    cases w.a7.length+1-a.length with
    |zero=>rfl
    |succ n=>rw[bg,R1 b]
   simp[b,this]
def DK(N:Nat)(w:Wd)(c:Int)(b:1048578<=N)(a:w.a7.length<=1048576):tL N w c=some (bg w (w.a7.length+1) c):=by
 unfold tL;rw[CW N w a N c [] l9 F5];rfl
def l8(w:Wd)(c:Int):Int:=(bg w (w.a7.length+1) c).foldl (fun n k=>match w.a7[k.toNat]? with|some x=>wr (n+x.aG)|none=>n) 0
def Bh(N:Nat)(w:Wd)(L:List Int)(d:∀k∈L,0<=k/\k<w.a7.length):∀(l:List Int) (k:Nat) (n:Int),l=L.drop k ->
  oE N w L l k n=some (l.foldl (fun n k=>match w.a7[k.toNat]? with|some x=>wr (n+x.aG)|none=>n) n)
 |[],k,n,_=>rfl
 |c::l,k,n,h=>by
  obtain⟨b,g,_⟩:=X5 h;obtain⟨e,f⟩:=d c (QM b);obtain⟨x,i,a⟩:=V7 e f;rw[oE];simp only[q9,b,A0,a,List.foldl_cons,i];exact Bh N w L d l (k+1) _ g
def Y7(N:Nat)(w:Wd)(c:Int)(a:1048578<=N)(b:w.a7.length<=1048576):jJ N w c=some (l8 w c):=by
 unfold jJ l8;rw[DK N w c a b];simp only[A0];rw[Bh N w _ (Af w _ c) (bg w (w.a7.length+1) c) 0 0 rfl];rfl
def Bi(N:Nat)(s:ByteArray)(c:Int):∀(ms:List Me) (k:Nat),oL N s c ms k=some (ml ((V3 s ms).map fun i=>(c,((k+i:Nat):Int))) ())
 |[],k=>rfl
 |m::r,k=>by
  rw[oL,V3];by_cases e:m.name=s
  ·simp[e,ml]
  ·simp only[e,RC,R0,if_false];rw[Bi N s c r (k+1)];cases V3 s r with
   |none=>rfl
   |some i=>simp[ml];omega
def Eg(w:Wd)(s:ByteArray)(N:Nat)(L:List Int):∀(n:Nat) (c:Int) (k:Nat),bg w n c=L.drop k ->
  oK N w s L (bg w n c) k=some (ml (U7 w s n c) ())
 |0,c,k,_=>rfl
 |n+1,c,k,h=>by
  rw[U7];rw[bg] at h⊢;by_cases a:0<=c
  ·rw[RA a] at h⊢;rw[RA a];cases d:w.a7[c.toNat]? with
   |none=>rfl
   |some x =>
    rw[d] at h;simp only at h⊢;obtain⟨e,f,_⟩:=X5 h;have b:j3 w.a7 c=some x:=by rw[fC a,d]
    rw[oK];simp only[q9,e,A0,b,Bi];cases hi:V3 s x.aB with
    |some i=>simp[ml]
    |none =>
     simp only[Option.map_none,ml];exact Eg w s N L n x.aQ (k+1) f
  ·rw[R1 a] at h⊢;rw[R1 a];rfl
def yU(N:Nat)(w:Wd)(c:Int)(s:ByteArray)(a:1048578<=N)(b:w.a7.length<=1048576):nZ N w c s=some (l7 w s c):=by
 unfold nZ l7;rw[DK N w c a b];simp only[A0];rw[Eg w s N _ _ c 0 rfl];cases U7 w s (w.a7.length+1) c<;>rfl
def FL(w:Wd)(s:ByteArray):∀(n:Nat) (c:Int) (p:Int×Int),U7 w s n c=some p->0<=p.1/\0<=p.2/\∃x m,w.a7[p.1.toNat]?=some x/\x.aB[p.2.toNat]?=some m/\m.name=s
 |0,c,p,h=>by cases h
 |n+1,c,p,h=>by
  rw[U7] at h;by_cases a:0<=c
  ·rw[RA a] at h;cases b:w.a7[c.toNat]? with
   |none=>rw[b] at h;cases h
   |some x =>
    rw[b] at h;simp only at h;cases hi:V3 s x.aB with
    |none=>rw[hi] at h;exact FL w s n _ p h
    |some i =>
     rw[hi] at h;cases h;obtain⟨m,d,e⟩:=jQ hi;exact⟨a,Int.natCast_nonneg _,x,m,b,d,e⟩
  ·rw[R1 a] at h;cases h
def p6{w:Wd}{s:ByteArray}{c:Int}(h:0<=(l7 w s c).2):∃x m,j3 w.a7 (l7 w s c).1=some x/\j3 x.aB (l7 w s c).2=some m/\m.name=s:=by
 unfold l7 at h⊢;cases a:U7 w s (w.a7.length+1) c with
 |none=>rw[a] at h;exact absurd h G7
 |some p =>
  obtain⟨b,d,x,m,g,e,f⟩:=FL w s _ c p a;exact⟨x,m,by rw[Option.getD_some,fC b,g],by rw[Option.getD_some,fC d,e],f⟩
def xD(p:Int×Int)(x:Ln):Int×Int:=if p.2<x.found\/(x.found=p.2/\0<p.2/\x.cls<p.1) then(x.cls,x.found) else p
def jX(s:St)(l:List Tl):Int×Int:=l.foldl (fun p t=>if t.site=s then t.a7.foldl xD p else p) (-1,0)
def oo(n:Int)(x:Ln):Int:=wr (n+x.found)
def d94(s:St)(l:List Tl):Int:=l.foldl (fun n t=>if t.site=s then t.a7.foldl oo n else n) 0
def CY(N:Nat):∀(l:List Ln) (k:Nat) (p:Int×Int),oT N l k p.1 p.2=some (l.foldl xD p)
 |[],k,p=>rfl
 |x::l,k,p=>by
  rw[oT,List.foldl_cons,<-CY N l (k+1)];unfold xD;by_cases b:p.2<x.found
  ·simp[b]
  ·by_cases a:x.found=p.2
   ·by_cases c:0<p.2
    ·by_cases d:x.cls<p.1<;>simp[a,c,d]
    ·simp[a,c]
   ·simp[b,a]
def CX(N:Nat)(s:St):∀(l:List Tl) (k:Nat) (p:Int×Int),oW N s l k p.1 p.2=some (l.foldl (fun p t=>if t.site=s then t.a7.foldl xD p else p) p)
 |[],k,p=>rfl
 |t::l,k,p=>by
  rw[oW,List.foldl_cons,<-CX N s l (k+1)];by_cases h:t.site=s
  ·simp[h,dh,CY]
  ·simp[h,dh]
def KA(N:Nat)(l:List Tl)(s:St):vB N l s=some (jX s l):=by
 unfold vB;rw[CX N s l 0 (-1,0)];rfl
def Cg(N:Nat):∀(l:List Ln) (k:Nat) (n:Int),oj N l k n=some (l.foldl oo n)
 |[],k,n=>rfl
 |x::l,k,n=>by rw[oj,List.foldl_cons,Cg N l (k+1)];rfl
def Co(N:Nat)(s:St):∀(l:List Tl) (k:Nat) (n:Int),oc N s l k n=some (l.foldl (fun n t=>if t.site=s then t.a7.foldl oo n else n) n)
 |[],k,n=>rfl
 |t::l,k,n=>by
  rw[oc,List.foldl_cons,<-Co N s l (k+1)];by_cases h:t.site=s
  ·simp[h,dh,Cg]
  ·simp[h,dh]
def d87(N:Nat)(l:List Tl)(s:St):wT N l s=some (d94 s l):=by
 unfold wT;rw[Co N s l 0 0];rfl
def sends(i:Ins):Bool:=decide (i.op=14) || decide (i.op=13)
def gU(m:Me):Bool:=decide (m.aS=0) && !m.code.any sends
def Ii(N:Nat)(i:Ins):sU N i=some (sends i):=by
 unfold sU sends;by_cases h:i.op=14<;>simp[h]
def Fv(N:Nat):∀(l:List Ins) (k:Nat),∃o,H7 N (fun a=>sU N a) l k=some o/\(match o with|.ret r=>0<=r/\l.any sends=true|.next ()=>l.any sends=false)
 |[],k=>⟨_,rfl,rfl⟩
 |x::l,k=>by
  rw[H7,Ii];cases h:sends x with
  |true=>exact⟨_,rfl,by simp[h]⟩
  |false =>
   obtain⟨o,c,b⟩:=Fv N l (k+1);refine⟨o,c,?_⟩;cases o with
   |ret r=>simpa[h] using b
   |next u=>simpa[h] using b
def yV(N:Nat)(m:Me):ss N m=some (gU m):=by
 unfold ss gU xq xr;by_cases h:m.aS=0
 ·obtain⟨o,b,a⟩:=Fv N m.code 0;rw[b];cases o with
  |ret r=>simp[h,a.1,a.2]
  |next u =>
   have a:m.code.any sends=false:=a;simp only[h,RB,Qz,A0,a];rfl
 ·simp[h]
def Gy(w:Wd)(f:Int×Int)(args:Int):Bool:=match j3 w.a7 f.1 with
 |some x=>(match j3 x.aB f.2 with|some m=>gU m && decide (m.args=args)|none=>false)
 |none=>false
def Ey(w:Wd)(t:List Tl)(s:St)(name:ByteArray)(args:Int):Int :=
 if(jX s t).1<0\/d94 s t<2\/wr (2*(jX s t).2)<=d94 s t then -1
 else if 0<=(l7 w name (jX s t).1).2/\Gy w (l7 w name (jX s t).1) args=true then(jX s t).1 else -1
def JT(N:Nat)(w:Wd)(t:List Tl)(s:St)(name:ByteArray)(args:Int)(g:1048578<=N)(j:dD w)(i:E8 w):wC N w t s name args=some (Ey w t s name args):=by
 unfold wC Ey;rw[KA,d87];simp only[A0];by_cases b:(jX s t).1<0
 ·simp[b]
 by_cases c:d94 s t<2
 ·simp[c]
 by_cases e:wr (2*(jX s t).2)<=d94 s t
 ·simp[b,c,e]
 simp only[b,c,e,RC,R0,A0,or_self,if_false];rw[mA N w _ name g j i];simp only[A0];by_cases d:0<=(l7 w name (jX s t).1).2
 ·obtain⟨x,m,k,h,_⟩:=p6 d;have a:¬(l7 w name (jX s t).1).2<0:=d9;simp only[d,a,RC,R0,k,h,A0,yV,Gy,true_and];cases l:gU m
  ·simp
  ·by_cases f:m.args=args<;>simp[f]
 ·have a:(l7 w name (jX s t).1).2<0:=d9;simp[d,a]
def yJ(N:Nat)(w:Wd)(t:List Tl)(c:Int)(m:Me)(b:1048578<=N)(e:dD w)(d:E8 w):∀(l:List Ins) (k:Nat) (a:List Int),a.length+l.length<=1048576 ->
  ∃r,oH N w t c m l k a=some r
 |[],k,a,_=>⟨_,rfl⟩
 |x::l,k,a,h=>by
  simp only[QI] at h;rw[oH,JT N w t _ _ _ b e d];simp only[A0];have g:∀n:Int,AT ((a.length+[n].length)*8) 140737488355328=true:=fun n=>p9 F5;by_cases f:x.op=14
  ·simp only[f,RB,Qz,A0,g];exact yJ N w t c m b e d l (k+1) _ F5
  ·simp only[f,RC,R0,A0,g,Qz];exact yJ N w t c m b e d l (k+1) _ F5
def Ha(N:Nat)(w:Wd)(t:List Tl)(c k:Int)(j:1048578<=N)(p:dD w)(h:E8 w):∃r,qa N w t c k=some r:=by
 unfold qa;by_cases a:c<0
 ·simp[a]
 by_cases b:(w.a7.length:Int)<=c
 ·simp[a,b]
 by_cases d:k<0
 ·simp[a,b,d]
 obtain⟨x,q,g⟩:=V7 (l:=w.a7) (i:=c) d9 d9;by_cases f:(x.aB.length:Int)<=k
 ·simp[a,b,d,f,g]
 obtain⟨m,n,e⟩:=V7 (l:=x.aB) (i:=k) d9 d9;simp only[a,b,d,f,g,e,RC,R0,A0];obtain⟨r,o⟩:=yJ N w t c m j p h m.code 0 [] (by
  have:=(h.2.2.1 x (QM q)).2 m (QM n);simpa using this)
 rw[o];exact⟨r,rfl⟩
def lB{d:Type}{b:Bool}{x y:Option d}(a:b=true->∃r,x=some r)(c:b=false->∃r,y=some r):∃r,(bif b then x else y)=some r:=by
 cases b
 ·exact c rfl
 ·exact a rfl
def wx{b e:Type}{x:Option b}{f:b->Option e}(d:∃a,x=some a)(c:∀a,x=some a->∃r,f a=some r):∃r,x.bind f=some r:=by
 obtain⟨a,rfl⟩:=d;exact c a rfl
def fa(u:UInt8):Bool:=!decide ((u.toNat:Int)<33) && !decide (126<(u.toNat:Int))
def W9(s:ByteArray):Bool:=s.data.toList.all fa && (decide (0<s.size) && decide (s.size<=12))
def Al(s:ByteArray)(k:Nat):lE s (k:Int)=s.data.toList[k]?:=by
 unfold lE;rw[RE (Int.natCast_nonneg k)];show s[k]?=_;by_cases h:k<s.size
 ·rw[getElem?_pos s k h,No (by simpa using h)];rfl
 ·rw[getElem?_neg s k h,Qb (by simpa using h)]
def Bn(N:Nat)(s:ByteArray):∀(n k:Nat),n+k=s.size->oM N s n k=some (if(s.data.toList.drop k).all fa=true then .next () else .ret false)
 |0,k,h=>by
  rw[List.drop_eq_nil_of_le (by rw[show s.data.toList.length=s.size from rfl];omega)];rfl
 |n+1,k,h=>by
  have d:k<s.data.toList.length:=by rw[show s.data.toList.length=s.size from rfl];omega
  rw[oM,List.drop_eq_getElem_cons d,Al,No d,Bn N s n (k+1) d9];simp only[A0,List.all_cons];generalize s.data.toList[k]=u;generalize s.data.toList.drop (k+1)=b;by_cases a:(u.toNat:Int)<33
  ·have e:fa u=false:=(by simp[fa,a]);simp only[a,e,RB,Qz,A0,Bool.false_and];rfl
  ·by_cases c:126<(u.toNat:Int)
   ·have e:fa u=false:=(by simp only[fa,a,c,RB,RC,IT,Bool.and_false]);simp only[a,c,e,RB,RC,Qz,R0,A0,Bool.false_and];rfl
   ·have e:fa u=true:=(by simp only[fa,a,c,RC,QJ,Bool.and_true]);simp only[a,c,e,RC,R0,A0,Bool.true_and]
def jE(N:Nat)(s:ByteArray):mL N s=some (W9 s):=by
 unfold mL W9;have e:((s.size:Int)-((0:Nat):Int)).toNat=s.size:=d9;rw[e,Bn N s s.size 0 d9,List.drop_zero];cases h:s.data.toList.all fa
 ·simp
 ·by_cases c:0<s.size
  ·by_cases d:s.size<=12
   ·have b:(0:Int)<(s.size:Int):=d9;have a:(s.size:Int)<=12:=d9;simp[c,d,a]
   ·have a:¬(s.size:Int)<=12:=d9;have b:(0:Int)<(s.size:Int):=d9;simp[d,a]
  ·have b:¬(0:Int)<(s.size:Int):=d9;simp[c]
def C5(N:Nat)(w:Wd)(c:Int)(m:Me)(i:Ins)(b:1048578<=N)(d:w.a7.length<=1048576):∃r,M5 N w c m i=some r:=by
 unfold M5;simp only[Y7 N w c b d,jE]
 repeat (first|exact⟨_,rfl⟩|refine lB (fun _=>?_) (fun _=>?_)|refine wx ?_ (fun a _=>?_)|split)
def IA(N:Nat)(w:Wd)(c:Int)(m:Me)(i:Ins)(h:M5 N w c m i=some 0)(e:i.op=14):0<=i.a/\i.a<=4:=by
 unfold M5 at h;simp only[e,jE,show((14:Int)=1)=False by decide,show((14:Int)=2)=False by decide,show((14:Int)=3)=False by decide,show((14:Int)=4)=False by decide,show((14:Int)=5)=False by decide,show((14:Int)=6)=False by decide,show((14:Int)=7)=False by decide,show((14:Int)=8)=False by decide,show((14:Int)=9)=False by decide,show((14:Int)=10)=False by decide,show((14:Int)=11)=False by decide,show((14:Int)=12)=False by decide,show((14:Int)=13)=False by decide,show((14:Int)=17)=False by decide,RB,RC,Qz,R0,A0] at h;by_cases b:i.a<0
 ·simp[b] at h
 ·by_cases d:4<i.a
  ·simp[b,d] at h
  ·omega
def nD(m:Me):Prop:=∀i∈m.code,i.op=14->0<=i.a/\i.a<=4
def U0(i:Ins)(p:Int):Int×Int×List Int :=
 if i.op=9\/i.op=11\/i.op=12 then(1,-1,[wr (p+1)]) else if i.op=10 then(1,1,[wr (p+1)])
 else if i.op=14 then(wr (i.a+1),-i.a,[wr (p+1)]) else if i.op=15 then(0,0,[i.a])
 else if i.op=16 then(1,-1,[wr (p+1),i.a]) else if i.op=17 then(1,-1,[]) else(0,1,[wr (p+1)])
def Aa(i:Ins)(p:Int):(U0 i p).2.2.length<=2:=by
 unfold U0
 (repeat' split)<;>simp
def Jo(N:Nat)(i:Ins)(p:Int)(h:i.op=14->0<=i.a/\i.a<=4):wB N i p=some (U0 i p):=by
 unfold wB U0;by_cases c:i.op=9
 ·simp[c]
 by_cases d:i.op=11
 ·simp[d]
 by_cases f:i.op=12
 ·simp[f]
 by_cases g:i.op=10
 ·simp[g]
 by_cases b:i.op=14
 ·have:=h b;have e:decide (H8 (-i.a))=true:=RE ino;simp only[b,e,RB,Qz,show((14:Int)=9)=False by decide,show((14:Int)=11)=False by decide,show((14:Int)=12)=False by decide,show((14:Int)=10)=False by decide,RC,R0,A0,or_self,if_false,if_true]
 by_cases j:i.op=15
 ·simp[j]
 by_cases k:i.op=16
 ·simp[k]
 by_cases l:i.op=17
 ·simp[l]
 simp[c,d,f,g,b,j,k,l]
def wb{i:Ins}{p:Int}{x:Int}(l:0<=x)(k:x<=12)(c:¬x<(U0 i p).1)(b:¬12<wr (x+(U0 i p).2.1))(hi:i.op=14->0<=i.a/\i.a<=4):
  0<=wr (x+(U0 i p).2.1)/\wr (x+(U0 i p).2.1)<=12/\wr (x+(U0 i p).2.1)=x+(U0 i p).2.1:=by
 unfold U0 at c b⊢;split at c
 ·rename_i e;simp only[e,if_true] at b⊢;rw[q8 ino];omega
 ·rename_i e;simp only[e,if_false] at b⊢;split at c
  ·rename_i f;simp only[f,if_true] at b⊢;rw[q8 ino] at b⊢;omega
  ·rename_i f;simp only[f,if_false] at b⊢;split at c
   ·rename_i d;have hi:=hi d;simp only[d,if_true] at b⊢;simp only at c;rw[q8 ino] at c b⊢;omega
   ·rename_i d;simp only[d,if_false] at b⊢;split at c
    ·rename_i g;simp only[g,if_true] at b⊢;rw[q8 ino] at b⊢;omega
    ·rename_i g;simp only[g,if_false] at b⊢;split at c
     ·rename_i h;simp only[h,if_true] at b⊢;rw[q8 ino] at b⊢;omega
     ·rename_i h;simp only[h,if_false] at b⊢;split at c
      ·rename_i j;simp only[j,if_true] at b⊢;rw[q8 ino] at b⊢;omega
      ·rename_i j;simp only[j,if_false] at b⊢;rw[q8 ino] at b⊢;omega
def C1(N:Nat):∀(n k:Nat) (v:List Int),n+k=v.length->lb N n k v=some (v.take k++QH n (-1))
 |0,k,v,h=>by rw[lb,List.take_of_length_le d9];simp
 |n+1,k,v,h=>by
  have a:k<v.length:=d9;rw[lb,q9,No a];simp only[A0,Qc];rw[C1 N n (k+1) _ F5];congr 1;rw[List.take_add_one,List.take_set_of_le (NO _),List.getElem?_set_self a,List.replicate_succ];simp
def C0(N:Nat)(x:Int)(r:Int×Int×List Int):∀(l:List Int) (k:Nat) (a b:List Int),l=r.2.2.drop k->a.length+l.length<=17592186044416->b.length+l.length<=17592186044416 ->
  lZ N x r l k a b=some (a++l,b++QH l.length (wr (x+r.2.1)))
 |[],k,a,b,_,_,_=>by simp[lZ]
 |y::l,k,a,b,h,ha,hb=>by
  obtain⟨d,e,_⟩:=X5 h;simp only[QI] at ha hb;rw[lZ];have e1:AT ((a.length+[y].length)*8) 140737488355328=true:=p9 F5;have c:AT ((b.length+[wr (x+r.2.1)].length)*8) 140737488355328=true:=p9 F5;simp only[q9,d,A0,e1,c,Qz];rw[C0 N x r l (k+1) _ _ e F5 F5];simp[List.replicate_succ]
def ko(h:List Int):Nat:=h.countP fun x=>decide (x<0)
def zV{h:List Int}{i:Nat}{x y:Int}(hi:h[i]?=some x)(b:x<0)(c:0<=y):ko (h.set i y)+1=ko h:=by
 induction h generalizing i with
 |nil=>simp at hi
 |cons a h ih =>
  cases i with
  |zero =>
   simp only[Qy,Option.some.injEq] at hi;subst hi;have:¬y<0:=d9;simp[ko,b,this]
  |succ i =>
   have:=ih (i:=i) (by simpa using hi);simp only[ko,List.set_cons_succ,List.countP_cons] at this⊢;omega
def cK(m:Me):Nat->List Int->List (Int×Int)->Option (M7 (List Int×dK) (List Int))
 |0,_,_=>none
 |_+1,h,[]=>some (.next h)
 |n+1,h,(p,x)::r =>
  if(m.code.length:Int)<=p\/p<0 then some (.ret ([],⟨9,m.code.length⟩)) else
  match h[p.toNat]?,m.code[p.toNat]? with
  |some y,some i =>
   if 0<=y then(if y=x then cK m n h r else some (.ret ([],⟨8,p⟩)))
   else if x<(U0 i p).1\/(i.op=17/\x≠1) then some (.ret ([],⟨8,p⟩))
   else if 12<wr (x+(U0 i p).2.1) then some (.ret ([],⟨4,p⟩))
   else cK m n (h.set p.toNat x) (r++(U0 i p).2.2.map fun q=>(q,wr (x+(U0 i p).2.1)))
  |_,_=>none
def lL(l:List (Int×Int)):Prop:=∀q∈l,0<=q.2/\q.2<=12
def wy(m:Me)(d:nD m):∀(n:Nat) (h:List Int) (l:List (Int×Int)),h.length=m.code.length->lL l->l.length+3*ko h<n->∃r,cK m n h l=some r
 |0,h,l,_,_,o=>d9
 |n+1,h,[],_,_,_=>⟨_,rfl⟩
 |n+1,h,(p,x)::r,hh,hl,o=>by
  rw[cK];simp only[QI] at o;have e:=hl (p,x) l9;have t:lL r:=fun q a=>hl q (by simp[a]);by_cases g:(m.code.length:Int)<=p\/p<0
  ·rw[RA g];exact⟨_,rfl⟩
  rw[R1 g];have s:p.toNat<m.code.length:=d9;have e1:h[p.toNat]?=some (h[p.toNat]' d9):=No d9;have f:m.code[p.toNat]?=some m.code[p.toNat]:=No s;generalize h[p.toNat]' d9=y at e1;have hi:=d _ (List.getElem_mem s);generalize m.code[p.toNat]=i at f hi;rw[e1,f];simp only;by_cases j:0<=y
  ·rw[RA j];by_cases b:y=x
   ·rw[RA b];exact wy m d n h r hh t d9
   ·rw[R1 b];exact⟨_,rfl⟩
  rw[R1 j];by_cases b:x<(U0 i p).1\/(i.op=17/\x≠1)
  ·rw[RA b];exact⟨_,rfl⟩
  rw[R1 b];by_cases c:12<wr (x+(U0 i p).2.1)
  ·rw[RA c];exact⟨_,rfl⟩
  rw[R1 c];have k:=wb e.1 e.2 (fun h=>b (IN h)) c hi;have v:=zV (y:=x) e1 d9 e.1;have u:=Aa i p;refine wy m d n _ _ (by simpa using hh) (fun q a=>?_) F5;rcases QS.1 a with a|a
  ·exact t q a
  ·obtain⟨z,_,rfl⟩:=QT.1 a;exact⟨k.1,k.2.1⟩
def yH(N:Nat)(m:Me)(C:nD m)(I:m.code.length<=1048576):∀(n:Nat) (h:List Int) (b c:List Int) (k:Nat),b.length=c.length->k<=b.length->b.length+2*ko h<=4194304->h.length=m.code.length ->
  lL ((b.drop k).zip (c.drop k))->nu N m n h b c (k:Int)=cK m n h ((b.drop k).zip (c.drop k))
 |0,_,_,_,_,_,_,_,_,_=>rfl
 |n+1,h,b,c,k,hl,T,O,J,K=>by
  rw[nu];by_cases s:k<b.length
  ·have d:(k:Int)<(b.length:Int):=d9;have f:k<c.length:=d9;have D:b[k]?=some b[k]:=No s;have E:c[k]?=some c[k]:=No f;have l:(b.drop k).zip (c.drop k)=(b[k],c[k])::(b.drop (k+1)).zip (c.drop (k+1)):=by
    rw[List.drop_eq_getElem_cons s,List.drop_eq_getElem_cons f];rfl
   have v:=K (b[k],c[k]) (by rw[l];simp);have M:lL ((b.drop (k+1)).zip (c.drop (k+1))):=fun q e=>K q (by rw[l];simp[e]);have wk:wr ((k:Int)+1)=((k+1:Nat):Int):=by rw[q8 ino];omega
   rw[l,cK];generalize U:b[k]=p at D v;generalize Q:c[k]=x at E v;simp only[d,RB,Qz,q9,D,E,A0,wk];by_cases B:(m.code.length:Int)<=p
   ·simp only[B,RB,Qz,A0,true_or,if_true]
   by_cases o:p<0
   ·simp only[B,o,RB,RC,Qz,R0,A0,or_true,if_true]
   simp only[B,o,RC,R0,A0,or_self,if_false];have u:p.toNat<m.code.length:=d9;have t:0<=p:=d9;have e1:h[p.toNat]?=some (h[p.toNat]' d9):=No d9;have A:m.code[p.toNat]?=some m.code[p.toNat]:=No u;generalize h[p.toNat]' d9=y at e1;have hi:=C _ (List.getElem_mem u);generalize m.code[p.toNat]=i at A hi;have R:j3 h p=some y:=by rw[fC t,e1]
   have S:j3 m.code p=some i:=(by rw[fC t,A]);simp only[R,S,e1,A,A0,Jo N i p hi];by_cases G:0<=y
   ·simp only[G,RB,Qz,if_true];by_cases g:y=x
    ·simp only[g,RB,IT,R0,A0,if_true];exact yH N m C I n h b c (k+1) hl d9 O J M
    ·simp only[g,RC,QJ,Qz,A0,if_false]
   simp only[G,RC,R0,if_false];by_cases g:x<(U0 i p).1
   ·simp only[g,RB,Qz,A0,true_or,if_true]
   by_cases w:i.op=17/\x≠1
   ·simp only[g,w.1,w.2,RB,RC,Qz,R0,A0,QJ,or_true,if_true,ne_eq,not_false_eq_true,and_self]
   have e:((bif decide (i.op=(17:Int)) then some ((!decide (x=(1:Int)))) else some (false)):Option Bool)=some false:=by
    by_cases j:i.op=17
    ·by_cases H:x=1
     ·simp[H]
     ·exact absurd ⟨j,H⟩ w
    ·simp[j]
   simp only[g,w,e,RC,R0,A0,or_self,if_false];by_cases j:12<wr (x+(U0 i p).2.1)
   ·simp only[j,RB,Qz,A0,if_true]
   simp only[j,RC,R0,if_false];have r:=wb v.1 v.2 g j hi;have V:=zV (y:=x) e1 d9 v.1;have P:=Aa i p;rw[C0 N x (U0 i p) (U0 i p).2.2 0 b c rfl d9 d9];simp only[A0];have F:((b++(U0 i p).2.2).drop (k+1)).zip ((c++QH (U0 i p).2.2.length (wr (x+(U0 i p).2.1))).drop (k+1)) =
     (b.drop (k+1)).zip (c.drop (k+1))++(U0 i p).2.2.map fun q=>(q,wr (x+(U0 i p).2.1)):=by
    rw[List.drop_append_of_le_length d9,List.drop_append_of_le_length d9,List.zip_append F5];congr 1;generalize (U0 i p).2.2=L
    induction L with
    |nil=>rfl
    |cons a L ih=>simp[List.replicate_succ,ih]
   rw[yH N m C I n _ _ _ (k+1) F5 F5 F5 (by simpa using J) (by
    rw[F];intro q e;rcases QS.1 e with e|e
    ·exact M q e
    ·obtain⟨z,_,rfl⟩:=QT.1 e;exact⟨r.1,r.2.1⟩),F]
  ·have d:¬(k:Int)<(b.length:Int):=d9;have l:(b.drop k).zip (c.drop k)=[]:=by rw[List.drop_eq_nil_of_le d9];rfl
   rw[l,cK];simp only[d,RC,R0]
def rU(o:M7 (List Int×dK) (List Int)):List Int×dK:=match o with|.ret r=>r|.next h=>(h,⟨0,0⟩)
def wW(n:Nat):ko (QH n (-1))=n:=by
 induction n with
 |zero=>rfl
 |succ n ih=>simp only[ko,List.replicate_succ,List.countP_cons] at ih⊢;rw[ih];rfl
def Bs(N:Nat)(m:Me)(d:nD m)(c:m.code.length<=1048576):sS N m=(cK m N (QH m.code.length (-1)) [(0,0)]).map rU:=by
 unfold sS;have e0:(decide (0<=(m.code.length:Int)) && decide ((m.code.length:Int)<=140737488355328) && decide ((m.code.length:Int)*8<=140737488355328))=true:=by
  simp only[It,RF];omega
 have e1:(((QH (m.code.length:Int).toNat (0:Int)).length:Int)-((0:Nat):Int)).toNat=m.code.length:=l9;rw[e0,e1,C1 N _ 0 _ l9];simp only[Qz,A0,List.take_zero,Qd];have h:=yH N m d c N (QH m.code.length (-1)) [0] [0] 0 rfl l9 (by rw[wW];simp;omega) l9 (by
  intro q a;simp only[List.drop_zero,List.zip_cons_cons,List.zip_nil_right,QG,List.not_mem_nil,or_false] at a;subst a;decide)
 have b:nu N m N (QH m.code.length (-1)) [(0:Int)] [(0:Int)] (0:Int)=cK m N (QH m.code.length (-1)) [(0,0)]:=h;rw[b];cases cK m N (QH m.code.length (-1)) [(0,0)] with
 |none=>rfl
 |some o=>cases o<;>rfl
def IE(N:Nat)(m:Me)(e:4194304<=N)(a:nD m)(c:m.code.length<=1048576):∃r,sS N m=some r:=by
 rw[Bs N m a c];obtain⟨o,d⟩:=wy m a N (QH m.code.length (-1)) [(0,0)] l9 (by
  intro q b;simp only[QG,List.not_mem_nil,or_false] at b;subst b;decide) (by rw[wW];simp;omega)
 rw[d];exact⟨_,rfl⟩
def yF(N:Nat)(w:Wd)(c:Int)(m:Me)(a:1048578<=N)(d:w.a7.length<=1048576):∀(l:List Ins) (k:Nat),∃o,U5 N w c m l k=some o/\(o=.next ()->∀i∈l,M5 N w c m i=some 0)
 |[],k=>⟨_,rfl,fun _ i hi=>by cases hi⟩
 |x::l,k=>by
  obtain⟨r,b⟩:=C5 N w c m x a d;rw[U5,b];simp only[A0];by_cases h:r=0
  ·subst h;simp only[RB,IT,R0];obtain⟨o,f,g⟩:=yF N w c m a d l (k+1);refine⟨o,f,fun e i hi=>?_⟩;rcases QG.1 hi with rfl|hi
   ·exact b
   ·exact g e i hi
  ·simp only[h,RC,QJ,Qz];exact⟨_,rfl,fun e=>by cases e⟩
def Br(N:Nat)(w:Wd)(c:Int)(m:Me)(e:4194304<=N)(k:w.a7.length<=1048576)(g:m.code.length<=1048576):∃f,jI N w c m=some f:=by
 unfold jI;simp only[jE,A0];refine wx ?_ fun a _=>?_
 ·repeat (first|exact⟨_,rfl⟩|refine lB (fun _=>?_) (fun _=>?_))
 refine lB (fun _=>⟨_,rfl⟩) fun _=>?_;refine lB (fun _=>⟨_,rfl⟩) fun _=>?_;refine wx ?_ fun a _=>?_
 ·repeat (first|exact⟨_,rfl⟩|refine lB (fun _=>?_) (fun _=>?_))
 refine lB (fun _=>⟨_,rfl⟩) fun _=>?_;refine lB (fun _=>⟨_,rfl⟩) fun _=>?_;refine wx ?_ fun a _=>?_
 ·repeat (first|exact⟨_,rfl⟩|refine lB (fun _=>?_) (fun _=>?_))
 refine lB (fun _=>⟨_,rfl⟩) fun _=>?_;obtain⟨o,b,d⟩:=yF N w c m d9 k m.code 0;rw[b];simp only[A0];cases o with
 |ret r=>exact⟨_,rfl⟩
 |next u =>
  obtain⟨r,j⟩:=IE N m e (fun i hi h=>IA N w c m i (d rfl i hi) h) g;simp only[j,A0];exact⟨_,rfl⟩
def Good(x:Option (M7 Int Unit))(P:Prop):Prop:=∃o,x=some o/\(∀r,o=.ret r->r≠0)/\(o=.next ()->P)
def Good.ret{r:Int}{P:Prop}(h:r≠0):Good (some (.ret r)) P:=⟨.ret r,rfl,(fun r e=>by cases e;exact h),fun e=>by cases e⟩
def Good.next{P:Prop}(h:P):Good (some (.next ())) P:=⟨.next (),rfl,(fun r e=>by cases e),fun _=>h⟩
def Good.bind{x:Option (M7 Int Unit)}{P Q:Prop}{y:Option (M7 Int Unit)}(h:Good x P)(c:P->Good y Q):Good (x.bind fun o=>match o with|.ret r=>some (.ret r)|.next ()=>y) Q:=by
 obtain⟨o,rfl,a,b⟩:=h;cases o with
 |ret r=>exact Good.ret (a r rfl)
 |next u=>exact c (b rfl)
def Good.imp{x:Option (M7 Int Unit)}{P Q:Prop}(h:Good x P)(d:P->Q):Good x Q:=by
 obtain⟨o,a,b,c⟩:=h;exact⟨o,a,b,fun e=>d (c e)⟩
def DO(N:Nat)(x:Cl):∀(l:List Cl) (k:Nat),Good (U4 N x l k) (∀d∈l,d.name≠x.name)
 |[],k=>Good.next fun d hd=>by cases hd
 |d::l,k=>by
  rw[U4];by_cases h:d.name=x.name
  ·simp only[h,RB,Qz];exact Good.ret G7
  ·simp only[h,RC,R0];exact(DO N x l (k+1)).imp fun hl e a=>by
    rcases QG.1 a with rfl|a
    ·exact h
    ·exact hl e a
def mz(w:Wd)(k:Nat)(c:Cl):Prop:=W9 c.name=true/\(∀d∈w.a7.take k,d.name≠c.name) /\
 (k<4->∃f,N9.a7[k]?=some f/\c.name=f.name/\c.aQ=f.aQ/\c.aG=0) /\
 (4<=k->0<=c.aQ/\c.aQ<k/\(0<c.aQ->4<=c.aQ))/\0<=c.aG/\c.aG<=6
def DW(N:Nat)(w:Wd):∀(l:List Cl) (k:Nat),l=w.a7.drop k->Good (Q0 N w N9 l k) (∀j c,k<=j->w.a7[j]?=some c->mz w j c)
 |[],k,h=>Good.next fun j c p q=>by
   have D:=(OR.1 q).1;have E:=List.drop_eq_nil_iff.1 h.symm;omega
 |c::l,k,h=>by
  obtain⟨q,hl,n⟩:=X5 h;have n:=of_decide_eq_true n;rw[Q0,jE];simp only[A0];cases v:W9 c.name with
  |false=>simp only[QJ,Qz,A0];exact Good.ret G7
  |true =>
   simp only[IT,R0];have z:(decide (0<=(k:Int)) && decide ((k:Int)<=(w.a7.length:Int)))=true:=by simp only[It,RF];omega
   have step:∀(P:Prop) (y:Option (M7 Int Unit)),((∀d∈w.a7.take k,d.name≠c.name)->Good y P) ->
     Good ((bif (decide (0<=(k:Int)) && decide ((k:Int)<=(w.a7.length:Int))) then((U4 N c (w.a7.take (k:Int).toNat) 0).bind fun o=>match o with|.ret r=>some (.ret r)|.next ()=>y) else none)) P:=by
    intro P y C;rw[z];exact(DO N c _ 0).bind fun hd=>C (by simpa using hd)
   have g:∀(P:Prop),mz w k c->Good (Q0 N w N9 l (k+1)) (∀j c,k<=j->w.a7[j]?=some c->mz w j c):=fun _ A =>
    (DW N w l (k+1) hl).imp fun ih j d p hd=>by
     rcases Nat.eq_or_lt_of_le p with rfl|p
     ·rw[q] at hd;cases hd;exact A
     ·exact ih j d p hd
   by_cases x:k<4
   ·have i:(k:Int)<4:=d9;obtain⟨f,u⟩:∃f,N9.a7[k]?=some f:=⟨_,No (by simpa[N9] using x)⟩;simp only[i,RB,Qz,q9,u,A0];by_cases s:c.name=f.name
    ·simp only[s,RB,IT,R0];refine step _ _ fun hd=>?_;by_cases b:c.aQ=f.aQ
     ·simp only[b,RB,IT,R0,A0];by_cases e:c.aG<0
      ·simp only[e,RB,Qz,A0];exact Good.ret G7
      ·by_cases a:0<c.aG
       ·simp only[e,a,RB,RC,Qz,R0,A0];exact Good.ret G7
       ·simp only[e,a,RC,R0,A0];exact g True ⟨v,hd,fun _=>⟨f,u,s,b,d9⟩,fun h=>d9,d9,d9⟩
     ·simp only[b,RC,QJ,Qz,A0];exact Good.ret G7
    ·simp only[s,RC,QJ,Qz];exact Good.ret G7
   ·have i:¬(k:Int)<4:=d9;simp only[i,RC,R0,A0];refine step _ _ fun hd=>?_;by_cases b:c.aQ<0
    ·simp only[b,RB,Qz,A0];exact Good.ret G7
    by_cases e:(k:Int)<=c.aQ
    ·simp only[b,e,RB,RC,Qz,R0,A0];exact Good.ret G7
    have tail:(0<c.aQ->4<=c.aQ)->Good (((bif decide (c.aG<(0:Int)) then some (true) else some (decide ((6:Int)<c.aG))):Option Bool).bind fun t=>(bif t then some (.ret (3:Int)) else Q0 N w N9 l (k+1))) (∀j c,k<=j->w.a7[j]?=some c->mz w j c):=by
     intro B;by_cases a:c.aG<0
     ·simp only[a,RB,Qz,A0];exact Good.ret G7
     ·by_cases m:6<c.aG
      ·simp only[a,m,RB,RC,Qz,R0,A0];exact Good.ret G7
      ·simp only[a,m,RC,R0,A0];exact g True ⟨v,hd,fun h=>d9,fun _=>⟨d9,d9,B⟩,d9,d9⟩
    by_cases a:0<c.aQ
    ·by_cases m:c.aQ<4
     ·simp only[b,e,a,m,RB,RC,Qz,R0,A0];exact Good.ret G7
     ·simp only[b,e,a,m,RB,RC,Qz,R0,A0];exact tail fun _=>d9
    ·simp only[b,e,a,RC,R0,A0];exact tail fun h=>absurd h a
def pR(k:Nat)(m:Me):Prop:=k=3/\∃p∈U3,p.name=m.name/\p.aS=m.aS/\m.args=1/\m.a8=0/\m.code=[]
def xw(N:Nat)(k:Nat)(m:Me):∀(l:List Me) (j:Nat) (b:Bool),(∀p∈l,p∈U3)->(b=true->pR k m)->∃t,J9 N k m l j b=some t/\(t=true->pR k m)
 |[],j,b,_,s=>⟨b,rfl,s⟩
 |p::l,j,b,hl,s=>by
  rw[J9];have go:=xw N k m l (j+1);have d:∀p∈l,p∈U3:=fun q u=>hl q (by simp[u]);cases b with
  |true=>simp only[Qz,A0];exact go true d (fun _=>s rfl)
  |false =>
   have f:=go false d (fun h=>by cases h);simp only[R0];by_cases a:(k:Int)=3
   ·by_cases c:p.name=m.name
    ·by_cases g:p.aS=m.aS
     ·by_cases i:m.args=1
      ·by_cases n:m.a8=0
       ·by_cases o:m.code=[]
        ·simp only[a,c,g,i,n,o,RB,Qz,A0];exact go _ d fun _=>⟨d9,p,hl p l9,c,g,i,n,o⟩
        ·have r:¬(m.code.length:Int)=0:=fun e=>o (Qj d9);simp only[a,c,g,i,n,r,RB,RC,Qz,A0];exact f
       ·simp only[a,c,g,i,n,RB,RC,Qz,R0,A0];exact f
      ·simp only[a,c,g,i,RB,RC,Qz,R0,A0];exact f
     ·simp only[a,c,g,RB,RC,Qz,R0,A0];exact f
    ·simp only[a,c,RB,RC,Qz,R0,A0];exact f
   ·simp only[a,RC,R0,A0];exact f
def mn(N:Nat)(w:Wd)(k:Nat)(m:Me):Prop:=pR k m\/∃f,jI N w (k:Int) m=some f/\f.err=0
def DX(N:Nat)(w:Wd)(k:Nat)(c:Cl)(D:4194304<=N)(y:E8 w)(B:c∈w.a7):∀(l:List Me) (j:Nat),l=c.aB.drop j ->
  Good (Q5 N w N9 k c l j) (∀i m,j<=i->c.aB[i]?=some m->mn N w k m/\∀p,0<i->c.aB[i-1]?=some p->V8 p.name m.name=true)
 |[],j,h=>Good.next fun i m v x=>by
   have K:=(OR.1 x).1;have L:=List.drop_eq_nil_iff.1 h.symm;omega
 |m::l,j,h=>by
  obtain⟨x,hl,o⟩:=X5 h;have o:=of_decide_eq_true o;have I:=(y.2.2.1 c B).1;rw[Q5];have G:j3 N9.a7 3=some ⟨⟨#[73,110,116]⟩,0,0,U3⟩:=rfl;have C:=(y.2.2.1 c B).2 m (QM x);obtain⟨b,z,A⟩:=xw N k m U3 0 false (fun p a=>a) (fun h=>by cases h);obtain⟨f,E⟩:=Br N w (k:Int) m D y.1 C;have tail:(∀p,0<j->c.aB[j-1]?=some p->V8 p.name m.name=true)->Good ((j3 N9.a7 (3:Int)).bind fun t=>((J9 N k m t.aB 0 false).bind fun r=>((jI N w (k:Int) m).bind fun e=>(((bif (!r) then some ((!decide (e.err=(0:Int)))) else some (false)):Option Bool).bind fun s=>(bif s then some (.ret e.err) else Q5 N w N9 k c l (j+1))))))
    (∀i m,j<=i->c.aB[i]?=some m->mn N w k m/\∀p,0<i->c.aB[i-1]?=some p->V8 p.name m.name=true):=by
   intro a;have g:mn N w k m->Good (Q5 N w N9 k c l (j+1)) (∀i m,j<=i->c.aB[i]?=some m->mn N w k m/\∀p,0<i->c.aB[i-1]?=some p->V8 p.name m.name=true):=fun H =>
    (DX N w k c D y B l (j+1) hl).imp fun ih i d v hd=>by
     rcases Nat.eq_or_lt_of_le v with rfl|v
     ·rw[x] at hd;cases hd;exact⟨H,a⟩
     ·exact ih i d v hd
   rw[G];simp only[A0,z,E];cases b with
   |true=>simp only[IT,R0,A0];exact g (IN (A rfl))
   |false =>
    simp only[QJ,Qz,A0];by_cases u:f.err=0
    ·simp only[u,RB,IT,R0];exact g (Or.inr ⟨f,E,u⟩)
    ·simp only[u,RC,QJ,Qz];exact Good.ret u
  by_cases F:0<j
  ·have n:(0:Int)<(j:Int):=d9;have wk:wr ((j:Int)-1)=((j-1:Nat):Int):=by rw[q8 ino];omega
   obtain⟨p,a⟩:∃p,c.aB[j-1]?=some p:=⟨_,No d9⟩;simp only[n,RB,Qz,wk,q9,a,A0];cases J:V8 p.name m.name with
   |true=>simp only[IT,R0];exact tail fun M _ q=>by rw[a] at q;cases q;exact J
   |false=>simp only[QJ,Qz];exact Good.ret G7
  ·have n:¬(0:Int)<(j:Int):=d9;simp only[n,RC,R0,A0];exact tail fun p a=>absurd a F
def DI(N:Nat)(w:Wd)(r:4194304<=N)(q:E8 w):∀(l:List Cl) (k:Nat),l=w.a7.drop k ->
  Good (Y8 N w N9 l k) (∀j c,k<=j->w.a7[j]?=some c->l8 w (j:Int)<=6/\c.aB.length<=8/\dN c.aB/\∀m∈c.aB,mn N w j m)
 |[],k,h=>Good.next fun j c e b=>by
   have a:=(OR.1 b).1;have f:=List.drop_eq_nil_iff.1 h.symm;omega
 |c::l,k,h=>by
  obtain⟨b,hl,t⟩:=X5 h;rw[Y8,Y7 N w _ d9 q.1];simp only[A0];by_cases a:6<l8 w (k:Int)
  ·simp only[a,RB,Qz];exact Good.ret G7
  by_cases f:(8:Int)<(c.aB.length:Int)
  ·simp only[a,f,RB,RC,Qz,R0];exact Good.ret G7
  simp only[a,f,RC,R0];refine(DX N w k c r q (QM b) c.aB 0 rfl).bind fun s=>?_;refine(DI N w r q l (k+1) hl).imp fun ih j d e hd=>?_;rcases Nat.eq_or_lt_of_le e with rfl|e
  ·rw[b] at hd;cases hd;refine⟨d9,d9,NX fun i m p hi g o=>(s i m d9 g).2 p hi o,fun m n=>?_⟩;obtain⟨i,hi⟩:=Qv.1 n;exact(s i m d9 hi).1
  ·exact ih j d e hd
def DL(N:Nat)(w:Wd):∀(l:List V) (k:Nat),Good (U6 N w l k) (∀v∈l,Z9 v (w.heap.length:Int)=0)
 |[],k=>Good.next fun v b=>by cases b
 |v::l,k=>by
  rw[U6,ri];simp only[A0];by_cases h:Z9 v (w.heap.length:Int)=0
  ·simp only[h,RB,IT,R0];exact(DL N w l (k+1)).imp fun ih u a=>by
    rcases QG.1 a with rfl|a
    ·exact h
    ·exact ih u a
  ·simp only[h,RC,QJ,Qz];exact Good.ret h
def d88(w:Wd)(o:Ob):Prop:=0<=o.cls/\(0<o.cls->4<=o.cls)/\o.cls<w.a7.length/\(o.aG.length:Int)=l8 w o.cls/\∀v∈o.aG,Z9 v (w.heap.length:Int)=0
def DE(N:Nat)(w:Wd)(m:4194304<=N)(j:E8 w):∀(l:List Ob) (k:Nat),Good (U1 N w l k) (∀o∈l,d88 w o)
 |[],k=>Good.next fun o n=>by cases n
 |o::l,k=>by
  rw[U1];have d:(0<=o.cls/\(0<o.cls->4<=o.cls)/\o.cls<w.a7.length/\(o.aG.length:Int)=l8 w o.cls)->Good ((U6 N w o.aG 0).bind fun o=>match o with|.ret r=>some (.ret r)|.next ()=>U1 N w l (k+1)) (∀x∈o::l,d88 w x):=fun h =>
   (DL N w o.aG 0).bind fun p=>(DE N w m j l (k+1)).imp fun ih x i=>by
    rcases QG.1 i with rfl|i
    ·exact⟨h.1,h.2.1,h.2.2.1,h.2.2.2,p⟩
    ·exact ih x i
  by_cases b:o.cls<0
  ·simp only[b,RB,Qz,A0];exact Good.ret G7
  have a:=Y7 N w o.cls d9 j.1;by_cases c:0<o.cls
  ·by_cases g:o.cls<4
   ·simp only[b,c,g,RB,RC,Qz,R0,A0];exact Good.ret G7
   ·by_cases e:(w.a7.length:Int)<=o.cls
    ·simp only[b,c,g,e,RB,RC,Qz,R0,A0];exact Good.ret G7
    ·by_cases f:(o.aG.length:Int)=l8 w o.cls
     ·simp only[b,c,g,e,a,f,RB,RC,Qz,R0,A0,IT];exact d ⟨d9,fun _=>d9,d9,f⟩
     ·simp only[b,c,g,e,a,f,RB,RC,Qz,R0,A0,QJ];exact Good.ret G7
  ·by_cases e:(w.a7.length:Int)<=o.cls
   ·simp only[b,c,e,RB,RC,Qz,R0,A0];exact Good.ret G7
   ·by_cases f:(o.aG.length:Int)=l8 w o.cls
    ·simp only[b,c,e,a,f,RB,RC,R0,A0,IT];exact d ⟨d9,fun h=>absurd h c,d9,f⟩
    ·simp only[b,c,e,a,f,RC,Qz,R0,A0,QJ];exact Good.ret G7
structure K7(N:Nat)(w:Wd):Prop where
 many:4<=w.a7.length/\w.a7.length<=12/\w.heap.length<=60
 aC:0<=w.aC/\w.aC<=1073741824
 cls:∀(j:Nat) c,w.a7[j]?=some c->mz w j c
 ak:∀(j:Nat) c,w.a7[j]?=some c->l8 w (j:Int)<=6/\c.aB.length<=8/\dN c.aB/\∀m∈c.aB,mn N w j m
 obj:∀o∈w.heap,d88 w o
def Good.end_{x:Option (M7 Int Unit)}{P:Prop}{y:Option Int}{Q:Prop}(h:Good x P)(c:P->∃r,y=some r/\(r=0->Q)):∃r,(x.bind fun o=>match o with|.ret r=>some r|.next ()=>y)=some r/\(r=0->Q):=by
 obtain⟨o,rfl,a,b⟩:=h;cases o with
 |ret r=>exact⟨r,rfl,fun e=>absurd e (a r rfl)⟩
 |next u=>exact c (b rfl)
def L7(N:Nat)(w:Wd)(i:4194304<=N)(k:E8 w):∃r,k6 N w=some r/\(r=0->K7 N w):=by
 unfold k6 lV;simp only[A0];by_cases a:(w.a7.length:Int)<4
 ·exact⟨5,by simp[a],fun h=>by cases h⟩
 by_cases b:(12:Int)<(w.a7.length:Int)
 ·exact⟨5,by simp[a,b],fun h=>by cases h⟩
 by_cases d:(60:Int)<(w.heap.length:Int)
 ·exact⟨5,by simp[a,b,d],fun h=>by cases h⟩
 by_cases e:w.aC<0
 ·exact⟨3,by simp[a,b,d,e],fun h=>by cases h⟩
 by_cases g:1073741824<w.aC
 ·exact⟨3,by simp[a,b,d,e,g],fun h=>by cases h⟩
 simp only[a,b,d,e,g,RC,R0,A0];refine(DW N w w.a7 0 rfl).end_ fun l=>?_;refine(DI N w i k w.a7 0 rfl).end_ fun c3=>?_;refine(DE N w i k w.heap 0).end_ fun m=>?_;exact⟨0,rfl,fun _=>⟨d9,d9,fun j c f=>l j c d9 f,fun j c f=>c3 j c d9 f,m⟩⟩
def K7.cM{N:Nat}{w:Wd}(h:K7 N w):dD w:=fun c a=>by
 obtain⟨i,hi⟩:=Qv.1 a;exact(h.ak i c hi).2.2.1

def eX(c:Int):List Ln->List Ln×Bool
 |[]=>([],false)
 |x::l=>if x.cls=c then(⟨x.cls,wr (x.found+1)⟩::l,true) else(x::(eX c l).1,(eX c l).2)
def pT(c:Int)(l:List Ln):List Ln:=if(eX c l).2=true then(eX c l).1 else(eX c l).1++[⟨c,1⟩]
def e7(s:St)(c:Int):List Tl->List Tl×Bool
 |[]=>([],false)
 |x::l=>if x.site=s then(⟨x.site,pT c x.a7⟩::l,true) else(x::(e7 s c l).1,(e7 s c l).2)
def kv(s:St)(c:Int)(l:List Tl):List Tl:=if(e7 s c l).2=true then(e7 s c l).1 else(e7 s c l).1++[⟨s,[⟨c,1⟩]⟩]
def yZ(c:Int):∀l,(eX c l).1.length=l.length
 |[]=>rfl
 |x::l=>by
  unfold eX;split
  ·rfl
  ·simp[yZ c l]
def Lk(c:Int)(l:List Ln):(pT c l).length<=l.length+1:=by
 unfold pT;have:=yZ c l;split<;>simp<;>omega
def yg(s:St)(c:Int):∀l,(e7 s c l).1.length=l.length
 |[]=>rfl
 |x::l=>by
  unfold e7;split
  ·rfl
  ·simp[yg s c l]
def yA(N:Nat)(c:Int):∀(l:List Ln) (k:Nat) (a:List Ln),a.length+l.length<=1099511627776->Y0 N c l k a true=some (a++l,true)
 |[],k,a,_=>by simp[Y0]
 |x::l,k,a,h=>by
  simp only[QI] at h;have e:∀y:Ln,AT ((a.length+[y].length)*16) 140737488355328=true:=fun y=>p9 F5;rw[Y0];by_cases b:x.cls=c
  ·simp only[b,RB,Qz,IT,R0,A0,e];rw[yA N c l (k+1) _ F5];simp
  ·simp only[b,RC,R0,A0,e,Qz];rw[yA N c l (k+1) _ F5];simp
def Cw(N:Nat)(c:Int):∀(l:List Ln) (k:Nat) (a:List Ln),a.length+l.length<=1099511627776->Y0 N c l k a false=some (a++(eX c l).1,(eX c l).2)
 |[],k,a,_=>by simp[Y0,eX]
 |x::l,k,a,h=>by
  simp only[QI] at h;have e:∀y:Ln,AT ((a.length+[y].length)*16) 140737488355328=true:=fun y=>p9 F5;rw[Y0,eX];by_cases b:x.cls=c
  ·simp only[b,RB,Qz,QJ,A0,e,if_true];rw[yA N c l (k+1) _ F5];simp
  ·simp only[b,RC,R0,A0,e,Qz,if_false];rw[Cw N c l (k+1) _ F5];simp
def vX(N:Nat)(s:St)(c:Int):∀(l:List Tl) (k:Nat) (a:List Tl),a.length+l.length<=1099511627776->Y5 N s c l k a true=some (a++l,true)
 |[],k,a,_=>by simp[Y5]
 |x::l,k,a,h=>by
  simp only[QI] at h;have e:∀y:Tl,AT ((a.length+[y].length)*56) 140737488355328=true:=fun y=>p9 F5;rw[Y5];by_cases b:x.site=s
  ·simp only[b,dh,RB,Qz,IT,R0,A0,e];rw[vX N s c l (k+1) _ F5];simp
  ·simp only[b,dh,RC,R0,A0,e,Qz];rw[vX N s c l (k+1) _ F5];simp
def Cr(N:Nat)(s:St)(c:Int):∀(l:List Tl) (k:Nat) (a:List Tl),(∀t∈l,t.a7.length<=1099511627775)->a.length+l.length<=1099511627776->Y5 N s c l k a false=some (a++(e7 s c l).1,(e7 s c l).2)
 |[],k,a,_,_=>by simp[Y5,e7]
 |x::l,k,a,hl,h=>by
  simp only[QI] at h;have i:=hl x l9;have e:∀y:Tl,AT ((a.length+[y].length)*56) 140737488355328=true:=fun y=>p9 F5;rw[Y5,e7];by_cases b:x.site=s
  ·have d:AT (((eX c x.a7).1.length+[(⟨c,(1:Int)⟩:Ln)].length)*16) 140737488355328=true:=p9 (by rw[yZ];simp;omega);simp only[b,dh,RB,Qz,QJ,A0,if_true,Cw N c x.a7 0 [] F5,Qd,d];unfold pT;cases g:(eX c x.a7).2 with
   |true =>
    simp only[IT,R0,A0,e,Qz,if_true];rw[vX N s c l (k+1) _ F5];simp
   |false =>
    simp only[QJ,Qz,A0,e,if_false,Qe];rw[vX N s c l (k+1) _ F5];simp
  ·simp only[b,dh,RC,R0,A0,e,Qz,if_false];rw[Cr N s c l (k+1) _ (fun t f=>hl t (by simp[f])) F5];simp
def Im(N:Nat)(l:List Tl)(s:St)(c:Int)(hl:∀t∈l,t.a7.length<=1099511627775)(h:l.length<=1099511627775):vo N l s c=some (kv s c l):=by
 unfold vo kv;have a:AT (((e7 s c l).1.length+[(⟨s,[(⟨c,(1:Int)⟩:Ln)]⟩:Tl)].length)*56) 140737488355328=true:=p9 (by rw[yg];simp;omega);rw[Cr N s c l 0 [] hl F5];simp only[A0,Qd,a];cases (e7 s c l).2<;>simp
def Fl(c:Int)(l:List Ln):gV c l=pT c l:=by
 unfold gV pT bl;have key:∀l:List Ln,(match l.findIdx? (fun x=>decide (x.cls=c)) with|some k=>(eX c l).2=true/\l.modify k (fun x=>⟨x.cls,wr (x.found+1)⟩)=(eX c l).1|none=>(eX c l).2=false/\(eX c l).1=l):=by
  intro l
  induction l with
  |nil=>exact⟨rfl,rfl⟩
  |cons x l ih =>
   rw[List.findIdx?_cons];by_cases d:x.cls=c
   ·simp[d,eX]
   ·simp only[d,RC,Qe,if_false,eX];cases b:l.findIdx? (fun x=>decide (x.cls=c)) with
    |none=>rw[b] at ih;exact⟨ih.1,by rw[ih.2]⟩
    |some k=>rw[b] at ih;exact⟨ih.1,by simp only[List.modify_succ_cons];rw[ih.2]⟩
 have:=key l;cases b:l.findIdx? (fun x=>decide (x.cls=c)) with
 |some k=>rw[b] at this;simp only[this.1,if_true];exact this.2
 |none =>
  rw[b] at this;have g:wr ((0:Int)+1)=1:=G7;simp only[this.1,this.2,if_false,Qe];have e:∀(l:List Ln) (y:Ln) (f:Ln->Ln),(l++[y]).modify l.length f=l++[f y]:=by
   intro l y f
   induction l with
   |nil=>rfl
   |cons a l ih=>simp only[List.cons_append,QI,List.modify_succ_cons,ih]
  rw[e,g]
def N5(s:St)(c:Int)(l:List Tl):uI s c l=kv s c l:=by
 unfold uI kv bl;have key:∀l:List Tl,(match l.findIdx? (fun x=>decide (x.site=s)) with|some k=>(e7 s c l).2=true/\l.modify k (fun x=>⟨x.site,gV c x.a7⟩)=(e7 s c l).1|none=>(e7 s c l).2=false/\(e7 s c l).1=l):=by
  intro l
  induction l with
  |nil=>exact⟨rfl,rfl⟩
  |cons x l ih =>
   rw[List.findIdx?_cons];by_cases d:x.site=s
   ·simp[d,e7,Fl]
   ·simp only[d,RC,Qe,if_false,e7];cases b:l.findIdx? (fun x=>decide (x.site=s)) with
    |none=>rw[b] at ih;exact⟨ih.1,by rw[ih.2]⟩
    |some k=>rw[b] at ih;exact⟨ih.1,by simp only[List.modify_succ_cons];rw[ih.2]⟩
 have:=key l;cases b:l.findIdx? (fun x=>decide (x.site=s)) with
 |some k=>rw[b] at this;simp only[this.1,if_true];exact this.2
 |none =>
  rw[b] at this;simp only[this.1,this.2,if_false,Qe];have e:∀(l:List Tl) (y:Tl) (f:Tl->Tl),(l++[y]).modify l.length f=l++[f y]:=by
   intro l y f
   induction l with
   |nil=>rfl
   |cons a l ih=>simp only[List.cons_append,QI,List.modify_succ_cons,ih]
  rw[e,Fl];rfl
def d38(N:Nat)(l:List Tl)(s:St)(c:Int)(hl:∀t∈l,t.a7.length<=1099511627776)(h:l.length<=1099511627776):sH N l s c=some (kv s c l):=by
 unfold sH;have e:(AT ((l.length+1)*56) 140737488355328 && l.all fun t=>AT ((t.a7.length+1)*16) 140737488355328)=true:=by
  rw[It,QP];exact⟨p9 d9,fun t a=>p9 (by have:=hl t a;omega)⟩
 rw[e,N5];rfl
def D2(N:Nat)(b:List Tl):∀(l:List Tl) (k:Nat),l.length=(b.drop k).length->nc N b l k=some (if l=b.drop k then .next () else .ret false)
 |[],k,h=>by rw[mc h];rfl
 |x::l,k,h=>by
  obtain⟨y,c,hd,hl⟩:=ma h;rw[hd,nc];simp only[A0,Option.bind_none,Qz,R0,Bool.cond_decide,kJ,dh,kG,jw,IT,QJ,q9,c,D2 N b l (k+1) hl,CC];obtain⟨d,e⟩:=x;obtain⟨f,g⟩:=y;by_cases e1:d=f
  ·by_cases a:e=g<;>simp[e1,a]
  ·simp[e1]
def JU(N:Nat)(a b:List Tl):uc N a b=some (decide (a=b)):=by
 unfold uc;by_cases h:a.length=b.length
 ·rw[D2 N b a 0 (by simpa using h)];by_cases e:a=b<;>simp[h,e]
 ·have:a≠b:=fun e=>h (by rw[e]);have c:¬((a.length:Int)=b.length):=d9;simp[this,c]
def HQ(N:Nat){l:List Ln}(h:l.length<=1099511627776):Y3 N l=some l:=by
 unfold Y3;rw[p9 d9];rfl
def Cp(N:Nat):∀(l:List Tl) (k:Nat) (a:List Tl),(∀t∈l,t.a7.length<=1099511627776)->a.length+l.length<=1099511627776->mK N l k a=some (a++l)
 |[],k,a,_,_=>by simp[mK]
 |x::l,k,a,h,hl=>by
  rw[mK,HQ N (h x l9)];simp only[A0];rw[p9 (by simp at hl⊢;omega)];simp only[Qz];rw[Cp N l (k+1) _ (fun o b=>h o (by simp[b])) (by simp at hl⊢;omega)];simp
def Dg(N:Nat){l:List Tl}(h:∀t∈l,t.a7.length<=1099511627776)(hl:l.length<=1099511627776):sK N l=some l:=by
 unfold sK;rw[Cp N l 0 [] h (by simpa using hl)];rfl
def iz(c:Int):List Ln->Int
 |[]=>-1
 |y::l=>if y.cls=c then y.found else iz c l
def dL(s:St)(e c:Int):List Ce->Int
 |[]=>-1
 |x::l=>if x.site=s then(if x.aC=e then iz c x.lines else -1) else dL s e c l
def G4(N:Nat)(s:St):∀(l:List Ce) (k:Nat),D7 N (fun x=>qT N x s) l k=some (match l.findIdx? (fun t=>decide (t.site=s)) with|some i=>.ret ((k+i:Nat):Int)|none=>.next ())
 |[],k=>rfl
 |x::l,k=>by
  rw[D7,pB,G4 N s l (k+1)];unfold qT;rw[dh];by_cases e:x.site=s
  ·simp[e]
  ·cases l.findIdx? (fun t=>decide (t.site=s))<;>simp[e];omega
def Jn(N:Nat)(l:List Ce)(s:St):qf N l s=some (fY (fun t=>decide (t.site=s)) l):=by
 unfold qf X3 fY;rw[G4];cases l.findIdx? (fun t=>decide (t.site=s))<;>simp
def Ca(N:Nat)(c:Int):∀(l:List Ln) (k:Nat),∃o,om N c l k=some o/\(match o with|.ret r=>r|.next ()=>-1)=iz c l
 |[],k=>⟨.next (),rfl,rfl⟩
 |y::l,k=>by
  rw[om,iz];by_cases h:y.cls=c
  ·exact⟨.ret y.found,by simp[h],by simp[h]⟩
  ·obtain⟨o,a,b⟩:=Ca N c l (k+1);exact⟨o,by simp[h,a],by rw[R1 h];exact b⟩
def d22(s:St)(e c:Int):∀l:List Ce,dL s e c l=match l.findIdx? (fun t=>decide (t.site=s)) with
   |some i=>(match l[i]? with|some x=>(if x.aC=e then iz c x.lines else -1)|none=>-1)|none=>-1
 |[]=>rfl
 |x::l=>by
  rw[dL,pB];by_cases h:x.site=s
  ·simp[h]
  ·simp only[h,RC,Qe,if_false];rw[d22 s e c l];cases l.findIdx? (fun t=>decide (t.site=s))<;>simp
def d67(N:Nat)(l:List Ce)(s:St)(e c:Int):wS N l s e c=some (dL s e c l):=by
 unfold wS;rw[Jn,d22];simp only[A0];rcases tw (fun t:Ce=>decide (t.site=s)) l with⟨k,x,e1,a,i,d⟩|⟨e1,a⟩
 ·rw[e1,d];have f:¬((k:Int)<0):=d9;simp only[f,RC,R0,q9,a,A0];by_cases b:x.aC=e
  ·obtain⟨o,g,h⟩:=Ca N c x.lines 0;simp only[b,RB,IT,R0,g,A0,if_true,<-h];cases o<;>rfl
  ·simp[b]
 ·rw[e1,a];simp
def d74(l:List Ce):Prop:=l.length<=1099511627776/\∀x∈l,x.lines.length<=1099511627776
def fq(s:St)(e c f:Int):List Ce->List Ce
 |[]=>[fv e c f ⟨s,e,false,[]⟩]
 |x::l=>if x.site=s then fv e c f x::l else x::fq s e c f l
def d33(N:Nat)(l:List Ce)(s:St)(e c f:Int)(h:d74 l):sJ N l s e c f=some (fq s e c f l):=by
 unfold sJ;have a:(AT ((l.length+1)*72) 140737488355328 && l.all fun t=>AT ((t.lines.length+1)*16) 140737488355328)=true:=by
  rw[It,QP];exact⟨p9 (by have:=h.1;omega),fun t d=>p9 (by have:=h.2 t d;omega)⟩
 rw[a];simp only[Qz];congr 1;clear a h;unfold bl
 induction l with
 |nil=>rfl
 |cons x l ih =>
  rw[pB,fq];by_cases b:x.site=s
  ·simp[b]
  ·simp only[b,RC,Qe,if_false];rw[<-ih];cases l.findIdx? (fun t=>decide (t.site=s)) with
   |none=>simp
   |some i=>simp
def Hw(N:Nat){l:List Ln}(h:l.length<=1099511627776):Y3 N l=some l:=by
 unfold Y3;rw[p9 d9];rfl
def Cc(N:Nat):∀(l:List Ce) (k:Nat) (a:List Ce),(∀t∈l,t.lines.length<=1099511627776)->a.length+l.length<=1099511627776->mJ N l k a=some (a++l)
 |[],k,a,_,_=>by simp[mJ]
 |x::l,k,a,h,hl=>by
  rw[mJ,Hw N (h x l9)];simp only[A0];rw[p9 (by simp at hl⊢;omega)];simp only[Qz];rw[Cc N l (k+1) _ (fun o b=>h o (by simp[b])) (by simp at hl⊢;omega)];simp
def yh(N:Nat){l:List Ce}(h:d74 l):ou N l=some l:=by
 unfold ou;rw[Cc N l 0 [] h.2 (by simpa using h.1)];rfl
def iw(w:Wd)(s:St)(c:Int)(name:ByteArray)(l:List Ce):List Ce×Int×Int×Bool :=
 if 0<=dL s w.aC c l/\dL s w.aC c l<w.a7.length then(l,(l7 w name (dL s w.aC c l)).1,(l7 w name (dL s w.aC c l)).2,true)
 else if(l7 w name c).2<0 then(l,(l7 w name c).1,(l7 w name c).2,false)
 else(fq s w.aC c (l7 w name c).1 l,(l7 w name c).1,(l7 w name c).2,false)
def Ju(N:Nat)(l:List Ce)(w:Wd)(s:St)(c:Int)(name:ByteArray)(e:1048578<=N)(g:dD w)(f:E8 w)(hl:d74 l):vC N l w s c name=some (iw w s c name l):=by
 unfold vC iw;rw[d67];simp only[A0,mA N w _ name e g f,yh N hl,d33 N l s _ _ _ hl];by_cases a:0<=dL s w.aC c l
 ·by_cases d:dL s w.aC c l<w.a7.length
  ·simp[a,d]
  ·by_cases b:(l7 w name c).2<0<;>simp[a,d,b]
 ·by_cases b:(l7 w name c).2<0<;>simp[a,b]
def Di{w:Wd}{s:ByteArray}:∀{n:Nat} {c:Int} {p:Int×Int},U7 w s n c=some p->∀m,U7 w s (m+1) p.1=some p
 |0,c,p,h,m=>by cases h
 |n+1,c,p,h,m=>by
  rw[U7] at h;by_cases a:0<=c
  ·rw[RA a] at h;cases b:w.a7[c.toNat]? with
   |none=>rw[b] at h;cases h
   |some x =>
    rw[b] at h;simp only at h;cases hi:V3 s x.aB with
    |none=>rw[hi] at h;exact Di h m
    |some i =>
     rw[hi] at h;cases h;rw[U7,RA a,b];simp only[hi]
  ·rw[R1 a] at h;cases h
def Kp{w:Wd}{s:ByteArray}{c:Int}(h:0<=(l7 w s c).2):l7 w s (l7 w s c).1=l7 w s c:=by
 unfold l7 at h⊢;cases a:U7 w s (w.a7.length+1) c with
 |none=>rw[a] at h;exact absurd h G7
 |some p =>
  rw[Option.getD_some,Di a (w.a7.length),Option.getD_some]
def Fo{c:Type}(p:c->Bool)(l:List c):(0<=fY p l)↔l.any p=true:=by
 rcases tw p l with⟨k,x,e1,a,d,_⟩|⟨e1,a⟩
 ·rw[e1,List.any_eq_true];exact⟨fun _=>⟨x,QM a,d⟩,fun _=>d9⟩
 ·rw[e1,List.any_eq_true];rw[List.findIdx?_eq_none_iff] at a;refine⟨fun h=>d9,fun⟨x,e,b⟩=>?_⟩;rw[a x e] at b;cases b
def CU(N:Nat)(e c:Int)(x:Ce):∀(l:List Ln) (k:Nat),∃o,oU N e c x l k=some o/\(match o with|.ret r=>r|.next ()=>-1)=if x.aC=e then iz c l else -1
 |[],k=>⟨.next (),rfl,by simp[iz]⟩
 |y::l,k=>by
  rw[oU,iz];obtain⟨o,d,f⟩:=CU N e c x l (k+1);by_cases a:x.aC=e
  ·by_cases b:y.cls=c
   ·exact⟨.ret y.found,by simp[a,b],by simp[a,b]⟩
   ·exact⟨o,by simp[a,b,d],by rw[f];simp[a,b]⟩
  ·exact⟨o,by simp[a,d],by rw[f];simp[a]⟩
def CT(N:Nat)(s:St)(e c:Int):∀(l:List Ce) (k:Nat),∃o,oR N s e c l k=some o/\(match o with|.ret r=>r|.next ()=>-1)=dL s e c l
 |[],k=>⟨.next (),rfl,rfl⟩
 |x::l,k=>by
  rw[oR,dL,dh];by_cases d:x.site=s
  ·obtain⟨o,b,a⟩:=CU N e c x x.lines 0;simp only[d,RB,Qz,b,A0,if_true];cases o with
   |ret r=>exact⟨.ret r,rfl,a⟩
   |next u=>exact⟨.ret (-1),rfl,a⟩
  ·obtain⟨o,b,a⟩:=CT N s e c l (k+1);exact⟨o,by simp only[d,RC,R0];exact b,by simp only[d,if_false];exact a⟩
def K3(N:Nat)(l:List Ce)(s:St)(e c:Int):uy N l s e c=some (dL s e c l):=by
 unfold uy;obtain⟨o,a,b⟩:=CT N s e c l 0;rw[a,<-b];cases o<;>rfl
def yK(N:Nat)(c:Int):∀(l:List Ln) (k:Nat) (b:Bool),lh N c l k b=some (b || l.any fun y=>decide (y.cls=c))
 |[],k,b=>by simp[lh]
 |y::l,k,b=>by
  rw[lh];cases b with
  |true=>simp[yK N c l (k+1)]
  |false=>simp[yK N c l (k+1)]
def Cj(N:Nat)(x:Ce)(s:St)(e c f:Int)(out:List Ce)(b:Bool)(o:x.site=s)(r:x.lines.length<=1099511627775)(u:out.length<=1099511627776):sd N x e s c f out b=some (out++[fv e c f x],true):=by
 have g:(if x.aC=e then x else(⟨s,e,false,[]⟩:Ce))=dw e x:=by unfold dw;rw[o]
 have i:(dw e x).lines.length<=1099511627775:=by
  unfold dw;split
  ·exact r
  ·simp
 have p:(((bif (!decide (x.aC=e)) then some ((⟨s,e,false,([]:List Ln)⟩:Ce)) else some (x)):Option Ce))=some (dw e x):=by
  rw[<-g];by_cases l:x.aC=e<;>simp[l]
 unfold sd;rw[p];unfold fv;generalize dw e x=v at i;simp only[A0,yK];have d:∀q:Ce,AT ((out.length+[q].length)*72) 140737488355328=true:=fun q=>p9 F5;have e1:AT ((([]:List Ln).length+v.lines.length)*16) 140737488355328=true:=p9 F5;have j:AT (((([]:List Ln)++v.lines).length+[(⟨c,f⟩:Ln)].length)*16) 140737488355328=true:=p9 F5;by_cases a:(v.many || v.lines.any fun y=>decide (y.cls=c))=true
 ·have hl:V4 c f v=v:=by
   unfold V4;rw[RA];rw[Bool.or_eq_true] at a;exact a.imp (fun h=>h) fun h=>(Fo _ _).2 h
  rw[a,hl];simp only[IT,R0,A0,d,Qz]
 ·have m:(v.many || v.lines.any fun y=>decide (y.cls=c))=false:=by simpa using a
  have n:¬(v.many=true\/0<=fY (fun t:Ln=>decide (t.cls=c)) v.lines):=by
   rintro(h|h)
   ·exact a (by rw[h];rfl)
   ·exact a (by rw[(Fo _ _).1 h];simp)
  rw[m];unfold V4;rw[R1 n];by_cases k:(3:Int)<=(v.lines.length:Int)
  ·simp only[k,RB,Qz,QJ,A0,d,if_true]
  ·simp only[Qd] at j;simp only[k,RC,Qz,R0,QJ,A0,e1,j,d,if_false,Qd]
def yI(N:Nat)(s:St)(e c f:Int):∀(l:List Ce) (k:Nat) (a:List Ce),a.length+l.length<=1099511627776->jF N s e c f l k a true=some (a++l,true)
 |[],k,a,_=>by simp[jF]
 |x::l,k,a,h=>by
  simp only[QI] at h;have b:AT ((a.length+[x].length)*72) 140737488355328=true:=p9 F5;rw[jF,dh];by_cases d:x.site=s
  ·simp only[d,RB,Qz,IT,R0,A0,b];rw[yI N s e c f l (k+1) _ F5];simp
  ·simp only[d,RC,R0,A0,b,Qz];rw[yI N s e c f l (k+1) _ F5];simp
def C4(N:Nat)(s:St)(e c f:Int):∀(l:List Ce) (k:Nat) (a:List Ce),(∀x∈l,x.lines.length<=1099511627775)->a.length+l.length<=1099511627776 ->
  ∃r b,jF N s e c f l k a false=some (a++r,b)/\fq s e c f l=(if b=true then r else r++[fv e c f ⟨s,e,false,[]⟩])/\r.length=l.length
 |[],k,a,_,_=>⟨[],false,by simp[jF],rfl,rfl⟩
 |x::l,k,a,hl,h=>by
  simp only[QI] at h;have m:AT ((a.length+[x].length)*72) 140737488355328=true:=p9 F5;rw[jF,dh,fq];by_cases d:x.site=s
  ·simp only[d,RB,Qz,QJ,A0,Cj N x s e c f a false d (hl x l9) d9,if_true];refine⟨fv e c f x::l,true,?_,l9,l9⟩;rw[yI N s e c f l (k+1) _ F5];simp
  ·obtain⟨r,b,g,i,j⟩:=C4 N s e c f l (k+1) (a++[x]) (fun y n=>hl y (by simp[n])) F5;simp only[d,RC,R0,A0,m,Qz,if_false];refine⟨x::r,b,by rw[g];simp,?_,by simp[j]⟩;rw[i];cases b<;>simp
def KG(N:Nat)(l:List Ce)(s:St)(e c f:Int)(hl:∀x∈l,x.lines.length<=1099511627775)(h:l.length<=1099511627776):tF N l s e c f=some (fq s e c f l):=by
 unfold tF;obtain⟨r,b,a,d,g⟩:=C4 N s e c f l 0 [] hl (by simpa using h);rw[a,d];simp only[A0,Qd];cases b with
 |true=>simp
 |false =>
  rw[Cj N ⟨s,e,false,[]⟩ s e c f r false rfl l9 d9];simp
def CD(N:Nat)(b:List Ce):∀(l:List Ce) (k:Nat),l.length=(b.drop k).length->nk N b l k=some (if l=b.drop k then .next () else .ret false)
 |[],k,h=>by rw[mc h];rfl
 |x::l,k,h=>by
  obtain⟨y,e,hd,hl⟩:=ma h;rw[hd,nk];simp only[A0,Option.bind_none,Qz,R0,Bool.cond_decide,kJ,dh,kG,jw,IT,QJ,q9,e,CD N b l (k+1) hl,CC];obtain⟨f,g,i,j⟩:=x;obtain⟨m,n,o,p⟩:=y;by_cases e1:f=m
  ·by_cases a:g=n
   ·by_cases c:i=o
    ·by_cases d:j=p<;>simp[e1,a,c,d]
    ·simp[e1,a,c]
   ·simp[e1,a]
  ·simp[e1]
def d32(N:Nat)(a b:List Ce):vI N a b=some (decide (a=b)):=by
 unfold vI;by_cases h:a.length=b.length
 ·rw[CD N b a 0 (by simpa using h)];by_cases e:a=b<;>simp[h,e]
 ·have:a≠b:=fun e=>h (by rw[e]);have c:¬((a.length:Int)=b.length):=d9;simp[this,c]
def LQ(N:Nat)(w:Wd)(c:Int)(m:Me)(i:Ins)(v:1048578<=N)(x:w.a7.length<=1048576)(h:M5 N w c m i=some 0):1<=i.op/\i.op<=17:=by
 by_cases l:1<=i.op/\i.op<=17
 ·exact l
 ·exfalso;unfold M5 at h;have n:¬i.op=1:=d9;have o:¬i.op=2:=d9;have p:¬i.op=3:=d9;have q:¬i.op=4:=d9;have r:¬i.op=5:=d9;have n6:¬i.op=6:=d9;have s:¬i.op=7:=d9;have t:¬i.op=8:=d9;have u:¬i.op=9:=d9;have a:¬i.op=10:=d9;have b:¬i.op=11:=d9;have d:¬i.op=12:=d9;have e:¬i.op=13:=d9;have f:¬i.op=14:=d9;have g:¬i.op=15:=d9;have j:¬i.op=16:=d9;have k:¬i.op=17:=d9;simp only[n,o,p,q,r,n6,s,t,u,a,b,d,e,f,g,j,k,RC,R0,A0] at h;cases h
def d77(N:Nat)(w:Wd)(c:Int)(m:Me)(i:Ins)(B:m.code.length<=1048576)(h:M5 N w c m i=some 0)(b:i.op=15\/i.op=16):0<=i.a/\i.a<m.code.length:=by
 have r:wr ((m.code.length:Int)-1)=(m.code.length:Int)-1:=q8 ino;have key:∀o:Int,(o=15\/o=16)->i.op=o->0<=i.a/\i.a<m.code.length:=by
  intro o b p;unfold M5 at h;have s:¬o=1:=d9;have t:¬o=2:=d9;have u:¬o=3:=d9;have v:¬o=4:=d9;have x:¬o=5:=d9;have n6:¬o=6:=d9;have y:¬o=7:=d9;have z:¬o=8:=d9;have A:¬o=9:=d9;have d:¬o=10:=d9;have e:¬o=11:=d9;have f:¬o=12:=d9;have g:¬o=13:=d9;have j:¬o=14:=d9;have k:¬o=17:=d9;have q:((bif decide (o=(15:Int)) then some (decide (o=(15:Int))) else some (decide (o=(16:Int)))):Option Bool)=some true:=by
   rcases b with rfl|rfl<;>rfl
  simp only[p,s,t,u,v,x,n6,y,z,A,d,e,f,g,j,k,q,RC,R0,Qz,A0,r] at h;by_cases l:i.a<0
  ·simp only[l,RB,Qz,A0] at h;cases h
  ·by_cases n:(m.code.length:Int)-1<i.a
   ·simp only[l,n,RB,RC,Qz,R0,A0] at h;cases h
   ·omega
 exact key i.op b rfl
structure BZ(N:Nat)(w:Wd)(k:Int)(m:Me):Prop where
 args:0<=m.args/\m.args<=4
 a8:0<=m.a8/\m.a8<=6
 len:m.code.length<=60
 num:∀i∈m.code,M5 N w k m i=some 0
def Mc(N:Nat)(w:Wd)(k:Int)(m:Me)(f:dK)(y:1048578<=N)(A:w.a7.length<=1048576)(h:jI N w k m=some f)(a:f.err=0):BZ N w k m:=by
 unfold jI at h;simp only[jE,A0] at h;by_cases d:k<0
 ·simp only[d,RB,Qz,A0] at h;cases h;cases a
 by_cases n:(w.a7.length:Int)<=k
 ·simp only[d,n,RB,RC,Qz,R0,A0] at h;cases h;cases a
 simp only[d,n,RC,R0,A0] at h;cases z:W9 m.name with
 |false=>rw[z] at h;simp only[QJ,Qz] at h;cases h;cases a
 |true =>
  rw[z] at h;simp only[IT,R0] at h;by_cases b:m.args<0
  ·simp only[b,RB,Qz,A0] at h;cases h;cases a
  by_cases c:4<m.args
  ·simp only[b,c,RB,RC,Qz,R0,A0] at h;cases h;cases a
  by_cases e:m.a8<0
  ·simp only[b,c,e,RB,RC,Qz,R0,A0] at h;cases h;cases a
  by_cases p:6<m.a8
  ·simp only[b,c,e,p,RB,RC,Qz,R0,A0] at h;cases h;cases a
  simp only[b,c,e,p,RC,R0,A0] at h;by_cases s:m.aS=0
  ·simp only[s,RB,IT,R0] at h;by_cases g:(m.code.length:Int)=0
   ·simp only[g,RB,Qz,A0] at h;cases h;cases a
   by_cases t:(60:Int)<(m.code.length:Int)
   ·simp only[g,t,RB,RC,Qz,R0,A0] at h;cases h;cases a
   simp only[g,t,RC,R0,A0] at h;obtain⟨o,v,B⟩:=yF N w k m y A m.code 0;rw[v] at h;simp only[A0] at h;cases o with
   |next u=>exact⟨d9,d9,d9,B rfl⟩
   |ret r =>
    have h:some r=some f:=h;cases h;exfalso;have key:∀(l:List Ins) (j:Nat) (r:dK),U5 N w k m l j=some (.ret r)->r.err≠0:=by
     intro l
     induction l with
     |nil=>intro j r h;rw[U5] at h;cases h
     |cons x l ih =>
      intro j r h;obtain⟨q,C⟩:=C5 N w k m x y A;rw[U5,C] at h;simp only[A0] at h;by_cases i:q=0
      ·simp only[i,RB,IT,R0] at h;exact ih _ _ h
      ·simp only[i,RC,QJ,Qz] at h;cases h;exact i
    exact key _ _ _ v a
  ·simp only[s,RC,QJ,Qz] at h;cases h;cases a
def Ge{N:Nat}{w:Wd}(e:1048578<=N)(l:w.a7.length<=1048576)(h:K7 N w){k:Nat}{c:Cl}(g:w.a7[k]?=some c){m:Me}(j:m∈c.aB):BZ N w (k:Int) m:=by
 rcases(h.ak k c g).2.2.2 m j with⟨_,p,_,_,_,a,b,d⟩|⟨f,a,b⟩
 ·exact⟨d9,d9,by rw[d];simp,by rw[d];intro i hi;cases hi⟩
 ·exact Mc N w k m f e l a b
structure Leafy(x:Me):Prop where
 args:0<=x.args/\x.args<=4
 a8:0<=x.a8/\x.a8<=6
 len:x.code.length<=60
 op:∀i∈x.code,1<=i.op/\i.op<=17
 jump:∀i∈x.code,(i.op=15\/i.op=16)->0<=i.a/\i.a<x.code.length
def put_eq(N:Nat)(w:Wd)(m:Me)(out:List Ins)(t:Int)(aH fix:List Int)(op a b c:Int)(h:out.length<=1000000):
  I1 N (⟨w,m,out,t,aH,fix⟩:gL) op a b c=some ⟨w,m,out++[⟨op,a,b,c,IS⟩],t,aH,fix⟩:=by
 unfold I1;rw[p9 F5];rfl
def Q8(y:Me):Nat:=3+y.args.toNat+2*y.a8.toNat+y.code.length
def size_eq(N:Nat)(y:Me)(a:Leafy y):tC N y=some ((Q8 y:Nat):Int):=by
 unfold tC Q8;have e:=a.args;have f:=a.a8;have g:=a.len;have e1:wr (3+y.args)=3+y.args:=q8 ino;have b:wr (2*y.a8)=2*y.a8:=q8 ino;have c:wr (3+y.args+2*y.a8)=3+y.args+2*y.a8:=q8 ino;have d:wr (3+y.args+2*y.a8+(y.code.length:Int))=3+y.args+2*y.a8+y.code.length:=q8 ino;rw[e1,b,c,d];congr 1;omega
def Bp(N:Nat)(w:Wd)(l:w.a7.length<=1048576):∀(n:Nat) (k:Nat) (c a:Int),k<=w.a7.length+1->w.a7.length+1-k<n ->
  qR N w n c a (k:Int)=some ((bg w (w.a7.length+1-k) c).foldl (fun n k=>match w.a7[k.toNat]? with|some x=>wr (n+x.aG)|none=>n) a)
 |0,k,c,a,_,h=>d9
 |n+1,k,c,a,p,q=>by
  rw[qR];by_cases b:0<=c
  ·by_cases f:c<w.a7.length
   ·obtain⟨x,i,g⟩:=V7 b f;by_cases o:k<=w.a7.length
    ·have d:(k:Int)<=(w.a7.length:Int):=d9;have e:w.a7.length+1-k=(w.a7.length-k)+1:=d9;have wk:wr ((k:Int)+1)=((k+1:Nat):Int):=by rw[q8 ino];omega
     simp only[b,f,d,RB,Qz,A0,g,wk];rw[Bp N w l n (k+1) _ _ d9 d9,e,bg,RA b,i];simp only[List.foldl_cons,i];rw[show w.a7.length+1-(k+1)=w.a7.length-k by omega]
    ·have d:¬(k:Int)<=(w.a7.length:Int):=d9;have e:w.a7.length+1-k=0:=d9;simp only[b,f,d,RB,RC,Qz,R0,A0,e];rfl
   ·have i:w.a7[c.toNat]?=none:=zk f;simp only[b,f,RB,RC,Qz,R0,A0];cases j:w.a7.length+1-k with
    |zero=>rfl
    |succ m=>rw[bg,RA b,i];rfl
  ·simp only[b,RC,R0,A0];cases j:w.a7.length+1-k with
   |zero=>rfl
   |succ m=>rw[bg,R1 b];rfl
def oN(N:Nat)(w:Wd)(c:Int)(b:1048578<=N)(a:w.a7.length<=1048576):jK N w c=some (l8 w c):=by
 unfold jK l8;have h:=Bp N w a N 0 c 0 d9 d9;simp only[Nat.sub_zero,Int.ofNat_zero] at h;rw[h];rfl
def CQ(N:Nat)(s:ByteArray):∀(n k:Nat),n+k=s.size->oS N s n k=some (if(s.data.toList.drop k).all fa=true then .next () else .ret false)
 |0,k,h=>by
  rw[List.drop_eq_nil_of_le (by rw[show s.data.toList.length=s.size from rfl];omega)];rfl
 |n+1,k,h=>by
  have f:k<s.data.toList.length:=by rw[show s.data.toList.length=s.size from rfl];omega
  rw[oS,List.drop_eq_getElem_cons f,Al,No f,CQ N s n (k+1) d9];simp only[A0,List.all_cons];generalize s.data.toList[k]=u;generalize s.data.toList.drop (k+1)=b;by_cases d:(u.toNat:Int)<=32
  ·have a:(u.toNat:Int)<33:=d9;have e:fa u=false:=by simp[fa,a]
   simp only[d,e,RB,Qz,A0,Bool.false_and];rfl
  ·have a:¬(u.toNat:Int)<33:=d9;by_cases c:126<(u.toNat:Int)
   ·have e:fa u=false:=(by simp only[fa,a,c,RB,RC,IT,Bool.and_false]);simp only[d,c,e,RB,RC,Qz,R0,A0,Bool.false_and];rfl
   ·have e:fa u=true:=(by simp only[fa,a,c,RC,QJ,Bool.and_true]);simp only[d,c,e,RC,R0,A0,Bool.true_and]
def sW(N:Nat)(s:ByteArray):lX N s=some (W9 s):=by
 unfold lX W9;have e:((s.size:Int)-((0:Nat):Int)).toNat=s.size:=d9;rw[e,CQ N s s.size 0 d9,List.drop_zero];by_cases c:(s.size:Int)<1
 ·have a:¬0<s.size:=d9;simp[c,a]
 ·have a:0<s.size:=d9;by_cases d:(12:Int)<(s.size:Int)
  ·have b:¬s.size<=12:=d9;simp[c,d,b]
  ·have b:s.size<=12:=d9;cases h:s.data.toList.all fa<;>simp[c,d,a,b]
def vF{w:Wd}(c:∀x∈w.a7,0<=x.aG/\x.aG<=6):∀(l:List Int) (a:Int),0<=a->a+6*l.length<=100000000 ->
  0<=l.foldl (fun n k=>match w.a7[k.toNat]? with|some x=>wr (n+x.aG)|none=>n) a/\l.foldl (fun n k=>match w.a7[k.toNat]? with|some x=>wr (n+x.aG)|none=>n) a<=a+6*l.length
 |[],a,b,d=>⟨by simpa using b,l9⟩
 |k::l,a,b,d=>by
  simp only[List.foldl_cons,QI] at d⊢;cases e:w.a7[k.toNat]? with
  |none =>
   have:=vF c l a b d9;simp only;omega
  |some x =>
   have:=c x (QM e);simp only;rw[q8 ino];have:=vF c l (a+x.aG) d9 d9;omega
def mY{w:Wd}(a:∀x∈w.a7,0<=x.aG/\x.aG<=6)(b:w.a7.length<=1048576)(c:Int):0<=l8 w c/\l8 w c<=1000000000:=by
 have hl:=wg w (w.a7.length+1) c;have:=vF a (bg w (w.a7.length+1) c) 0 d9 d9;unfold l8;exact⟨this.1,Int.le_trans this.2 d9⟩
def gk(w:Wd)(c:Int)(m:Me)(i:Ins):Option Bool :=
 if i.op=1\/i.op=6\/i.op=7\/i.op=8\/i.op=9\/i.op=10\/i.op=17 then some (decide (i.a=0))
 else if i.op=2 then some (decide (0<=i.a) && decide (i.a<m.args))
 else if i.op=3\/i.op=11 then some (decide (0<=i.a) && decide (i.a<m.a8))
 else if i.op=4\/i.op=12 then some (decide (0<=i.a) && decide (i.a<l8 w c))
 else if i.op=5 then some (decide (-1073741824<=i.a) && decide (i.a<=1073741824))
 else if i.op=13 then some (decide (i.a=0) || (decide (4<=i.a) && decide (i.a<w.a7.length)))
 else if i.op=14 then some (decide (0<=i.a) && decide (i.a<5))
 else if i.op=15\/i.op=16 then some (decide (0<=i.a) && decide (i.a<m.code.length))
 else none
def kC(i:Ins):Bool:=(decide (i.op=14) && !W9 i.name) || (!decide (i.op=14) && !decide (i.name=(⟨#[]⟩:ByteArray))) || !decide (i.b=0) || !decide (i.c=0)
def cS(w:Wd)(c:Int)(m:Me)(i:Ins):Int:=match gk w c m i with
 |none=>1
 |some ok=>if ok=true then(if kC i=true then 2 else 0) else 3
def HV(N:Nat)(a b:Int):lu N a b=some (decide (0<=a) && decide (a<b)):=by
 unfold lu;by_cases h:0<=a<;>simp[h]
def JI(N:Nat)(w:Wd)(c:Int)(m:Me)(i:Ins)(L:1048578<=N)(O:w.a7.length<=1048576):vm N w c m i=some (cS w c m i):=by
 unfold vm cS gk kC;simp only[oN N w c L O,sW,HV,A0];generalize decide (i.b=0)=B;generalize decide (i.c=0)=C;generalize decide (i.name=(⟨#[]⟩:ByteArray))=E;generalize decide (i.a=0)=d;generalize decide (0<=i.a)=e;generalize decide (i.a<m.args)=F;generalize decide (i.a<m.a8)=q;generalize decide (i.a<l8 w c)=r;generalize decide (-1073741824<=i.a)=G;generalize decide (i.a<=1073741824)=H;generalize decide (4<=i.a)=I;generalize decide (i.a<(w.a7.length:Int))=J;generalize decide (i.a<5)=K;generalize decide (i.a<(m.code.length:Int))=f;generalize W9 i.name=M;by_cases s:i.op=1
 ·simp only[s];cases d<;>cases B<;>cases C<;>cases E<;>simp
 by_cases y:i.op=6
 ·simp only[y];cases d<;>cases B<;>cases C<;>cases E<;>simp
 by_cases z:i.op=7
 ·simp only[z];cases d<;>cases B<;>cases C<;>cases E<;>simp
 by_cases A:i.op=8
 ·simp only[A];cases d<;>cases B<;>cases C<;>cases E<;>simp
 by_cases D:i.op=9
 ·simp only[D];cases d<;>cases B<;>cases C<;>cases E<;>simp
 by_cases g:i.op=10
 ·simp only[g];cases d<;>cases B<;>cases C<;>cases E<;>simp
 by_cases p:i.op=17
 ·simp only[p];cases d<;>cases B<;>cases C<;>cases E<;>simp
 by_cases t:i.op=2
 ·simp only[t];cases e<;>cases F<;>cases B<;>cases C<;>cases E<;>simp
 by_cases u:i.op=3
 ·simp only[u];cases e<;>cases q<;>cases B<;>cases C<;>cases E<;>simp
 by_cases h:i.op=11
 ·simp only[h];cases e<;>cases q<;>cases B<;>cases C<;>cases E<;>simp
 by_cases v:i.op=4
 ·simp only[v];cases e<;>cases r<;>cases B<;>cases C<;>cases E<;>simp
 by_cases j:i.op=12
 ·simp only[j];cases e<;>cases r<;>cases B<;>cases C<;>cases E<;>simp
 by_cases x:i.op=5
 ·simp only[x];cases G<;>cases H<;>cases B<;>cases C<;>cases E<;>simp
 by_cases k:i.op=13
 ·simp only[k];cases d<;>cases I<;>cases J<;>cases B<;>cases C<;>cases E<;>simp
 by_cases l:i.op=14
 ·simp only[l];cases e<;>cases K<;>cases B<;>cases C<;>cases M<;>simp
 by_cases n:i.op=15
 ·simp only[n];cases e<;>cases f<;>cases B<;>cases C<;>cases E<;>simp
 by_cases o:i.op=16
 ·simp only[o];cases e<;>cases f<;>cases B<;>cases C<;>cases E<;>simp
 simp[s,y,z,A,D,g,p,t,u,h,v,j,x,k,l,n,o]
def Bk(N:Nat)(w:Wd)(c:Int)(m:Me)(i:Ins)(I:1048578<=N)(J:w.a7.length<=1048576)(hl:1<=w.a7.length)(O:0<=m.args/\m.args<=1000)(Q:0<=m.a8/\m.a8<=1000)(K:0<=l8 w c/\l8 w c<=1000000000)(P:m.code.length<=1048576):M5 N w c m i=some (cS w c m i):=by
 unfold M5 cS gk kC;simp only[Y7 N w c I J,jE,A0,q8 (show H8 (m.args-1) by unfold H8;omega),q8 (show H8 (m.a8-1) by unfold H8;omega),q8 (show H8 (l8 w c-1) by unfold H8;omega),
  q8 (show H8 ((w.a7.length:Int)-1) by unfold H8;omega),q8 (show H8 ((m.code.length:Int)-1) by unfold H8;omega)]
 by_cases o:i.op=13
 ·have L:(!decide (i.op=14))=true:=by rw[o];rfl
  simp only[o];rcases(by omega:i.a<0\/i.a=0\/(0<i.a/\i.a<4)\/4<=i.a) with h|h|h|h
  ·simp[h,show¬i.a=0 by omega,show¬0<i.a by omega,show¬4<=i.a by omega]
  ·have G:¬((w.a7.length:Int)-1<0):=d9;have q:¬((w.a7.length:Int)<1):=d9;generalize decide (i.b=0)=B;generalize decide (i.c=0)=C;generalize decide (i.name=(⟨#[]⟩:ByteArray))=E;simp only[h];cases B<;>cases C<;>cases E<;>simp[G]
  ·simp[h.1,h.2,show¬i.a=0 by omega,show¬4<=i.a by omega]
  ·have G:¬i.a<4:=d9;have q:¬i.a<0:=d9;have r:¬i.a=0:=d9;have s:0<i.a:=d9;generalize decide (i.b=0)=B;generalize decide (i.c=0)=C;generalize decide (i.name=(⟨#[]⟩:ByteArray))=E;by_cases H:i.a<(w.a7.length:Int)
   ·have p:¬((w.a7.length:Int)-1<i.a):=d9;cases B<;>cases C<;>cases E<;>simp[G,q,r,s,h,H,p]
   ·have p:((w.a7.length:Int)-1<i.a):=d9;simp[G,q,r,s,h,H,p]
 generalize decide (i.b=0)=B;generalize decide (i.c=0)=C;generalize decide (i.name=(⟨#[]⟩:ByteArray))=E;generalize W9 i.name=M;by_cases t:i.op=1
 ·rcases Int.lt_trichotomy i.a 0 with h|h|h
  ·simp[t,h,show¬i.a=0 by omega]
  ·cases B<;>cases C<;>cases E<;>simp[t,h]
  ·simp[t,h,show¬i.a<0 by omega,show¬i.a=0 by omega]
 by_cases z:i.op=6
 ·rcases Int.lt_trichotomy i.a 0 with h|h|h
  ·simp[z,h,show¬i.a=0 by omega]
  ·cases B<;>cases C<;>cases E<;>simp[z,h]
  ·simp[z,h,show¬i.a<0 by omega,show¬i.a=0 by omega]
 by_cases A:i.op=7
 ·rcases Int.lt_trichotomy i.a 0 with h|h|h
  ·simp[A,h,show¬i.a=0 by omega]
  ·cases B<;>cases C<;>cases E<;>simp[A,h]
  ·simp[A,h,show¬i.a<0 by omega,show¬i.a=0 by omega]
 by_cases D:i.op=8
 ·rcases Int.lt_trichotomy i.a 0 with h|h|h
  ·simp[D,h,show¬i.a=0 by omega]
  ·cases B<;>cases C<;>cases E<;>simp[D,h]
  ·simp[D,h,show¬i.a<0 by omega,show¬i.a=0 by omega]
 by_cases F:i.op=9
 ·rcases Int.lt_trichotomy i.a 0 with h|h|h
  ·simp[F,h,show¬i.a=0 by omega]
  ·cases B<;>cases C<;>cases E<;>simp[F,h]
  ·simp[F,h,show¬i.a<0 by omega,show¬i.a=0 by omega]
 by_cases e:i.op=10
 ·rcases Int.lt_trichotomy i.a 0 with h|h|h
  ·simp[e,h,show¬i.a=0 by omega]
  ·cases B<;>cases C<;>cases E<;>simp[e,h]
  ·simp[e,h,show¬i.a<0 by omega,show¬i.a=0 by omega]
 by_cases n:i.op=17
 ·rcases Int.lt_trichotomy i.a 0 with h|h|h
  ·simp[n,h,show¬i.a=0 by omega]
  ·cases B<;>cases C<;>cases E<;>simp[n,h]
  ·simp[n,h,show¬i.a<0 by omega,show¬i.a=0 by omega]
 by_cases u:i.op=2
 ·by_cases h:0<=i.a
  ·by_cases d:i.a<m.args
   ·cases B<;>cases C<;>cases E<;>simp[u,h,d,show¬i.a<0 by omega,show¬(m.args-1<i.a) by omega]
   ·simp[u,h,d,show¬i.a<0 by omega,show(m.args-1<i.a) by omega]
  ·simp[u,h,show i.a<0 by omega]
 by_cases v:i.op=3
 ·by_cases h:0<=i.a
  ·by_cases d:i.a<m.a8
   ·cases B<;>cases C<;>cases E<;>simp[v,h,d,show¬i.a<0 by omega,show¬(m.a8-1<i.a) by omega]
   ·simp[v,h,d,show¬i.a<0 by omega,show(m.a8-1<i.a) by omega]
  ·simp[v,h,show i.a<0 by omega]
 by_cases f:i.op=11
 ·by_cases h:0<=i.a
  ·by_cases d:i.a<m.a8
   ·cases B<;>cases C<;>cases E<;>simp[f,h,d,show¬i.a<0 by omega,show¬(m.a8-1<i.a) by omega]
   ·simp[f,h,d,show¬i.a<0 by omega,show(m.a8-1<i.a) by omega]
  ·simp[f,h,show i.a<0 by omega]
 by_cases x:i.op=4
 ·by_cases h:0<=i.a
  ·by_cases d:i.a<l8 w c
   ·cases B<;>cases C<;>cases E<;>simp[x,h,d,show¬i.a<0 by omega,show¬(l8 w c-1<i.a) by omega]
   ·simp[x,h,d,show¬i.a<0 by omega,show(l8 w c-1<i.a) by omega]
  ·simp[x,h,show i.a<0 by omega]
 by_cases g:i.op=12
 ·by_cases h:0<=i.a
  ·by_cases d:i.a<l8 w c
   ·cases B<;>cases C<;>cases E<;>simp[g,h,d,show¬i.a<0 by omega,show¬(l8 w c-1<i.a) by omega]
   ·simp[g,h,d,show¬i.a<0 by omega,show(l8 w c-1<i.a) by omega]
  ·simp[g,h,show i.a<0 by omega]
 by_cases y:i.op=5
 ·by_cases h:-1073741824<=i.a
  ·by_cases d:i.a<=1073741824
   ·cases B<;>cases C<;>cases E<;>simp[y,h,d,show¬i.a < -1073741824 by omega,show¬(1073741824<i.a) by omega]
   ·simp[y,h,d,show¬i.a < -1073741824 by omega,show(1073741824<i.a) by omega]
  ·simp[y,h,show i.a < -1073741824 by omega]
 by_cases j:i.op=14
 ·by_cases h:0<=i.a
  ·by_cases d:i.a<5
   ·cases B<;>cases C<;>cases M<;>simp[j,h,d,show¬i.a<0 by omega,show¬(4<i.a) by omega]
   ·simp[j,h,d,show¬i.a<0 by omega,show(4<i.a) by omega]
  ·simp[j,h,show i.a<0 by omega]
 by_cases k:i.op=15
 ·by_cases h:0<=i.a
  ·by_cases d:i.a<(m.code.length:Int)
   ·cases B<;>cases C<;>cases E<;>simp[k,h,d,show¬i.a<0 by omega,show¬((m.code.length:Int)-1<i.a) by omega]
   ·simp[k,h,d,show¬i.a<0 by omega,show((m.code.length:Int)-1<i.a) by omega]
  ·simp[k,h,show i.a<0 by omega]
 by_cases l:i.op=16
 ·by_cases h:0<=i.a
  ·by_cases d:i.a<(m.code.length:Int)
   ·cases B<;>cases C<;>cases E<;>simp[l,h,d,show¬i.a<0 by omega,show¬((m.code.length:Int)-1<i.a) by omega]
   ·simp[l,h,d,show¬i.a<0 by omega,show((m.code.length:Int)-1<i.a) by omega]
  ·simp[l,h,show i.a<0 by omega]
 simp[t,u,v,x,y,z,A,D,F,e,f,g,o,j,k,l,n]
def Lh(N:Nat)(i:Ins)(p:Int)(h:i.op=14->0<=i.a/\i.a<=4):∃g,w8 N i=some ((U0 i p).1,g)/\wr (g-(U0 i p).1)=(U0 i p).2.1:=by
 unfold w8 U0;by_cases l:i.op=9
 ·exact⟨0,by simp[l],by simp[l];rw[q8 ino]⟩
 by_cases d:i.op=11
 ·exact⟨0,by simp[d],by simp[d];rw[q8 ino]⟩
 by_cases e:i.op=12
 ·exact⟨0,by simp[e],by simp[e];rw[q8 ino]⟩
 by_cases j:i.op=16
 ·exact⟨0,by simp[j],by simp[j];rw[q8 ino]⟩
 by_cases k:i.op=17
 ·exact⟨0,by simp[k],by simp[k];rw[q8 ino]⟩
 by_cases c:i.op=10
 ·exact⟨2,by simp[c],by simp[c];rw[q8 ino]⟩
 by_cases b:i.op=14
 ·have:=h b;exact⟨1,by simp[b],by simp[b];rw[q8 (show H8 (i.a+1) by unfold H8;omega),q8 ino];omega⟩
 by_cases f:i.op=15
 ·exact⟨0,by simp[f],by simp[f];rw[q8 ino]⟩
 exact⟨1,by simp[l,c,d,e,b,f,j,k],by simp[l,c,d,e,b,f,j,k];rw[q8 ino]⟩
def Bd(N:Nat):∀(n k:Nat) (v:List Int),n+k=v.length->lg N n k v=some (v.take k++QH n (-1))
 |0,k,v,h=>by rw[lg,List.take_of_length_le d9];simp
 |n+1,k,v,h=>by
  have a:k<v.length:=d9;rw[lg,q9,No a];simp only[A0,Qc];rw[Bd N n (k+1) _ F5];congr 1;rw[List.take_add_one,List.take_set_of_le (NO _),List.getElem?_set_self a,List.replicate_succ];simp
def fe(a:eI):Int×Int:=(a.f0,a.f1)
def iO(i:Ins)(p h:Int)(q:List eI):List eI :=
 let b:=if i.op=15\/i.op=17 then q else q++[⟨wr (p+1),h⟩]
 if i.op=15\/i.op=16 then b++[⟨i.a,h⟩] else b
def zY(i:Ins)(p h:Int)(q:List eI):(iO i p h q).map fe=q.map fe++(U0 i p).2.2.map fun x=>(x,h):=by
 unfold iO U0;by_cases e:i.op=15
 ·simp[e,fe]
 by_cases f:i.op=16
 ·simp[f,fe]
 by_cases g:i.op=17
 ·simp[g]
 by_cases j:i.op=9
 ·simp[j,fe]
 by_cases b:i.op=11
 ·simp[b,fe]
 by_cases c:i.op=12
 ·simp[c,fe]
 by_cases a:i.op=10
 ·simp[a,fe]
 by_cases d:i.op=14
 ·simp[d,fe]
 simp[e,f,g,j,b,c,a,d,fe]
def yL(N:Nat)(m:Me)(B:nD m)(I:m.code.length<=1048576):∀(n:Nat) (h:List Int) (q:List eI),q.length+2*ko h<=4194304->h.length=m.code.length ->
  lL (q.map fe)->oD N m n h q=cK m n h (q.map fe)
 |0,_,_,_,_,_=>rfl
 |n+1,h,[],_,_,_=>by
  rw[oD];simp[cK]
 |n+1,h,⟨p,x⟩::q,hb,hh,ho=>by
  rw[oD];have D:=ho (p,x) (by simp[fe]);have J:lL (q.map fe):=fun z c=>ho z (by rw[QO];exact Qp _ c);have l:(0:Int)<(((⟨p,x⟩:eI)::q).length:Int):=by simp only[QI];omega
  have K:(decide (0<=(1:Int)) && decide ((1:Int)<=(((⟨p,x⟩:eI)::q).length:Int)))=true:=by simp only[It,RF,QI];omega
  have C:j3 ((⟨p,x⟩:eI)::q) (0:Int)=some ⟨p,x⟩:=rfl;have hd:((⟨p,x⟩:eI)::q).drop (1:Int).toNat=q:=rfl;simp only[QI] at hb;rw[QO,show fe ⟨p,x⟩=(p,x) from rfl,cK];simp only[l,RB,Qz,C,A0,K,hd];by_cases a:p<0
  ·simp only[a,RB,Qz,A0,or_true,if_true]
  by_cases E:(m.code.length:Int)<=p
  ·simp only[E,a,RB,RC,Qz,R0,A0,true_or,if_true]
  simp only[E,a,RC,R0,A0,or_self,if_false];have r:p.toNat<m.code.length:=d9;have o:0<=p:=d9;have e1:h[p.toNat]?=some (h[p.toNat]' d9):=No d9;have u:m.code[p.toNat]?=some m.code[p.toNat]:=No r;generalize h[p.toNat]' d9=y at e1;have hi:=B _ (List.getElem_mem r);generalize m.code[p.toNat]=i at u hi;have O:j3 h p=some y:=by rw[fC o,e1]
  have P:j3 m.code p=some i:=by rw[fC o,u]
  obtain⟨g,v,w⟩:=Lh N i p hi;simp only[O,P,e1,u,A0,v,w];by_cases F:0<=y
  ·simp only[F,RB,Qz,if_true];by_cases b:y=x
   ·simp only[b,RB,IT,R0,A0,if_true];exact yL N m B I n h q d9 hh J
   ·simp only[b,RC,QJ,Qz,A0,if_false]
  simp only[F,RC,R0,if_false];by_cases b:x<(U0 i p).1
  ·simp only[b,RB,Qz,A0,true_or,if_true]
  by_cases s:i.op=17/\x≠1
  ·simp only[b,s.1,s.2,RB,RC,Qz,R0,A0,QJ,or_true,if_true,ne_eq,not_false_eq_true,and_self]
  have M:((bif decide (i.op=(17:Int)) then some ((!decide (x=(1:Int)))) else some (false)):Option Bool)=some false:=by
   by_cases d:i.op=17
   ·by_cases G:x=1
    ·simp[G]
    ·exact absurd ⟨d,G⟩ s
   ·simp[d]
  simp only[b,s,M,RC,R0,A0,or_self,if_false];by_cases d:12<wr (x+(U0 i p).2.1)
  ·simp only[d,RB,Qz,A0,if_true]
  simp only[d,RC,R0,if_false];have k:=wb D.1 D.2 b d hi;have Q:=zV (y:=x) e1 d9 D.1;have L:=Aa i p;have A:=congrArg List.length (zY i p (wr (x+(U0 i p).2.1)) q);simp only[QU,Of] at A;have go:=yL N m B I n (h.set p.toNat x) (iO i p (wr (x+(U0 i p).2.1)) q) d9 (by simpa using hh) (by
   rw[zY];intro z c;rcases QS.1 c with c|c
   ·exact J z c
   ·obtain⟨z,_,rfl⟩:=QT.1 c;exact⟨k.1,k.2.1⟩)
  rw[zY] at go;rw[<-go];generalize wr (x+(U0 i p).2.1)=H;have t:AT ((q.length+1)*16) 140737488355328=true:=p9 d9;have c3:AT ((q.length+1+1)*16) 140737488355328=true:=p9 d9;unfold iO;by_cases e:i.op=15
  ·simp[e,t]
  by_cases f:i.op=16
  ·simp[f,t,c3]
  by_cases j:i.op=17
  ·simp[j]
  simp[e,f,j,t]
def J0(N:Nat)(m:Me)(c:nD m)(b:m.code.length<=1048576):vi N m=(cK m N (QH m.code.length (-1)) [(0,0)]).map rU:=by
 unfold vi;have e0:(decide (0<=(m.code.length:Int)) && decide ((m.code.length:Int)<=140737488355328) && decide ((m.code.length:Int)*8<=140737488355328))=true:=by
  simp only[It,RF];omega
 have e1:(((QH (m.code.length:Int).toNat (0:Int)).length:Int)-((0:Nat):Int)).toNat=m.code.length:=l9;rw[e0,e1,Bd N _ 0 _ l9];simp only[Qz,A0,List.take_zero,Qd];have h:=yL N m c b N (QH m.code.length (-1)) [⟨0,0⟩] (by rw[wW];simp;omega) l9 (by
  intro q a;simp only[QO,List.map_nil,fe,QG,List.not_mem_nil,or_false] at a;subst a;decide)
 rw[h];show _=(cK m N (QH m.code.length (-1)) [(0,0)]).map rU;rw[show([(⟨0,0⟩:eI)].map fe)=[((0:Int),(0:Int))] from rfl];cases cK m N (QH m.code.length (-1)) [(0,0)] with
 |none=>rfl
 |some o=>cases o<;>rfl
structure d46(m:Me)(h:List Int)(q:List (Int×Int)):Prop where
 len:h.length=m.code.length
 aH:∀(k:Nat) (y:Int) (i:Ins),h[k]?=some y->0<=y->m.code[k]?=some i->(U0 i k).1<=y/\y<=12/\(i.op=17->y=1)/\0<=wr (y+(U0 i k).2.1) /\
  ∀to∈(U0 i k).2.2,(to,wr (y+(U0 i k).2.1))∈q\/(0<=to/\h[to.toNat]?=some (wr (y+(U0 i k).2.1)))
def Ai(m:Me)(P:nD m):∀(n:Nat) (h:List Int) (q:List (Int×Int)) (l:List Int),cK m n h q=some (.next l)->d46 m h q->lL q ->
  d46 m l []/\(∀(k:Nat) y,h[k]?=some y->0<=y->l[k]?=some y)/\∀z∈q,0<=z.1/\l[z.1.toNat]?=some z.2
 |0,h,q,l,e,_,_=>by cases e
 |n+1,h,[],l,e,hi,_=>by
  rw[cK] at e;cases e;exact⟨hi,fun _ _ h _=>h,fun z a=>by cases a⟩
 |n+1,h,(p,x)::r,l,e,hi,ho=>by
  rw[cK] at e;have D:=ho (p,x) l9;have T:lL r:=fun z a=>ho z (by simp[a]);by_cases R:(m.code.length:Int)<=p\/p<0
  ·rw[RA R] at e;cases e
  rw[R1 R] at e;have hl:=hi.len;have S:p.toNat<m.code.length:=d9;have B:0<=p:=d9;have e1:h[p.toNat]?=some (h[p.toNat]' d9):=No d9;have L:m.code[p.toNat]?=some m.code[p.toNat]:=No S;generalize h[p.toNat]' d9=y at e1;have v:=P _ (List.getElem_mem S);generalize m.code[p.toNat]=i at L v;rw[e1,L] at e;simp only at e;by_cases C:0<=y
  ·rw[RA C] at e;by_cases o:y=x
   ·rw[RA o] at e;subst o;obtain⟨E,s,F⟩:=Ai m P n h r l e ⟨hl,fun k z j g a A=>by
     obtain⟨G,H,I,J,K⟩:=hi.aH k z j g a A;refine⟨G,H,I,J,fun to f=>?_⟩;rcases K to f with c|c
     ·rcases QG.1 c with c|c
      ·have t:=congrArg Prod.fst c;have u:=congrArg Prod.snd c;simp only at t u;exact .inr ⟨d9,by rw[t,u];exact e1⟩
      ·exact .inl c
     ·exact .inr c⟩ T
    exact⟨E,s,fun z a=>by
     rcases QG.1 a with rfl|a
     ·exact⟨B,s _ _ e1 C⟩
     ·exact F z a⟩
   ·rw[R1 o] at e;cases e
  rw[R1 C] at e;by_cases o:x<(U0 i p).1\/(i.op=17/\x≠1)
  ·rw[RA o] at e;cases e
  rw[R1 o] at e;by_cases N:12<wr (x+(U0 i p).2.1)
  ·rw[RA N] at e;cases e
  rw[R1 N] at e;have O:=wb D.1 D.2 (fun h=>o (IN h)) N v;have Q:((p.toNat:Nat):Int)=p:=d9;have d:(h.set p.toNat x)[p.toNat]?=some x:=List.getElem?_set_self d9;obtain⟨E,s,F⟩:=Ai m P n (h.set p.toNat x) _ l e ⟨by simpa using hl,fun k z j g a A=>by
   by_cases b:k=p.toNat
   ·subst b;rw[d] at g;cases g;rw[L] at A;cases A;rw[Q];refine⟨by have:¬x<(U0 i p).1:=fun h=>o (IN h);omega,D.2,fun M=>Decidable.byContradiction fun h=>o (Or.inr ⟨M,h⟩),O.1,fun to f=>.inl ?_⟩;exact List.mem_append_right _ (QT.2 ⟨to,f,rfl⟩)
   ·rw[List.getElem?_set_ne (fun h=>b h.symm)] at g;obtain⟨G,H,I,J,K⟩:=hi.aH k z j g a A;refine⟨G,H,I,J,fun to f=>?_⟩;rcases K to f with c|c
    ·rcases QG.1 c with c|c
     ·have t:=congrArg Prod.fst c;have u:=congrArg Prod.snd c;simp only at t u;exact .inr ⟨d9,by rw[t,u];exact d⟩
     ·exact .inl (List.mem_append_left _ c)
    ·refine .inr ⟨c.1,?_⟩;by_cases U:to.toNat=p.toNat
     ·rw[U,e1] at c;have:=Option.some.inj c.2;omega
     ·rw[List.getElem?_set_ne (fun h=>U h.symm)];exact c.2⟩ (fun z a=>by
   rcases QS.1 a with a|a
   ·exact T z a
   ·obtain⟨w,_,rfl⟩:=QT.1 a;exact⟨O.1,O.2.1⟩)
  refine⟨E,fun k z g a=>?_,fun z a=>?_⟩
  ·by_cases b:k=p.toNat
   ·subst b;rw[e1] at g;cases g;exact absurd a C
   ·exact s k z (by rw[List.getElem?_set_ne (fun h=>b h.symm)];exact g) a
  ·rcases QG.1 a with rfl|a
   ·exact⟨B,s _ _ d D.1⟩
   ·exact F z (List.mem_append_left _ a)
def FT(m:Me):∀(n:Nat) (h:List Int) (q:List (Int×Int)) (r:List Int×dK),cK m n h q=some (.ret r)->r.2.err≠0
 |0,h,q,r,e=>by cases e
 |n+1,h,[],r,e=>by rw[cK] at e;cases e
 |n+1,h,(p,x)::l,r,e=>by
  rw[cK] at e
  (repeat' split at e)<;>first|(cases e;done)|(cases e;simp;done)|exact FT m n _ _ r e
def NA(m:Me):d46 m (QH m.code.length (-1)) [(0,0)] :=
 ⟨l9,fun k y i a b _=>by
  rw[List.getElem?_replicate] at a;split at a
  ·cases a;omega
  ·cases a⟩
def FQ : lL [(0,0)]:=by
 intro q a;simp only[QG,List.not_mem_nil,or_false] at a;subst a;decide
def ee(w:Wd)(c:Int)(m:Me):List Ins->Nat->M7 dK Unit
 |[],_=>.next ()
 |i::l,k=>if cS w c m i=0 then ee w c m l (k+1) else .ret ⟨cS w c m i,k⟩
def qo{w:Wd}{c:Int}{m:Me}:∀{l:List Ins} {k:Nat},ee w c m l k=.next ()->∀i∈l,cS w c m i=0
 |[],_,_,i,hi=>by cases hi
 |x::l,k,h,i,hi=>by
  rw[ee] at h;split at h
  ·rename_i a;rcases QG.1 hi with rfl|hi
   ·exact a
   ·exact qo h i hi
  ·cases h
def d39{w:Wd}{c:Int}{m:Me}:∀{l:List Ins} {k:Nat} {r:dK},ee w c m l k=.ret r->r.err≠0
 |[],_,_,h=>by cases h
 |x::l,k,r,h=>by
  rw[ee] at h;split at h
  ·exact d39 h
  ·rename_i a;cases h;exact a
def wU{w:Wd}{c:Int}{m:Me}{i:Ins}(h:cS w c m i=0)(e:i.op=14):0<=i.a/\i.a<=4:=by
 unfold cS gk at h;simp only[e] at h;by_cases b:0<=i.a
 ·by_cases d:i.a<5
  ·omega
  ·simp[b,d] at h
 ·simp[b] at h
def aj(N:Nat)(w:Wd)(c:Int)(m:Me):Option dK :=
 if c<0\/(w.a7.length:Int)<=c then some ⟨6,0⟩ else if W9 m.name=false then some ⟨7,0⟩
 else if m.args<0\/4<m.args\/m.a8<0\/6<m.a8 then some ⟨3,0⟩ else if m.aS≠0 then some ⟨1,0⟩
 else if m.code.length<1\/60<m.code.length then some ⟨5,0⟩ else match ee w c m m.code 0 with
  |.ret r=>some r
  |.next ()=>((cK m N (QH m.code.length (-1)) [(0,0)]).map rU).map (·.2)
def CS(N:Nat)(w:Wd)(c:Int)(m:Me)(a:1048578<=N)(b:w.a7.length<=1048576):∀(l:List Ins) (k:Nat),oa N w c m l k=some (ee w c m l k)
 |[],k=>rfl
 |x::l,k=>by
  rw[oa,ee,JI N w c m x a b];simp only[A0];by_cases h:cS w c m x=0
  ·simp only[h,RB,IT,R0,if_true];exact CS N w c m a b l (k+1)
  ·simp only[h,RC,QJ,Qz,if_false]
def yC(N:Nat)(w:Wd)(c:Int)(m:Me)(p:1048578<=N)(t:w.a7.length<=1048576):tG N w c m=aj N w c m:=by
 unfold tG aj;simp only[sW,A0,CS N w c m p t];by_cases a:c<0
 ·simp[a]
 by_cases d:(w.a7.length:Int)<=c
 ·simp[a,d]
 cases v:W9 m.name with
 |false=>simp[a,d]
 |true =>
  by_cases f:m.args<0
  ·simp[a,d,f]
  by_cases g:4<m.args
  ·simp[a,d,f,g]
  by_cases h:m.a8<0
  ·simp[a,d,f,g,h]
  by_cases k:6<m.a8
  ·simp[a,d,f,g,h,k]
  by_cases l:m.aS=0
  ·by_cases n:m.code.length<1
   ·have e:(m.code.length:Int)<1:=d9;simp only[a,d,f,g,h,k,l,n,e,RB,RC,Qz,R0,A0,or_self,if_false,IT,QJ,or_true,true_or,if_true,ne_eq,not_true,not_false_eq_true,Bool.true_eq_false]
   ·have e:¬(m.code.length:Int)<1:=d9;by_cases j:60<m.code.length
    ·have b:(60:Int)<(m.code.length:Int):=d9;simp only[a,d,f,g,h,k,l,n,e,j,b,RB,RC,Qz,R0,A0,or_self,if_false,IT,QJ,or_true,true_or,if_true,ne_eq,not_true,not_false_eq_true,Bool.true_eq_false]
    ·have b:¬(60:Int)<(m.code.length:Int):=d9;simp only[a,d,f,g,h,k,l,n,e,j,b,RB,RC,Qz,R0,A0,or_self,if_false,IT,QJ,ne_eq,not_true,not_false_eq_true,Bool.true_eq_false];cases q:ee w c m m.code 0 with
     |ret r=>rfl
     |next u =>
      simp only[J0 N m (fun i hi s=>wU (qo q i hi) s) d9];generalize (cK m N (QH m.code.length (-1)) [(0,0)]).map rU=o;cases o<;>rfl
  ·simp[a,d,f,g,h,k,l]
structure BI(N:Nat)(w:Wd)(c:Int)(m:Me):Prop where
 cls:0<=c/\c<w.a7.length
 name:W9 m.name=true
 args:0<=m.args/\m.args<=4
 a8:0<=m.a8/\m.a8<=6
 aS:m.aS=0
 len:1<=m.code.length/\m.code.length<=60
 num:∀i∈m.code,cS w c m i=0
 neg:nD m
 cK:∃h,cK m N (QH m.code.length (-1)) [(0,0)]=some (.next h)
def ER{N:Nat}{w:Wd}{c:Int}{m:Me}{f:dK}(h:aj N w c m=some f)(a:f.err=0):BI N w c m:=by
 unfold aj at h;by_cases g:c<0\/(w.a7.length:Int)<=c
 ·rw[RA g] at h;cases h;cases a
 rw[R1 g] at h;by_cases j:W9 m.name=false
 ·rw[RA j] at h;cases h;cases a
 rw[R1 j] at h;by_cases k:m.args<0\/4<m.args\/m.a8<0\/6<m.a8
 ·rw[RA k] at h;cases h;cases a
 rw[R1 k] at h;by_cases e:m.aS≠0
 ·rw[RA e] at h;cases h;cases a
 rw[R1 e] at h;by_cases l:m.code.length<1\/60<m.code.length
 ·rw[RA l] at h;cases h;cases a
 rw[R1 l] at h;cases b:ee w c m m.code 0 with
 |ret r=>rw[b] at h;cases h;exact absurd a (d39 b)
 |next u =>
  rw[b] at h;simp only at h;refine⟨d9,by cases p:W9 m.name<;>simp_all,d9,d9,Decidable.byContradiction e,d9,fun i hi=>qo b i hi,fun i hi d=>wU (qo b i hi) d,?_⟩;cases d:Go.Proofs.YtibjcppjfkamhaaGreatDoor.cK m N (QH m.code.length (-1)) [(0,0)] with
  |none=>rw[d] at h;cases h
  |some o =>
   rw[d] at h;cases o with
   |ret r=>cases h;exact absurd a (FT m _ _ _ _ d)
   |next n=>exact⟨n,rfl⟩
def yu(N:Nat)(w:Wd)(c:Int)(m:Me)(e:4194304<=N):∃f,aj N w c m=some f:=by
 unfold aj
 (repeat' split)<;>first|exact⟨_,rfl⟩|skip
 rename_i d _ _ b;obtain⟨o,a⟩:=wy m (fun i hi a=>wU (qo b i hi) a) N (QH m.code.length (-1)) [(0,0)] l9 FQ (by rw[wW];simp;omega);rw[a];exact⟨_,rfl⟩
def Bg(N:Nat)(w:Wd)(c:Int)(m:Me)(a:∀i,M5 N w c m i=some (cS w c m i)):∀(l:List Ins) (k:Nat),U5 N w c m l k=some (ee w c m l k)
 |[],k=>rfl
 |x::l,k=>by
  rw[U5,ee,a x];simp only[A0];by_cases h:cS w c m x=0
  ·simp only[h,RB,IT,R0,if_true];exact Bg N w c m a l (k+1)
  ·simp only[h,RC,QJ,Qz,if_false]
def rp(N:Nat)(w:Wd)(c:Int)(m:Me)(q:1048578<=N)(x:w.a7.length<=1048576)(p:0<=l8 w c/\l8 w c<=1000000000):jI N w c m=aj N w c m:=by
 unfold jI aj;simp only[jE,A0];by_cases a:c<0
 ·simp[a]
 by_cases d:(w.a7.length:Int)<=c
 ·simp[a,d]
 cases y:W9 m.name with
 |false=>simp[a,d]
 |true =>
  by_cases f:m.args<0
  ·simp[a,d,f]
  by_cases g:4<m.args
  ·simp[a,d,f,g]
  by_cases h:m.a8<0
  ·simp[a,d,f,g,h]
  by_cases k:6<m.a8
  ·simp[a,d,f,g,h,k]
  by_cases l:m.aS=0
  ·by_cases n:m.code.length<1
   ·have e:(m.code.length:Int)=0:=d9;simp only[a,d,f,g,h,k,l,n,e,RB,RC,Qz,R0,A0,or_self,if_false,IT,QJ,or_true,true_or,if_true,ne_eq,not_true,not_false_eq_true,Bool.true_eq_false]
   ·have e:¬(m.code.length:Int)=0:=d9;by_cases j:60<m.code.length
    ·have b:(60:Int)<(m.code.length:Int):=d9;simp only[a,d,f,g,h,k,l,n,e,j,b,RB,RC,Qz,R0,A0,or_self,if_false,IT,QJ,or_true,true_or,if_true,ne_eq,not_true,not_false_eq_true,Bool.true_eq_false]
    ·have b:¬(60:Int)<(m.code.length:Int):=d9;have t:∀i,M5 N w c m i=some (cS w c m i):=fun i=>Bk N w c m i q x d9 d9 d9 p d9;simp only[a,d,f,g,h,k,l,n,e,j,b,RB,RC,R0,A0,or_self,if_false,IT,ne_eq,not_true,Bool.true_eq_false,Bg N w c m t];cases s:ee w c m m.code 0 with
     |ret r=>rfl
     |next u =>
      simp only[Bs N m (fun i hi v=>wU (qo s i hi) v) d9];generalize (cK m N (QH m.code.length (-1)) [(0,0)]).map rU=o;cases o<;>rfl
  ·simp[a,d,f,g,h,k,l]
def IB(N:Nat){l:List Ins}(h:l.length<=1048576):vH N l=some l:=by
 unfold vH;rw[p9 d9];rfl
def vO(N:Nat)(m:Me)(h:m.code.length<=1048576):og N m=some m:=by
 unfold og;rw[IB N h];rfl
def Cn(N:Nat):∀(l:List Me) (k:Nat) (a:List Me),(∀m∈l,m.code.length<=1048576)->a.length+l.length<=1048576->mH N l k a=some (a++l)
 |[],k,a,_,_=>by simp[mH]
 |x::l,k,a,h,hl=>by
  rw[mH,vO N x (h x l9)];simp only[A0];rw[p9 (by simp at hl⊢;omega)];simp only[Qz];rw[Cn N l (k+1) _ (fun o b=>h o (by simp[b])) (by simp at hl⊢;omega)];simp
def Cb(N:Nat):∀(l:List Cl) (k:Nat) (a:List Cl),(∀x∈l,x.aB.length<=1048576/\∀m∈x.aB,m.code.length<=1048576)->a.length+l.length<=1048576->mG N l k a=some (a++l)
 |[],k,a,_,_=>by simp[mG]
 |x::l,k,a,h,hl=>by
  have b:=h x l9;rw[mG,Cn N x.aB 0 [] b.2 (by simpa using b.1)];simp only[A0,Qd];rw[p9 (by simp at hl⊢;omega)];simp only[Qz];rw[Cb N l (k+1) _ (fun o c=>h o (by simp[c])) (by simp at hl⊢;omega)];simp
def jH(N:Nat)(w:Wd)(h:E8 w):iY N w=some w:=by
 unfold iY;rw[sj N h.2.2.2 h.2.1];simp only[A0];rw[Cb N w.a7 0 [] h.2.2.1 (by simpa using h.1)];rfl
def Bl(N:Nat):∀(l:List Me) (k:Nat) (a:List Me),(∀m∈l,m.code.length<=1048576)->a.length+l.length<=1048576->lj N l k a=some (a++l)
 |[],k,a,_,_=>by simp[lj]
 |x::l,k,a,h,hl=>by
  rw[lj,vO N x (h x l9)];simp only[A0];rw[p9 (by simp at hl⊢;omega)];simp only[Qz];rw[Bl N l (k+1) _ (fun o b=>h o (by simp[b])) (by simp at hl⊢;omega)];simp
def Bj(N:Nat):∀(l:List Cl) (k:Nat) (a:List Cl),(∀x∈l,x.aB.length<=1048576/\∀m∈x.aB,m.code.length<=1048576)->a.length+l.length<=1048576->ln N l k a=some (a++l)
 |[],k,a,_,_=>by simp[ln]
 |x::l,k,a,h,hl=>by
  have b:=h x l9;rw[ln,Bl N x.aB 0 [] b.2 (by simpa using b.1)];simp only[A0,Qd];rw[p9 (by simp at hl⊢;omega)];simp only[Qz];rw[Bj N l (k+1) _ (fun o c=>h o (by simp[c])) (by simp at hl⊢;omega)];simp
def Jr(N:Nat)(w:Wd)(h:E8 w):vw N w=some w:=by
 unfold vw;rw[sj N h.2.2.2 h.2.1];simp only[A0];rw[Bj N w.a7 0 [] h.2.2.1 (by simpa using h.1)];rfl
def Bt(N:Nat):∀(l:List Me) (k:Nat) (a:List Me),(∀m∈l,m.code.length<=1048576)->a.length+l.length<=1048576->lq N l k a=some (a++l)
 |[],k,a,_,_=>by simp[lq]
 |x::l,k,a,h,hl=>by
  rw[lq,vO N x (h x l9)];simp only[A0];rw[p9 (by simp at hl⊢;omega)];simp only[Qz];rw[Bt N l (k+1) _ (fun o b=>h o (by simp[b])) (by simp at hl⊢;omega)];simp
def Bq(N:Nat):∀(l:List Cl) (k:Nat) (a:List Cl),(∀x∈l,x.aB.length<=1048576/\∀m∈x.aB,m.code.length<=1048576)->a.length+l.length<=1048576->ll N l k a=some (a++l)
 |[],k,a,_,_=>by simp[ll]
 |x::l,k,a,h,hl=>by
  have b:=h x l9;rw[ll,Bt N x.aB 0 [] b.2 (by simpa using b.1)];simp only[A0,Qd];rw[p9 (by simp at hl⊢;omega)];simp only[Qz];rw[Bq N l (k+1) _ (fun o c=>h o (by simp[c])) (by simp at hl⊢;omega)];simp
def Jl(N:Nat)(w:Wd)(h:E8 w):w7 N w=some w:=by
 unfold w7;rw[sj N h.2.2.2 h.2.1];simp only[A0];rw[Bq N w.a7 0 [] h.2.2.1 (by simpa using h.1)];rfl
structure Cf where
 heap:List Ob
 sends:Int
 turns:Int
 fs:List j4
 back:V
 err:Int
 ev:List (St×Int)
def L9(f:j4)(v:V):j4:={ f with aA:=f.aA++[v] }
def cc(f:j4):Option (V×j4):=f.aA.getLast?.map fun v=>(v,{ f with aA:=f.aA.dropLast })
def I7(c:Cf)(e:Int):Cf:={ c with err:=e }
def cm(c:Cf)(v:V):Cf:=match c.fs with
 |[]=>{ c with back:=v }
 |f::F=>{ c with fs:=L9 f v::F }
def fH(Q:Int->Int->Fs×Bool)(k j:Int)(m:Me)(self:V)(args:List V):j4 :=
 if(Q k j).2=true then⟨k,j,true,(Q k j).1.code,self,args,QH (Q k j).1.a8.toNat ⟨0,0⟩,[],0⟩
 else⟨k,j,false,m.code,self,args,QH m.a8.toNat ⟨0,0⟩,[],0⟩
def fO(w:Wd)(fuel:Int)(Q:Int->Int->Fs×Bool)(c:Cf)(k j:Int)(self:V)(args:List V):Option Cf :=
 (j3 w.a7 k).bind fun x=>(j3 x.aB j).bind fun m =>
  if m.args≠args.length then some (I7 c 8)
  else if m.aS≠0 then
   if fuel<=c.sends then some (I7 c 13) else(j3 args 0).bind fun a =>
    if(ck m.aS self a).2≠0 then some (I7 { c with sends:=c.sends+1 } (ck m.aS self a).2) else some (cm { c with sends:=c.sends+1 } (ck m.aS self a).1)
  else if fuel<=c.sends then some (I7 c 13)
  else if 20<=c.fs.length then some (I7 c 14)
  else some { c with sends:=c.sends+1,fs:=fH Q k j m self args::c.fs }
def cQ(c:Cf)(f:j4)(F:List j4)(to:Int):Cf :=
 if to<f.aH then { c with turns:=c.turns+1,fs:={ f with aH:=to }::F,err:=if 300<c.turns+1 then 16 else c.err } else { c with fs:={ f with aH:=to }::F }
def P7(f:j4)(m:Me)(i:Ins)(p:Int):St:=⟨f.aE,m.name,if f.aZ=true then i.c else p⟩
def kq(w:Wd)(fuel:Int)(L:St->Int->ByteArray->Int×Int)(Q:Int->Int->Fs×Bool)(c:Cf)(f:j4)(F:List j4)(i:Ins)(p:Int):Option Cf :=
 if 0<=i.a/\i.a<f.aA.length then
  (f.aA[f.aA.length-i.a.toNat-1]?).bind fun x=>(j3 w.a7 f.aE).bind fun cl=>(j3 cl.aB f.aJ).bind fun m =>
   if(L (P7 f m i p) (y9 c.heap x) i.name).2<0 then
    some (I7 { c with fs:=f::F,ev:=c.ev++[((P7 f m i p),y9 c.heap x)] } 10)
   else fO w fuel Q { c with fs:={ f with aA:=f.aA.take (f.aA.length-i.a.toNat-1) }::F,ev:=c.ev++[((P7 f m i p),y9 c.heap x)] }
    (L (P7 f m i p) (y9 c.heap x) i.name).1 (L (P7 f m i p) (y9 c.heap x) i.name).2 x (f.aA.drop (f.aA.length-i.a.toNat))
 else none
def mU(w:Wd)(c:Cf)(f:j4)(F:List j4)(i:Ins):Option Cf :=
 if 0<=i.b/\i.b<f.aA.length then
  (f.aA[f.aA.length-1-i.b.toNat]?).bind fun x=>if y9 c.heap x=i.a then some { c with fs:=f::F } else
   (j3 w.a7 f.aE).bind fun cl=>(j3 cl.aB f.aJ).bind fun m =>
    if 0<=m.a8/\m.a8<=f.a8.length then some { c with fs:={ f with aZ:=false,code:=m.code,a8:=f.a8.take m.a8.toNat,aH:=i.c }::F } else none
 else none
def im(h:List Ob)(o:V)(n:Int)(v:V):Option (List Ob) :=
 if o.k=4 then(if 0<=o.n then(match h[o.n.toNat]? with
  |none=>some h
  |some b=>if n<b.aG.length then(if 0<=n then some (h.set o.n.toNat ⟨b.cls,b.aG.set n.toNat v⟩) else none) else some h) else none) else some h
def k9(w:Wd)(c:Cf)(f:j4)(F:List j4)(i:Ins):Option Cf :=
 if i.op=1 then some { c with fs:=L9 f f.aP::F }
 else if i.op=2 then(j3 f.args i.a).map fun v=>{ c with fs:=L9 f v::F }
 else if i.op=3 then(j3 f.a8 i.a).map fun v=>{ c with fs:=L9 f v::F }
 else if i.op=4 then some { c with fs:=L9 f (jY c.heap f.aP i.a)::F }
 else if i.op=5 then some { c with fs:=L9 f ⟨3,i.a⟩::F }
 else if i.op=6 then some { c with fs:=L9 f ⟨0,0⟩::F }
 else if i.op=7 then some { c with fs:=L9 f ⟨1,0⟩::F }
 else if i.op=8 then some { c with fs:=L9 f ⟨2,0⟩::F }
 else if i.op=9 then(cc f).map fun p=>{ c with fs:=p.2::F }
 else if i.op=10 then f.aA.getLast?.map fun v=>{ c with fs:=L9 f v::F }
 else if i.op=11 then(cc f).bind fun p=>if 0<=i.a/\i.a<f.a8.length then some { c with fs:={ p.2 with a8:=f.a8.set i.a.toNat p.1 }::F } else none
 else if i.op=12 then(cc f).bind fun p=>(im c.heap f.aP i.a p.1).map fun h=>{ c with heap:=h,fs:=p.2::F }
 else if i.op=19 then(j3 f.a8 i.a).map fun t=>{ c with fs:=L9 f (jY c.heap t i.b)::F }
 else if i.op=20 then(j3 f.a8 i.a).bind fun t=>(cc f).bind fun p=>(im c.heap t i.b p.1).map fun h=>{ c with heap:=h,fs:=p.2::F }
 else if i.op=13 then(if 60<=c.heap.length then some (I7 { c with fs:=f::F } 15) else some { c with heap:=c.heap++[⟨i.a,QH (l8 w i.a).toNat ⟨0,0⟩⟩],fs:=L9 f ⟨4,(c.heap.length:Int)⟩::F })
 else some { c with fs:=f::F }
def iv(fuel:Int)(c:Cf):Cf:=if fuel<=c.sends then I7 c 13 else if 20<=c.fs.length then I7 c 14 else { c with sends:=c.sends+1 }
def kN(c:Cf)(F:List j4)(i:Ins)(p:V×j4):Cf :=
 if p.1.k=1 then cQ c p.2 F i.a else if p.1.k=2 then { c with fs:=p.2::F } else I7 { c with fs:=p.2::F } 11
def L6(w:Wd)(fuel:Int)(L:St->Int->ByteArray->Int×Int)(Q:Int->Int->Fs×Bool)(c:Cf):Option Cf :=
 match c.fs with
 |[]=>none
 |f::F=>(j3 f.code f.aH).bind fun i =>
  if i.op=14 then kq w fuel L Q c { f with aH:=f.aH+1 } F i f.aH
  else if i.op=15 then some (cQ c { f with aH:=f.aH+1 } F i.a)
  else if i.op=16 then(cc { f with aH:=f.aH+1 }).map (kN c F i)
  else if i.op=17 then(cc { f with aH:=f.aH+1 }).map fun p=>cm { c with fs:=F } p.1
  else if i.op=18 then mU w c { f with aH:=f.aH+1 } F i
  else if i.op=21 then some (iv fuel { c with fs:={ f with aH:=f.aH+1 }::F })
  else k9 w c { f with aH:=f.aH+1 } F i
def EM(w:Wd)(H:List Ob)(e:Int):∀(n:Nat) (c:Int),bg ⟨w.a7,H,e⟩ n c=bg w n c
 |0,_=>rfl
 |n+1,c=>by
  unfold bg;simp only[EM w H e n]
def zA(w:Wd)(H:List Ob)(e:Int)(c:Int):l8 ⟨w.a7,H,e⟩ c=l8 w c:=by
 unfold l8;simp only[EM]
def E3(w:Wd)(H:List Ob)(e:Int)(s:ByteArray):∀(n:Nat) (c:Int),U7 ⟨w.a7,H,e⟩ s n c=U7 w s n c
 |0,_=>rfl
 |n+1,c=>by
  unfold U7;simp only[E3 w H e s n]
def zE(w:Wd)(H:List Ob)(e:Int)(s:ByteArray)(c:Int):l7 ⟨w.a7,H,e⟩ s c=l7 w s c:=by
 unfold l7;simp only[E3]
theorem iy(v:V):(⟨v.k,v.n⟩:V)=v:=rfl
def tT{f:j4}{F:List j4}(h:F.length<=1000):wr (((f::F).reverse.length:Int)-1)=(F.length:Int):=by
 rw[q8 (by unfold H8;simp;omega)];simp
def dJ(f:j4)(F:List j4):(f::F).reverse[F.length]?=some f:=by
 rw[List.reverse_cons,QY l9];simp
def AZ(f:j4)(F:List j4):j3 (f::F).reverse (F.length:Int)=some f:=by rw[q9,dJ]
def eU(f g:j4)(F:List j4):(f::F).reverse.set F.length g=(g::F).reverse:=by
 rw[List.reverse_cons,List.set_append_right (h:=by simp)];simp
def d72(f:j4)(F:List j4):(f::F).reverse.take F.length=F.reverse:=by
 rw[List.reverse_cons,List.take_left' l9]
def Od(f:j4)(F:List j4):¬(((f::F).reverse.length:Int)=0):=F5
section
variable {N:Nat}{cl:List Cl}{H:List Ob}{ep fuel sends turns err:Int}{back:V}
def jS(fr:List j4)(e:Int):J6 N ⟨⟨cl,H,ep⟩,fuel,sends,turns,fr,back,0⟩ e=some ⟨⟨cl,H,ep⟩,fuel,sends,turns,fr,back,e⟩:=by
 simp[J6]
def A7(fr:List j4)(b:Bool)(f:-1000000<=sends/\sends<=1000000):nv N ⟨⟨cl,H,ep⟩,fuel,sends,turns,fr,back,0⟩ b =
  some (if fuel<=sends then(false,⟨⟨cl,H,ep⟩,fuel,sends,turns,fr,back,13⟩) else if b=true/\20<=fr.length then(false,⟨⟨cl,H,ep⟩,fuel,sends,turns,fr,back,14⟩) else(true,⟨⟨cl,H,ep⟩,fuel,sends+1,turns,fr,back,0⟩)):=by
 have e:wr (sends+1)=sends+1:=q8 ino;unfold nv;simp only[jS,e];by_cases c:fuel<=sends
 ·simp only[c,RB,Qz,if_true,A0]
 ·by_cases d:20<=fr.length
  ·have a:(20:Int)<=(fr.length:Int):=d9;cases b<;>simp[c,d,a]
  ·have a:¬(20:Int)<=(fr.length:Int):=d9;cases b<;>simp[c,d,a]
def Nb(F:List j4)(v:V)(a:F.length<=1000)(b:∀f∈F,f.aA.length<=1000):nz N ⟨⟨cl,H,ep⟩,fuel,sends,turns,F.reverse,back,err⟩ v =
  some (match F with
   |[]=>⟨⟨cl,H,ep⟩,fuel,sends,turns,[],v,err⟩
   |f::G=>⟨⟨cl,H,ep⟩,fuel,sends,turns,(L9 f v::G).reverse,back,err⟩):=by
 unfold nz;cases F with
 |nil=>simp
 |cons f G =>
  have hl:f.aA.length<=1000:=b f l9;simp only[tT (show G.length<=1000 by simp at a;omega),AZ,Qc,eU,A0];rw[p9 F5,RD (Od f G)];rfl
end
structure cN(f:j4):Prop where
 aA:f.aA.length<=1000
 code:f.code.length<=1000
 num:∀v∈f.aA,v.k=3->eb v.n
structure Wk(w:Wd)(Q:Int->Int->Fs×Bool)(c:Cf):Prop where
 cls:w.a7.length<=1048576
 ak:∀x∈w.a7,∀m∈x.aB,0<=m.a8/\m.a8<=1000
 aG:∀k,0<=l8 w k/\l8 w k<=1000
 quick:∀k j,(Q k j).2=true->0<=(Q k j).1.a8/\(Q k j).1.a8<=1000
 heap:c.heap.length<=1000/\∀o∈c.heap,o.aG.length<=1000
 fs:c.fs.length<=900
 fr:∀f∈c.fs,cN f
 sends:-1000000<=c.sends/\c.sends<=100000
 turns:-1000000<=c.turns/\c.turns<=100000
def Cf.toM(w:Wd)(fuel:Int)(c:Cf):J7:=⟨⟨w.a7,c.heap,w.aC⟩,fuel,c.sends,c.turns,c.fs.reverse,c.back,c.err⟩
def Z5{a:Type}{l:List a}{i:Int}{x:a}(h:j3 l i=some x):x∈l:=QM (l6 h).2
def zy{w:Wd}{fuel:Int}{N:Nat}(c:Cf)(v:V)(a:c.fs.length<=1000)(d:∀f∈c.fs,f.aA.length<=1000):
  nz N (c.toM w fuel) v=some ((cm c v).toM w fuel):=by
 obtain⟨h,s,t,fs,b,e,ev⟩:=c;unfold Cf.toM;rw[Nb fs v a d];cases fs<;>rfl
section
variable {w:Wd}{fuel:Int}{N:Nat}{gl:St->Int->ByteArray->Option (Int×Int)}{gq:Int->Int->Option (Fs×Bool)}{L:St->Int->ByteArray->Int×Int}{Q:Int->Int->Fs×Bool}
def wh(r:∀k j x m,j3 w.a7 k=some x->j3 x.aB j=some m->gq k j=some (Q k j))(G:∀x∈w.a7,∀m∈x.aB,0<=m.a8/\m.a8<=1000)(B:∀k j,(Q k j).2=true->0<=(Q k j).1.a8/\(Q k j).1.a8<=1000)(c:Cf)(A:c.err=0)(C:-1000000<=c.sends/\c.sends<=1000000)(y:c.fs.length<=1000)(i:∀f∈c.fs,f.aA.length<=1000)(k j:Int)(self:V)(args:List V)(E:self.k=3->eb self.n)(F:∀v∈args,v.k=3->eb v.n)(K:args.length<=1000)(c':Cf)(h:fO w fuel Q c k j self args=some c'):
  ka N (c.toM w fuel) gq k j self args=some (c'.toM w fuel):=by
 obtain⟨J,s,t,fs,b,e,ev⟩:=c;simp only at A C y i;subst A;unfold fO at h;obtain⟨x,u,h⟩:=M6 h;obtain⟨m,g,h⟩:=M6 h;have I:=G x (Z5 u) m (Z5 g);unfold ka Cf.toM;simp only[u,g,A0,jS,A7 fs.reverse _ C];simp only at h;by_cases g1:m.args=args.length
 ·rw[R1 (by simpa using g1)] at h;rw[RE g1];simp only[IT,R0];by_cases l:m.aS=0
  ·rw[R1 (by simpa using l)] at h;rw[RE l];simp only[IT,R0];by_cases d:fuel<=s
   ·rw[RA d] at h;cases h;simp only[d,if_true,QJ,Qz];rfl
   ·rw[R1 d] at h;by_cases o:20<=fs.length
    ·rw[RA o] at h;cases h;simp only[d,List.length_reverse,o,and_self,if_true,if_false,QJ,Qz];rfl
    ·rw[R1 o] at h;cases h;have e1:(decide (0<=m.a8) && decide (m.a8<=140737488355328) && decide (m.a8*16<=140737488355328))=true:=by
      simp only[It,RF];omega
     simp only[d,List.length_reverse,o,and_false,if_false,IT,R0,ug N (show args.length<=1048576 by omega),A0,r k j x m u g,e1,Qz];cases q:(Q k j).2 with
     |true =>
      have B:=B k j q;have D:(decide (0<=(Q k j).1.a8) && decide ((Q k j).1.a8<=140737488355328) && decide ((Q k j).1.a8*16<=140737488355328))=true:=by
       simp only[It,RF];omega
      simp only[D,Qz,A0];rw[p9 F5];simp only[Qz,fH,q,if_true,List.reverse_cons]
     |false =>
      simp only[R0,A0];rw[p9 F5];simp only[Qz,fH,q,Qe,if_false,List.reverse_cons]
  ·rw[RA (by simpa using l)] at h;rw[RD l];simp only[QJ,Qz];by_cases d:fuel<=s
   ·rw[RA d] at h;cases h;simp only[d,if_true,QJ,Qz];rfl
   ·rw[R1 d] at h;obtain⟨a,z,h⟩:=M6 h;simp only[d,Qe,false_and,if_false,IT,R0,z,A0,Jt N m.aS self a E (F a (Z5 z)),jS];by_cases p:(ck m.aS self a).2=0
    ·rw[R1 (by simpa using p)] at h;cases h;rw[RE p];simp only[IT,R0];have:=zy (w:=w) (fuel:=fuel) (N:=N) ⟨J,s+1,t,fs,b,0,ev⟩ (ck m.aS self a).1 y i;simp only[Cf.toM] at this;rw[this];cases fs<;>rfl
    ·rw[RA (by simpa using p)] at h;cases h;rw[RD p];rfl
 ·rw[RA (by simpa using g1)] at h;cases h;rw[RD g1];rfl
def x8{l:List V}{v:V}(h:l.getLast?=some v)(hl:l.length<=1000):j3 l (wr ((l.length:Int)-1))=some v/\wr ((l.length:Int)-1)=((l.length-1:Nat):Int)/\1<=l.length /\
  (decide (0<=wr ((l.length:Int)-1)) && decide (wr ((l.length:Int)-1)<=(l.length:Int)))=true:=by
 have b:1<=l.length:=by
  cases l with
  |nil=>cases h
  |cons a l=>simp
 have e:wr ((l.length:Int)-1)=((l.length-1:Nat):Int):=by rw[q8 ino];omega
 rw[e];refine⟨?_,rfl,b,by simp only[It,RF];omega⟩;rw[q9,<-h,List.getLast?_eq_getElem?]
def fi{f:j4}{p:V×j4}(h:cc f=some p):f.aA.getLast?=some p.1/\p.2={ f with aA:=f.aA.dropLast }:=by
 unfold cc at h;rw[QL] at h;obtain⟨v,a,rfl⟩:=h;exact⟨a,rfl⟩
def kK{f:j4}{F:List j4}{p:V×j4}(h:cc f=some p)(hl:f.aA.length<=1000):jG N (f::F).reverse F.length=some (p.1,(p.2::F).reverse):=by
 obtain⟨c,d⟩:=fi h;obtain⟨e1,a,e,b⟩:=x8 c hl;unfold jG;rw[dJ];simp only[A0,e1,b,Qz,eU,d];rw[a,Qc,List.dropLast_eq_take]
def FV{f:j4}{F:List j4}{p:V×j4}(h:cc f=some p)(hl:f.aA.length<=1000):rj N (f::F).reverse F.length=some (p.1,(p.2::F).reverse):=by
 obtain⟨c,d⟩:=fi h;obtain⟨e1,a,e,b⟩:=x8 c hl;unfold rj;rw[dJ];simp only[A0,e1,b,Qz,eU,d];rw[a,Qc,List.dropLast_eq_take]
def mg{f:j4}{F:List j4}(v:V)(hl:f.aA.length<=1000):R9 N v (f::F).reverse F.length=some (L9 f v::F).reverse:=by
 unfold R9;rw[dJ];simp only[A0,eU];rw[p9 F5];rfl
def d51{f:j4}{F:List j4}(v:V)(hl:f.aA.length<=1000):rr N v (f::F).reverse F.length=some (L9 f v::F).reverse:=by
 unfold rr;rw[dJ];simp only[A0,eU];rw[p9 F5];rfl
def Mz{f:j4}{F:List j4}(v:V)(s:List V)(hl:s.length<=1000):ui N v s (f::F).reverse F.length=some (s++[v]):=by
 unfold ui;rw[dJ];simp only[A0];rw[p9 F5];rfl
def Gd{cl:List Cl}{H j:List Ob}{ep s t e:Int}{fr:List j4}{b:V}{o:V}{n:Int}{v:V}(h:im H o n v=some j):
  rm N ⟨⟨cl,H,ep⟩,fuel,s,t,fr,b,e⟩ o n v=some ⟨⟨cl,j,ep⟩,fuel,s,t,fr,b,e⟩:=by
 unfold im at h;unfold rm;by_cases d:o.k=4
 ·rw[RA d] at h;by_cases g:0<=o.n
  ·rw[RA g] at h;cases c:H[o.n.toNat]? with
   |none =>
    rw[c] at h;cases h;have a:¬o.n<(H.length:Int):=by have:=List.getElem?_eq_none_iff.1 c;omega
    simp only[d,a,Option.elim,RB,RC,Qz,R0,A0]
   |some x =>
    rw[c] at h;have a:o.n<(H.length:Int):=by have:=(OR.1 c).1;omega
    have l:j3 H o.n=some x:=(by rw[fC g,c]);simp only[l,d,a,Option.elim,RB,Qz,A0];simp only at h;by_cases f:n<(x.aG.length:Int)
    ·rw[RA f] at h;by_cases i:0<=n
     ·rw[RA i] at h;cases h;obtain⟨y,_,m⟩:=V7 i f;simp only[f,m,RB,Qz,A0]
     ·rw[R1 i] at h;cases h
    ·rw[R1 f] at h;cases h;simp only[f,RC,R0,A0]
  ·rw[R1 g] at h;cases h
 ·rw[R1 d] at h;cases h;cases c:H[o.n.toNat]?<;>simp only[d,Option.elim,RC,R0,A0]
def wJ(c:Cf)(f:j4)(F:List j4)(to:Int)(d:c.err=0)(g:-1000000<=c.turns/\c.turns<=1000000):
  oB N ⟨⟨w.a7,c.heap,w.aC⟩,fuel,c.sends,c.turns,(f::F).reverse,c.back,c.err⟩ F.length to=some ((cQ c f F to).toM w fuel):=by
 unfold oB cQ;have e:wr (c.turns+1)=c.turns+1:=q8 ino;simp only[dJ,A0,e,d,jS];by_cases a:to<f.aH
 ·by_cases b:300<c.turns+1
  ·simp only[a,b,RB,Qz,A0,if_true,eU,Cf.toM]
  ·simp only[a,b,RB,RC,Qz,R0,A0,if_true,if_false,eU,Cf.toM]
 ·simp only[a,RC,R0,A0,if_false,eU,Cf.toM]
def F1(c:Cf)(f:j4)(F:List j4)(i:Ins)(hl:f.aA.length<=1000){c':Cf}(h:mU w c f F i=some c'):
  ru N ⟨⟨w.a7,c.heap,w.aC⟩,fuel,c.sends,c.turns,(f::F).reverse,c.back,c.err⟩ F.length i=some (c'.toM w fuel):=by
 unfold mU at h;by_cases j:0<=i.b/\i.b<f.aA.length
 ·rw[RA j] at h;obtain⟨x,n,h⟩:=M6 h;have e1:wr ((f.aA.length:Int)-1)=(f.aA.length:Int)-1:=q8 ino;have k:wr ((f.aA.length:Int)-1-i.b)=((f.aA.length-1-i.b.toNat:Nat):Int):=by rw[q8 ino];omega
  unfold ru;simp only[dJ,A0,e1,k,q9,n,sQ];by_cases d:y9 c.heap x=i.a
  ·rw[RA d] at h;cases h;simp only[d,RB,Qz,Cf.toM]
  ·rw[R1 d] at h;obtain⟨cl,g,h⟩:=M6 h;obtain⟨m,l,h⟩:=M6 h;simp only[d,RC,R0,g,l,A0];by_cases e:0<=m.a8/\m.a8<=f.a8.length
   ·rw[RA e] at h;cases h;simp only[e.1,e.2,RB,Bool.and_self,Qz,eU,Cf.toM]
   ·rw[R1 e] at h;cases h
 ·rw[R1 j] at h;cases h
def ot(c:Cf)(v:V):(cm c v).heap=c.heap:=by
 unfold cm;split<;>rfl
def lW{c c':Cf}{k j:Int}{self:V}{args:List V}(h:fO w fuel Q c k j self args=some c'):∃x m,j3 w.a7 k=some x/\j3 x.aB j=some m /\
  ((m.args≠args.length/\c'=I7 c 8)\/(m.args=args.length/\fuel<=c.sends/\c'=I7 c 13) \/
   (m.args=args.length/\c.sends<fuel/\m.aS≠0/\∃a,j3 args 0=some a/\(((ck m.aS self a).2≠0/\c'=I7 { c with sends:=c.sends+1 } (ck m.aS self a).2) \/
    ((ck m.aS self a).2=0/\c'=cm { c with sends:=c.sends+1 } (ck m.aS self a).1))) \/
   (m.args=args.length/\c.sends<fuel/\m.aS=0/\20<=c.fs.length/\c'=I7 c 14) \/
   (m.args=args.length/\c.sends<fuel/\m.aS=0/\c.fs.length<20/\c'={ c with sends:=c.sends+1,fs:=fH Q k j m self args::c.fs })):=by
 unfold fO at h;obtain⟨x,l,h⟩:=M6 h;obtain⟨m,i,h⟩:=M6 h;refine⟨x,m,l,i,?_⟩;by_cases d:m.args=args.length
 ·rw[R1 (by simpa using d)] at h;refine .inr ?_;by_cases f:fuel<=c.sends
  ·refine .inl ⟨d,f,?_⟩;rw[RA f,RA f] at h;split at h<;>(cases h;rfl)
  refine .inr ?_;rw[R1 f,R1 f] at h;by_cases e:m.aS=0
  ·rw[R1 (by simpa using e)] at h;refine .inr ?_;by_cases b:20<=c.fs.length
   ·rw[RA b] at h;cases h;exact .inl ⟨d,d9,e,b,rfl⟩
   ·rw[R1 b] at h;cases h;exact .inr ⟨d,d9,e,d9,rfl⟩
  ·rw[RA (by simpa using e)] at h;obtain⟨a,g,h⟩:=M6 h;refine .inl ⟨d,d9,e,a,g,?_⟩;by_cases b:(ck m.aS self a).2=0
   ·rw[R1 (by simpa using b)] at h;cases h;exact .inr ⟨b,rfl⟩
   ·rw[RA (by simpa using b)] at h;cases h;exact .inl ⟨b,rfl⟩
 ·rw[RA (by simpa using d)] at h;cases h;exact .inl ⟨d,rfl⟩
def sx{c c':Cf}{k j:Int}{self:V}{args:List V}(h:fO w fuel Q c k j self args=some c'):c'.heap=c.heap:=by
 obtain⟨x,m,_,_,h|h|⟨_,_,_,a,_,h|h⟩|h|h⟩:=lW h
 ·rw[h.2];rfl
 ·rw[h.2.2];rfl
 ·rw[h.2];rfl
 ·rw[h.2];exact ot _ _
 ·rw[h.2.2.2.2];rfl
 ·rw[h.2.2.2.2]
def mX{c c':Cf}{f:j4}{F:List j4}{i:Ins}{p:Int}(h:kq w fuel L Q c f F i p=some c'):∃x cl m,0<=i.a/\i.a<f.aA.length/\f.aA[f.aA.length-i.a.toNat-1]?=some x /\
  j3 w.a7 f.aE=some cl/\j3 cl.aB f.aJ=some m /\
  (((L (P7 f m i p) (y9 c.heap x) i.name).2<0/\c'=I7 { c with fs:=f::F,ev:=c.ev++[(P7 f m i p,y9 c.heap x)] } 10) \/
   (0<=(L (P7 f m i p) (y9 c.heap x) i.name).2/\fO w fuel Q { c with fs:={ f with aA:=f.aA.take (f.aA.length-i.a.toNat-1) }::F,ev:=c.ev++[(P7 f m i p,y9 c.heap x)] }
    (L (P7 f m i p) (y9 c.heap x) i.name).1 (L (P7 f m i p) (y9 c.heap x) i.name).2 x (f.aA.drop (f.aA.length-i.a.toNat))=some c')):=by
 unfold kq at h;by_cases b:0<=i.a/\i.a<f.aA.length
 ·rw[RA b] at h;obtain⟨x,j,h⟩:=M6 h;obtain⟨cl,e,h⟩:=M6 h;obtain⟨m,g,h⟩:=M6 h;refine⟨x,cl,m,b.1,b.2,j,e,g,?_⟩;by_cases d:(L (P7 f m i p) (y9 c.heap x) i.name).2<0
  ·rw[RA d] at h;cases h;exact .inl ⟨d,rfl⟩
  ·rw[R1 d] at h;exact .inr ⟨d9,h⟩
 ·rw[R1 b] at h;cases h
def Dt{c c':Cf}{f:j4}{F:List j4}{i:Ins}{p:Int}(h:kq w fuel L Q c f F i p=some c'):c'.heap=c.heap:=by
 obtain⟨x,cl,m,_,_,_,_,_,h|h⟩:=mX h
 ·rw[h.2];rfl
 ·exact(sx h.2).trans rfl
def Nh(q:∀s k n,gl s k n=some (L s k n))(r:∀k j x m,j3 w.a7 k=some x->j3 x.aB j=some m->gq k j=some (Q k j))(c:Cf)(W:Wk w Q c)(e:c.err=0)(f:j4)(F:List j4)(l:cN f)(B:∀f∈F,cN f)(C:F.length<=899)(i:Ins)(p:Int){c':Cf}(h:kq w fuel L Q c f F i p=some c'):
  s9 N ⟨⟨w.a7,c.heap,w.aC⟩,fuel,c.sends,c.turns,(f::F).reverse,c.back,c.err⟩ gl gq F.length i p=some (c'.toM w fuel):=by
 obtain⟨x,cl,m,J,K,u,d,E,h⟩:=mX h;have hl:=l.aA;have e1:wr ((f.aA.length:Int)-i.a)=((f.aA.length-i.a.toNat:Nat):Int):=by rw[q8 ino];omega
 have A:wr (((f.aA.length-i.a.toNat:Nat):Int)-1)=((f.aA.length-i.a.toNat-1:Nat):Int):=by rw[q8 ino];omega
 have y:(decide ((0:Int)<=((f.aA.length-i.a.toNat:Nat):Int)) && decide (((f.aA.length-i.a.toNat:Nat):Int)<=(f.aA.length:Int)))=true:=by simp only[It,RF];omega
 have z:(decide ((0:Int)<=((f.aA.length-i.a.toNat-1:Nat):Int)) && decide (((f.aA.length-i.a.toNat-1:Nat):Int)<=(f.aA.length:Int)))=true:=by simp only[It,RF];omega
 have b:((bif f.aZ then some i.c else some p):Option Int)=some (P7 f m i p).pos:=by unfold P7;cases f.aZ<;>rfl
 have G:(⟨f.aE,m.name,(P7 f m i p).pos⟩:St)=P7 f m i p:=rfl;unfold s9;simp only[dJ,A0,e1,A,y,z,Qz,Qc,q9,u,d,E,sQ,q,b,G,e,jS,eU,
  ug N (show(f.aA.drop (f.aA.length-i.a.toNat)).length<=1048576 by simp;omega)]
 rcases h with⟨t,rfl⟩|⟨t,h⟩
 ·simp only[t,RB,Qz];rfl
 ·rw[RD d9];simp only[R0];have:=wh (N:=N) r W.ak W.quick _ (by exact e) (by have:=W.sends;exact⟨this.1,bL⟩) F5 (fun g o=>by
    rcases QG.1 o with rfl|o
    ·simp;omega
    ·exact(B g o).aA) _ _ x _ (l.num x (QM u)) (fun v I=>l.num v (List.mem_of_mem_drop I)) F5 c' h
  simp only[Cf.toM,e] at this;rw[this];simp only[A0,Cf.toM];have D:c'.heap=c.heap:=(sx h).trans rfl;rw[D]
def Fx(c:Cf)(W:Wk w Q c)(O:1048578<=N)(P:c.err=0)(f:j4)(F:List j4)(R:cN f)(i:Ins){c':Cf}(h:k9 w c f F i=some c'):
  s8 N ⟨⟨w.a7,c.heap,w.aC⟩,fuel,c.sends,c.turns,(f::F).reverse,c.back,c.err⟩ F.length i=some (c'.toM w fuel):=by
 have hl:=R.aA;unfold k9 at h;unfold s8;by_cases u:i.op=1
 ·rw[RA u] at h;cases h;simp only[u,dJ,mg _ hl,RB,Qz,A0,iy];rfl
 rw[R1 u] at h;by_cases x:i.op=2
 ·rw[RA x] at h;rw[QL] at h;obtain⟨v,r,rfl⟩:=h;simp only[x,r,dJ,mg _ hl,RB,Qz,A0];rfl
 rw[R1 x] at h;by_cases z:i.op=3
 ·rw[RA z] at h;rw[QL] at h;obtain⟨v,r,rfl⟩:=h;simp only[z,r,dJ,eU,d51 _ hl,RB,Qz,A0];rfl
 rw[R1 z] at h;by_cases A:i.op=4
 ·rw[RA A] at h;cases h;simp only[A,dJ,DS,mg _ hl,RB,Qz,A0];rfl
 rw[R1 A] at h;by_cases B:i.op=5
 ·rw[RA B] at h;cases h;simp only[B,dJ,mg _ hl,RB,Qz,A0];rfl
 rw[R1 B] at h;by_cases C:i.op=6
 ·rw[RA C] at h;cases h;simp only[C,dJ,mg _ hl,RB,Qz,A0];rfl
 rw[R1 C] at h;by_cases D:i.op=7
 ·rw[RA D] at h;cases h;simp only[D,dJ,xz,mg _ hl,RB,Qz,A0];rfl
 rw[R1 D] at h;by_cases E:i.op=8
 ·rw[RA E] at h;cases h;simp only[E,dJ,xz,mg _ hl,RB,A0];rfl
 rw[R1 E] at h;by_cases G:i.op=9
 ·rw[RA G] at h;rw[QL] at h;obtain⟨q,p,rfl⟩:=h;simp only[G,dJ,kK p hl,RB,Qz,A0];rfl
 rw[R1 G] at h;by_cases g:i.op=10
 ·rw[RA g] at h;rw[QL] at h;obtain⟨v,r,rfl⟩:=h;obtain⟨e1,X,Y,Z⟩:=x8 r hl;simp only[g,dJ,eU,e1,Mz _ _ hl,RB,Qz,A0];rfl
 rw[R1 g] at h;by_cases j:i.op=11
 ·rw[RA j] at h;obtain⟨q,p,h⟩:=M6 h;by_cases I:0<=i.a/\i.a<f.a8.length
  ·rw[RA I] at h;cases h;obtain⟨y,_,T⟩:=V7 I.1 I.2;simp only[j,T,dJ,eU,FV p hl,RB,Qz,A0];rfl
  ·rw[R1 I] at h;cases h
 rw[R1 j] at h;by_cases k:i.op=12
 ·rw[RA k] at h;obtain⟨q,p,h⟩:=M6 h;rw[QL] at h;obtain⟨M,J,rfl⟩:=h;have hs:q.2.aP=f.aP:=by rw[(fi p).2]
  simp only[k,dJ,eU,kK p hl,Gd J,RB,Qz,A0];rfl
 rw[R1 k] at h;by_cases m:i.op=19
 ·rw[RA m] at h;rw[QL] at h;obtain⟨v,r,rfl⟩:=h;simp only[m,r,dJ,eU,DS,d51 _ hl,RB,Qz,A0];rfl
 rw[R1 m] at h;by_cases n:i.op=20
 ·rw[RA n] at h;obtain⟨tv,K,h⟩:=M6 h;obtain⟨q,p,h⟩:=M6 h;rw[QL] at h;obtain⟨M,J,rfl⟩:=h;obtain⟨qv,U⟩:=q;obtain rfl:U={ f with aA:=f.aA.dropLast }:=(fi p).2;simp only[n,K,dJ,eU,FV p hl,Gd J,RB,Qz,A0];rfl
 rw[R1 n] at h;by_cases d:i.op=13
 ·rw[RA d] at h;have t:=W.aG i.a;have b:=d24 N (l:=c.heap) i.a (l8 w i.a) (fun o S=>by have:=W.heap.2 o S;omega) (by have:=W.heap.1;omega) t.1 t.2;have e:jK N (⟨w.a7,c.heap,w.aC⟩:Wd) i.a=some (l8 w i.a):=(oN N ⟨w.a7,c.heap,w.aC⟩ i.a O W.cls).trans (by rw[zA w c.heap w.aC i.a]);by_cases s:60<=c.heap.length
  ·rw[RA s] at h b;cases h;simp only[d,e,b,P,jS,show((15:Int)=0)=False by decide,QJ,RB,RC,Qz,A0];rfl
  ·rw[R1 s] at h b;cases h;simp only[d,e,b,mg _ hl,IT,RB,Qz,R0,A0];rfl
 rw[R1 d] at h;cases h;simp only[u,x,z,A,B,C,D,E,G,g,j,k,m,n,d,RC,R0,A0,iy];rfl
def NJ(R:1048578<=N)(G:∀s k n,gl s k n=some (L s k n))(I:∀k j x m,j3 w.a7 k=some x->j3 x.aB j=some m->gq k j=some (Q k j))(c:Cf)(W:Wk w Q c)(v:c.err=0){c':Cf}(h:L6 w fuel L Q c=some c'):sA N (c.toM w fuel) gl gq=some (c'.toM w fuel):=by
 unfold L6 at h;cases o:c.fs with
 |nil=>rw[o] at h;cases h
 |cons f F =>
  rw[o] at h;obtain⟨i,hi,h⟩:=M6 h;have u:=W.fs;rw[o] at u;simp only[QI] at u;have z:cN f:=W.fr f (by rw[o];simp);have M:∀g∈F,cN g:=fun g A=>W.fr g (by rw[o];simp[A]);have U:=fo hi;have bu:=z.code;have wp:wr (f.aH+1)=f.aH+1:=q8 ino;have T:=tT (f:=f) (F:=F) d9;generalize A:({ f with aH:=f.aH+1 }:j4)=g at h;have d:g.aA.length<=1000:=by rw[<-A];exact z.aA
  have C:cN g:=by rw[<-A];exact⟨z.aA,z.code,z.num⟩
  unfold sA Cf.toM;have P:∀(x:Cf),(⟨⟨w.a7,x.heap,w.aC⟩,fuel,x.sends,x.turns,x.fs.reverse,⟨x.back.k,x.back.n⟩,x.err⟩:J7)=x.toM w fuel:=fun x=>rfl;simp only[o,T,wp,AZ,hi,A0,Qc,eU,A];by_cases e:i.op=14
  ·rw[RA e] at h;have:=Nh (gl:=gl) (N:=N) G I c W v g F C M d9 i f.aH h;have J:=Dt h;simp only[e,this,RB,Qz,A0,Cf.toM,iy,J]
  rw[R1 e] at h;by_cases l:i.op=15
  ·rw[RA l] at h;cases h;have:=wJ (w:=w) (fuel:=fuel) (N:=N) c g F i.a v (by have:=W.turns;omega);simp only[l,this,RB,Qz,A0,Cf.toM];unfold cQ;split<;>rfl
  rw[R1 l] at h;by_cases b:i.op=16
  ·rw[RA b] at h;rw[QL] at h;obtain⟨q,D,rfl⟩:=h;have:=wJ (w:=w) (fuel:=fuel) (N:=N) c q.2 F i.a v (by have:=W.turns;omega);unfold kN;by_cases y:q.1.k=1
   ·simp only[b,kK D d,this,y,RB,Qz,A0,Cf.toM,if_true];unfold cQ;split<;>rfl
   ·by_cases E:q.1.k=2
    ·simp only[b,kK D d,E,RB,Qz,A0,if_true];rfl
    ·simp only[b,kK D d,y,E,v,jS,RB,RC,Qz,R0,A0,if_false];rfl
  rw[R1 b] at h;by_cases p:i.op=17
  ·rw[RA p] at h;rw[QL] at h;obtain⟨q,D,rfl⟩:=h;have K:=tT (f:=q.2) (F:=F) d9;have B:=zy (w:=w) (fuel:=fuel) (N:=N) { c with fs:=F } q.1 bL (fun x S=>(M x S).aA);simp only[Cf.toM] at B;have O:(decide ((0:Int)<=(F.length:Int)) && decide ((F.length:Int)<=((q.2::F).reverse.length:Int)))=true:=F5;simp only[RD e,RD l,RD b,RE p,kK D d,K,O,Qc,d72,B,Qz,R0,A0,iy,ot]
  rw[R1 p] at h;by_cases r:i.op=18
  ·rw[RA r] at h;have:=F1 (w:=w) (fuel:=fuel) (N:=N) c g F i d h;have J:c'.heap=c.heap:=by
    unfold mU at h;split at h
    ·obtain⟨x,_,h⟩:=M6 h;split at h
     ·cases h;rfl
     ·obtain⟨cl,_,h⟩:=M6 h;obtain⟨m,_,h⟩:=M6 h;split at h<;>cases h;rfl
    ·cases h
   simp only[RD e,RD l,RD b,RD p,RE r,this,Qz,R0,A0,Cf.toM,iy,J]
  rw[R1 r] at h;by_cases t:i.op=21
  ·rw[RA t] at h;cases h;have:=A7 (N:=N) (cl:=w.a7) (H:=c.heap) (ep:=w.aC) (fuel:=fuel) (sends:=c.sends) (turns:=c.turns) (back:=c.back) (g::F).reverse true (by have:=W.sends;omega);simp only[t,v,this,RB,Qz,A0];unfold iv;by_cases y:fuel<=c.sends
   ·simp only[y,if_true];rfl
   ·by_cases E:20<=(g::F).length
    ·simp only[y,E,List.length_reverse,if_true,if_false,and_self];rfl
    ·simp only[y,E,List.length_reverse,if_false,and_false];rfl
  rw[R1 t] at h;have:=Fx (w:=w) (fuel:=fuel) (N:=N) c W R v g F C i h;simp only[e,l,b,p,r,t,this,RC,R0,A0,Cf.toM,iy]
end
def na{N:Nat}{w:Wd}(h:K7 N w):∀x∈w.a7,0<=x.aG/\x.aG<=6:=fun x b=>by
 obtain⟨j,a⟩:=Qv.1 b;have:=h.cls j x a;exact⟨this.2.2.2.2.1,this.2.2.2.2.2⟩
def zK{w:Wd}(a:∀x∈w.a7,0<=x.aG/\x.aG<=6)(b:w.a7.length<=12)(c:Int):0<=l8 w c/\l8 w c<=78:=by
 have hl:=wg w (w.a7.length+1) c;have h:=vF a (bg w (w.a7.length+1) c) 0 d9 d9;exact⟨h.1,Int.le_trans h.2 d9⟩
def Eb{w:Wd}{k:Int}{m:Me}{i:Ins}(h:cS w k m i=0):gk w k m i=some true/\kC i=false:=by
 unfold cS at h;cases a:gk w k m i with
 |none=>rw[a] at h;cases h
 |some b =>
  rw[a] at h;cases b with
  |false=>simp at h
  |true =>
   cases d:kC i with
   |true=>simp[d] at h
   |false=>exact⟨rfl,rfl⟩
def tZ{w:Wd}{k:Int}{m:Me}{i:Ins}(h:cS w k m i=0):
  ((i.op=1\/i.op=6\/i.op=7\/i.op=8\/i.op=9\/i.op=10\/i.op=17)/\i.a=0)\/(i.op=2/\0<=i.a/\i.a<m.args)\/((i.op=3\/i.op=11)/\0<=i.a/\i.a<m.a8) \/
  ((i.op=4\/i.op=12)/\0<=i.a/\i.a<l8 w k)\/(i.op=5/\-1073741824<=i.a/\i.a<=1073741824)\/(i.op=13/\(i.a=0\/(4<=i.a/\i.a<w.a7.length)))\/(i.op=14/\0<=i.a/\i.a<5) \/
  ((i.op=15\/i.op=16)/\0<=i.a/\i.a<m.code.length):=by
 have h:=(Eb h).1;unfold gk at h
 (repeat' split at h)<;>simp only[Option.some.injEq,It,Bool.or_eq_true,RF,reduceCtorEq] at h<;>simp_all
def O9(n:Int)(v:V):Prop:=Z9 v n=0
def O9.mono{n a:Int}{v:V}(h:O9 n v)(b:n<=a):O9 a v:=by
 unfold O9 Z9 at *
 (repeat' split at h)<;>first|(simp at h)|skip
 all_goals (repeat' split)<;>first|rfl|omega
def O9.num{n:Int}{v:V}(h:O9 n v)(b:v.k=3):eb v.n:=by
 unfold O9 Z9 at h;simp only[b] at h;unfold eb;by_cases a:v.n < -1073741824\/1073741824<v.n
 ·simp[a] at h
 ·omega
def O9.ref{n:Int}{v:V}(h:O9 n v)(b:v.k=4):0<=v.n/\v.n<n:=by
 unfold O9 Z9 at h;simp only[b] at h;by_cases a:v.n<0\/n<=v.n
 ·simp[a] at h
 ·omega
theorem O9.nil(n:Int):O9 n ⟨0,0⟩:=rfl
theorem O9.BM(n:Int):O9 n ⟨1,0⟩:=rfl
theorem O9.BX(n:Int):O9 n ⟨2,0⟩:=rfl
def O9.int(n:Int){x:Int}(h:-1073741824<=x/\x<=1073741824):O9 n ⟨3,x⟩:=by
 unfold O9 Z9;have:¬(x < -1073741824\/1073741824<x):=d9;simp[this]
def O9.obj{n:Int}{x:Int}(h:0<=x/\x<n):O9 n ⟨4,x⟩:=by
 unfold O9 Z9;have:¬(x<0\/n<=x):=d9;simp[this]
def O9.aS{n p:Int}{a b:V}(h:(ck p a b).2=0):O9 n (ck p a b).1:=by
 have g:∀x:Int,O9 n (iq x):=fun x=>by
  refine O9.int n ?_;have d:=Int.tmod_lt_of_pos x (show(0:Int)<1073741825 by omega);have e:-1073741825<x.tmod 1073741825:=by
   rcases Int.le_total 0 x with h|h
   ·have:=Int.tmod_nonneg (1073741825:Int) h;omega
   ·have:=Int.tmod_lt_of_pos (-x) (show(0:Int)<1073741825 by omega);rw[Int.neg_tmod] at this;omega
  omega
 unfold ck at *;by_cases i:a.k≠3\/b.k≠3
 ·rw[RA i] at h;cases h
 rw[R1 i] at h⊢;by_cases d:p=1
 ·rw[RA d];exact g _
 rw[R1 d] at h⊢;by_cases e:p=2
 ·rw[RA e];exact g _
 rw[R1 e] at h⊢;by_cases j:p=3
 ·rw[RA j];exact g _
 rw[R1 j] at h⊢;by_cases l:p=4
 ·rw[RA l];simp only;split<;>first|exact O9.BX n|exact O9.BM n
 rw[R1 l] at h⊢;by_cases m:p=5
 ·rw[RA m];simp only;split<;>first|exact O9.BX n|exact O9.BM n
 rw[R1 m] at h;cases h
structure uY(w:Wd)(k:Int)(m:Me):Prop where
 args:0<=m.args/\m.args<=4
 a8:0<=m.a8/\m.a8<=6
 len:m.code.length<=60
 aS:m.aS=0
 num:∀i∈m.code,cS w k m i=0
 cK:∃h,d46 m h []/\h[0]?=some 0
structure cI(w:Wd):Prop where
 cls:w.a7.length<=12
 aG:∀k,0<=l8 w k/\l8 w k<=78
 BV:∀k:Int,0<=k->k<w.a7.length->l8 w k<=6
 ms:∀x∈w.a7,x.aB.length<=8
 code:∀x∈w.a7,∀m∈x.aB,m.code.length<=60
 ak:∀k x j m,j3 w.a7 k=some x->j3 x.aB j=some m->uY w k m\/(m.aS≠0/\m.args=1/\m.a8=0)
def cI.a8{w:Wd}(W:cI w):∀x∈w.a7,∀m∈x.aB,0<=m.a8/\m.a8<=1000:=fun x e m d=>by
 obtain⟨k,b⟩:=Qv.1 e;obtain⟨j,a⟩:=Qv.1 d;rcases W.ak k x j m (by rw[q9,b]) (by rw[q9,a]) with h|⟨_,_,h⟩
 ·have:=h.a8;omega
 ·omega
def BI.Pt{N:Nat}{w:Wd}{k:Int}{m:Me}(h:BI N w k m):uY w k m:=by
 obtain⟨a,e⟩:=h.cK;obtain⟨b,_,d⟩:=Ai m h.neg N _ _ a e (NA m) FQ;exact⟨h.args,h.a8,h.len.2,h.aS,h.num,a,b,(d (0,0) l9).2⟩
def LZ : ∀p∈U3,p.aS≠0:=G7
def K7.nY{N:Nat}{w:Wd}(r:4194304<=N)(n:E8 w)(h:K7 N w):cI w:=by
 have e:=na h;refine⟨h.many.2.1,fun k=>zK e h.many.2.1 k,fun k g b=>?_,fun x a=>?_,fun x a m d=>?_,fun k x j m a d=>?_⟩
 ·obtain⟨x,a,_⟩:=V7 g b;have:=(h.ak k.toNat x a).1
  rwa [Int.toNat_of_nonneg g] at this
 ·obtain⟨k,l⟩:=Qv.1 a;exact(h.ak k x l).2.1
 ·obtain⟨k,l⟩:=Qv.1 a;exact(Ge d9 n.1 h l d).len
 ·obtain⟨g,a⟩:=l6 a;have d:=Z5 d;rcases(h.ak k.toNat x a).2.2.2 m d with⟨_,p,q,_,b,i,o,_⟩|⟨f,b,i⟩
  ·exact .inr ⟨by rw[<-b];exact LZ p q,i,o⟩
  ·rw[Int.toNat_of_nonneg g,rp N w k m d9 n.1 (mY e n.1 k)] at b;exact .inl (ER b i).Pt
structure Fr(w:Wd)(n:Int)(m:Me)(h:List Int)(f:j4)(d:Nat):Prop where
 bn:f.aZ=false
 ak:∃x,j3 w.a7 f.aE=some x/\j3 x.aB f.aJ=some m
 code:f.code=m.code
 me:uY w f.aE m
 hi:d46 m h []
 args:(f.args.length:Int)=m.args
 a8:(f.a8.length:Int)=m.a8
 pos:0<=f.aH
 aH:h[f.aH.toNat]?=some ((f.aA.length+d:Nat):Int)
 self:O9 n f.aP
 fg:∀v∈f.args,O9 n v
 ax:∀v∈f.a8,O9 n v
 ae:∀v∈f.aA,O9 n v
def dm(w:Wd)(n:Int)(d:Nat)(f:j4):Prop:=∃m h,Fr w n m h f d
def dm.mono{w:Wd}{n e:Int}{d:Nat}{f:j4}(h:dm w n d f)(b:n<=e):dm w e d f:=by
 obtain⟨m,g,F⟩:=h;exact⟨m,g,F.bn,F.ak,F.code,F.me,F.hi,F.args,F.a8,F.pos,F.aH,F.self.mono b,fun v a=>(F.fg v a).mono b,fun v a=>(F.ax v a).mono b,fun v a=>(F.ae v a).mono b⟩
def Fr.len{w:Wd}{n:Int}{m:Me}{h:List Int}{f:j4}{d:Nat}(F:Fr w n m h f d):∃i,f.code[f.aH.toNat]?=some i/\j3 f.code f.aH=some i/\i∈m.code/\f.aH<f.code.length/\f.aA.length+d<=12 /\
  (U0 i f.aH).1<=((f.aA.length+d:Nat):Int)/\(i.op=17->f.aA.length+d=1)/\0<=wr (((f.aA.length+d:Nat):Int)+(U0 i f.aH).2.1) /\
  ∀to∈(U0 i f.aH).2.2,0<=to/\h[to.toNat]?=some (wr (((f.aA.length+d:Nat):Int)+(U0 i f.aH).2.1)):=by
 have a:f.aH.toNat<m.code.length:=by
  have:=(OR.1 F.aH).1;rw[F.hi.len] at this;exact this
 have hi:m.code[f.aH.toNat]?=some m.code[f.aH.toNat]:=No a;have:=F.hi.aH f.aH.toNat _ _ F.aH d9 hi;rw[Int.toNat_of_nonneg F.pos] at this;obtain⟨g,o,j,k,l⟩:=this;refine⟨m.code[f.aH.toNat],by rw[F.code,hi],by rw[F.code,fC F.pos,hi],List.getElem_mem a,by rw[F.code];have:=F.pos;omega,d9,g,fun e=>by have:=j e;omega,k,fun to b=>?_⟩;rcases l to b with h|h
 ·cases h
 ·exact h
def Fr.go{w:Wd}{n:Int}{m:Me}{h:List Int}{f:j4}{d:Nat}(F:Fr w n m h f d)(to:Int)(T S:List V)(b:Nat)(e:0<=to)(a:h[to.toNat]?=some ((S.length+b:Nat):Int))(g:T.length=f.a8.length)(vT:∀v∈T,O9 n v)(i:∀v∈S,O9 n v):Fr w n m h { f with aH:=to,a8:=T,aA:=S } b :=
 ⟨F.bn,F.ak,F.code,F.me,F.hi,F.args,by rw[show({ f with aH:=to,a8:=T,aA:=S }:j4).a8=T from rfl,g];exact F.a8,e,a,F.self,F.fg,vT,i⟩
def xe(w:Wd)(n:Int)(o:Ob):Prop:=0<=o.cls/\(0<o.cls->4<=o.cls)/\o.cls<w.a7.length/\(o.aG.length:Int)=l8 w o.cls/\∀v∈o.aG,O9 n v
def xe.mono{w:Wd}{n a:Int}{o:Ob}(h:xe w n o)(b:n<=a):xe w a o:=⟨h.1,h.2.1,h.2.2.1,h.2.2.2.1,fun v d=>(h.2.2.2.2 v d).mono b⟩
structure iK(w:Wd)(h:List Ob):Prop where
 len:h.length<=60
 ob:∀o∈h,xe w (h.length:Int) o
def PQ(w:Wd)(n:Int):List j4->Prop
 |[]=>True
 |f::F=>dm w n 0 f/\∀g∈F,dm w n 1 g
structure cd(w:Wd)(fuel:Int)(c:Cf):Prop where
 heap:iK w c.heap
 fl:c.fs.length<=20
 fs:PQ w (c.heap.length:Int) c.fs
 sends:0<=c.sends/\c.sends<=fuel/\fuel<=400
 turns:0<=c.turns/\c.turns<=300
 back:O9 (c.heap.length:Int) c.back
def cd.Ph{w:Wd}{fuel:Int}{c:Cf}(I:cd w fuel c):∀f∈c.fs,∃d,dm w (c.heap.length:Int) d f:=fun f a=>by
 have h:=I.fs;cases b:c.fs with
 |nil=>rw[b] at a;cases a
 |cons g G =>
  rw[b] at h a;rcases QG.1 a with rfl|a
  ·exact⟨0,h.1⟩
  ·exact⟨1,h.2 f a⟩
def cd.wk{w:Wd}{fuel:Int}{c:Cf}(W:cI w)(I:cd w fuel c){Q:Int->Int->Fs×Bool}(a:∀k j,(Q k j).2=true->0<=(Q k j).1.a8/\(Q k j).1.a8<=1000):Wk w Q c:=by
 refine⟨by have:=W.cls;omega,W.a8,fun k=>by have:=W.aG k;omega,a,⟨by have:=I.heap.len;omega,fun o g=>?_⟩,by have:=I.fl;omega,fun f b=>?_,by have:=I.sends;omega,by have:=I.turns;omega⟩
 ·have h:=(I.heap.ob o g).2.2.2.1;have:=W.aG o.cls;omega
 ·obtain⟨d,m,h,F⟩:=I.Ph f b;obtain⟨i,_,_,_,_,n,_⟩:=F.len;exact⟨d9,by rw[F.code];have:=F.me.len;omega,fun v l e=>(F.ae v l).num e⟩
def bA(f:j4):Nat:=(f.code.length-f.aH).toNat+(if f.aZ=true then 70 else 0)
def mu(fuel:Int)(c:Cf):Nat:=(c.fs.map bA).sum+1000*(fuel-c.sends).toNat+1000*(301-c.turns).toNat
structure gi(w:Wd)(fuel:Int)(c c':Cf):Prop where
 mu:mu fuel c'<mu fuel c
 sends:c.sends<=c'.sends/\c'.sends<=fuel
 heap:c.heap.length<=c'.heap.length
 inv:c'.err=0->cd w fuel c'
def qp{f:j4}(h:f.aH<f.code.length):bA { f with aH:=f.aH+1 }+1=bA f:=by
 unfold bA;simp only;omega
def FE{w:Wd}{fuel:Int}{c:Cf}{v:V}(d:iK w c.heap)(hl:c.fs.length<=20)(b:∀g∈c.fs,dm w (c.heap.length:Int) 1 g)(e:0<=c.sends/\c.sends<=fuel/\fuel<=400)(i:0<=c.turns/\c.turns<=300)(k:O9 (c.heap.length:Int) c.back)(j:O9 (c.heap.length:Int) v):cd w fuel (cm c v):=by
 unfold cm;cases l:c.fs with
 |nil=>exact⟨d,l9,by simp only;trivial,e,i,j⟩
 |cons f F =>
  rw[l] at hl b;refine⟨d,by simpa using hl,⟨?_,fun g n=>b g (by simp[n])⟩,e,i,k⟩;obtain⟨m,h,R⟩:=b f l9;refine⟨m,h,R.bn,R.ak,R.code,R.me,R.hi,R.args,R.a8,R.pos,?_,R.self,R.fg,R.ax,fun u a=>?_⟩
  ·rw[show(L9 f v).aH=f.aH from rfl,R.aH];simp[L9]
  ·simp only[L9,QS,Qf] at a;rcases a with a|rfl
   ·exact R.ae u a
   ·exact j
def tn{fuel:Int}{c:Cf}{v:V}:mu fuel (cm c v)=mu fuel c:=by
 unfold cm;cases a:c.fs with
 |nil=>simp[mu,a]
 |cons f F=>simp[mu,a,bA,L9]
def iE(c:Cf)(v:V):(cm c v).sends=c.sends/\(cm c v).turns=c.turns/\(cm c v).err=c.err/\(cm c v).ev=c.ev:=by
 unfold cm;split<;>exact⟨rfl,rfl,rfl,rfl⟩
def qm{Q:Int->Int->Fs×Bool}(a:∀k j,(Q k j).2=false)(k j:Int)(m:Me)(self:V)(args:List V):fH Q k j m self args=⟨k,j,false,m.code,self,args,QH m.a8.toNat ⟨0,0⟩,[],0⟩:=by
 unfold fH;rw[a];rfl
def zw{w:Wd}{fuel:Int}{Q:Int->Int->Fs×Bool}(W:cI w)(y:∀k j,(Q k j).2=false)(c:Cf)(H:c.err=0)(C:iK w c.heap)(hl:c.fs.length<=20)(B:∀g∈c.fs,dm w (c.heap.length:Int) 1 g)(p:0<=c.sends/\c.sends<=fuel/\fuel<=400)(D:0<=c.turns/\c.turns<=300)(A:O9 (c.heap.length:Int) c.back)(k j:Int)(self:V)(args:List V)(e:O9 (c.heap.length:Int) self)(d:∀v∈args,O9 (c.heap.length:Int) v)(n:∃x m,j3 w.a7 k=some x/\j3 x.aB j=some m):∃c',fO w fuel Q c k j self args=some c'/\c.sends<=c'.sends/\c'.sends<=fuel/\c'.heap=c.heap/\mu fuel c'<=mu fuel c/\(c'.err=0->cd w fuel c'):=by
 obtain⟨x,m,n,s⟩:=n;unfold fO;rw[n];simp only[A0];rw[s];simp only[A0];by_cases t:m.args=args.length
 ·rw[R1 (by simpa using t)];by_cases q:m.aS=0
  ·rw[R1 (by simpa using q)];by_cases o:fuel<=c.sends
   ·rw[RA o];exact⟨_,rfl,QQ _,p.2.1,rfl,NO _,fun h=>by cases h⟩
   rw[R1 o];by_cases b:20<=c.fs.length
   ·rw[RA b];exact⟨_,rfl,QQ _,p.2.1,rfl,NO _,fun h=>by cases h⟩
   rw[R1 b];have r:uY w k m:=by
    rcases W.ak k x j m n s with h|h
    ·exact h
    ·exact absurd q h.1
   refine⟨_,rfl,bL,bL,rfl,?_,fun _=>⟨C,by simp only[QI];omega,⟨?_,B⟩,bL,D,A⟩⟩
   ·have G:=r.len;simp only[mu,QO,QX,qm y,bA];simp only[Qe,if_false];omega
   ·obtain⟨h,hi,E⟩:=r.cK;rw[qm y];refine⟨m,h,rfl,⟨x,n,s⟩,rfl,r,hi,by rw[t],?_,QQ _,by simpa using E,e,d,fun v u=>?_,fun v u=>by cases u⟩
    ·have:=r.a8;simp only[List.length_replicate];omega
    ·rw[(List.mem_replicate.1 u).2];exact O9.nil _
  ·rw[RA (by simpa using q)];by_cases o:fuel<=c.sends
   ·rw[RA o];exact⟨_,rfl,QQ _,p.2.1,rfl,NO _,fun h=>by cases h⟩
   rw[R1 o];have z:m.args=1:=by
    rcases W.ak k x j m n s with h|h
    ·exact absurd h.aS q
    ·exact h.2.1
   obtain⟨a,_,z⟩:=V7 (l:=args) (i:=0) (QQ _) d9;rw[z];simp only[A0];by_cases b:(ck m.aS self a).2=0
   ·rw[R1 (by simpa using b)];refine⟨_,rfl,by rw[(iE _ _).1];simp only;omega,by rw[(iE _ _).1];simp only;omega,ot _ _,?_,fun _=>?_⟩
    ·rw[tn];simp only[mu];omega
    ·exact FE C hl B ⟨bL,bL,p.2.2⟩ D A (O9.aS b)
   ·rw[RA (by simpa using b)];exact⟨_,rfl,by simp only[I7];omega,by simp only[I7];omega,rfl,by simp only[mu,I7];omega,fun h=>absurd h b⟩
 ·rw[RA (by simpa using t)];exact⟨_,rfl,QQ _,p.2.1,rfl,NO _,fun h=>by cases h⟩
def lA{i:Ins}{p:Int}(h:i.op=1\/i.op=2\/i.op=3\/i.op=4\/i.op=5\/i.op=6\/i.op=7\/i.op=8\/i.op=13):U0 i p=(0,1,[wr (p+1)]):=by
 unfold U0;rcases h with h|h|h|h|h|h|h|h|h<;>simp[h]
def xG{i:Ins}{p:Int}(h:i.op=9\/i.op=11\/i.op=12):U0 i p=(1,-1,[wr (p+1)]):=by
 unfold U0;simp[h]
def GY{i:Ins}{p:Int}(h:i.op=10):U0 i p=(1,1,[wr (p+1)]):=by
 unfold U0;simp[h]
def AL{i:Ins}{p:Int}(h:i.op=14):U0 i p=(wr (i.a+1),-i.a,[wr (p+1)]):=by
 unfold U0;simp[h]
def Nl{i:Ins}{p:Int}(h:i.op=15):U0 i p=(0,0,[i.a]):=by
 unfold U0;simp[h]
def FY{i:Ins}{p:Int}(h:i.op=16):U0 i p=(1,-1,[wr (p+1),i.a]):=by
 unfold U0;simp[h]
section
variable {w:Wd}{fuel:Int}{c:Cf}{f:j4}{F:List j4}
def kD(I:cd w fuel c)(d:c.fs=f::F){c':Cf}{g:j4}(e1:c'.fs=g::F)(e:c'.sends=c.sends)(i:c'.turns=c.turns)(j:c'.back=c.back)(k:iK w c'.heap)(h:c.heap.length<=c'.heap.length)(o:bA g+1=bA f)(m:c'.err=0->dm w (c'.heap.length:Int) 0 g):gi w fuel c c':=by
 have a:=I.fs;have b:=I.fl;rw[d] at a b;refine⟨?_,by rw[e];exact⟨QQ _,I.sends.2.1⟩,h,fun l=>⟨k,by rw[e1];simpa using b,?_,by rw[e];exact I.sends,by rw[i];exact I.turns,by rw[j];exact I.back.mono d9⟩⟩
 ·simp only[mu,e1,e,i,d,QO,QX];omega
 ·rw[e1];exact⟨m l,fun x n=>(a.2 x n).mono d9⟩
def Fm(I:cd w fuel c)(e:c.fs=f::F)(g:j4)(aa:g.aH=f.aH+1)(k:g.code=f.code)(l:g.aZ=f.aZ)(o:f.code.length<=1000)(i:f.aZ=false)(q:0<=f.aH/\f.aH<f.code.length)(to:Int)(p:0<=to)(r:c.err=0)(m:dm w (c.heap.length:Int) 0 { g with aH:=to })(j:f.code.length<=60):gi w fuel c (cQ c g F to):=by
 have a:=I.fs;have d:=I.fl;have s:=I.turns;rw[e] at a d;unfold cQ;by_cases h:to<g.aH
 ·rw[RA h];refine⟨?_,⟨QQ _,I.sends.2.1⟩,NO _,fun b=>⟨I.heap,by simpa using d,⟨m,a.2⟩,I.sends,?_,I.back⟩⟩
  ·simp only[mu,e,QO,QX,bA,k,l,i];simp only[Qe,if_false];omega
  ·simp only at b⊢;by_cases n:300<c.turns+1
   ·rw[RA n] at b;cases b
   ·omega
 ·rw[R1 h];refine⟨?_,⟨QQ _,I.sends.2.1⟩,NO _,fun b=>⟨I.heap,by simpa using d,⟨m,a.2⟩,I.sends,I.turns,I.back⟩⟩;simp only[mu,e,QO,QX,bA,k,l,i];simp only[Qe,if_false];omega
def Nj{n:Int}{h:List Ob}(a:iK w h)(b:n=h.length)(v:V)(k:Int):O9 n (jY h v k):=by
 unfold jY;split
 ·split
  ·rename_i o d;rw[List.getD_eq_getElem?_getD];cases e:o.aG[k.toNat]? with
   |none=>exact O9.nil n
   |some x =>
    have:=(a.ob o (QM d)).2.2.2.2 x (QM e);rw[b];exact this
  ·exact O9.nil n
 ·exact O9.nil n
def OX{h:List Ob}(d:iK w h){o v:V}{k:Int}(q:O9 (h.length:Int) o)(r:O9 (h.length:Int) v)(p:0<=k):∃e,im h o k v=some e/\iK w e/\e.length=h.length:=by
 unfold im;by_cases g:o.k=4
 ·rw[RA g];have i:=q.ref g;rw[RA i.1];obtain⟨b,m,_⟩:=V7 i.1 i.2;rw[m];simp only;by_cases n:k<(b.aG.length:Int)
  ·rw[RA n,RA p];refine⟨_,rfl,⟨by rw[Qa];exact d.len,fun x l=>?_⟩,Qa⟩;rw[Qa];rcases List.mem_or_eq_of_mem_set l with l|rfl
   ·exact d.ob x l
   ·have a:=d.ob b (QM m);refine⟨a.1,a.2.1,a.2.2.1,by simp only[Qa];exact a.2.2.2.1,fun u j=>?_⟩;rcases List.mem_or_eq_of_mem_set j with j|rfl
    ·exact a.2.2.2.2 u j
    ·exact r
  ·rw[R1 n];exact⟨_,rfl,d,rfl⟩
 ·rw[R1 g];exact⟨_,rfl,d,rfl⟩
def GO(W:cI w){h:List Ob}(d:iK w h)(hl:h.length<60){a:Int}(i:a=0\/(4<=a/\a<w.a7.length))(g:0<w.a7.length):iK w (h++[⟨a,QH (l8 w a).toNat ⟨0,0⟩⟩]):=by
 refine⟨F5,fun o b=>?_⟩;rcases QS.1 b with b|b
 ·exact(d.ob o b).mono F5
 ·simp only[Qf] at b;subst b;have:=W.aG a;exact⟨bL,bL,bL,by simp only[List.length_replicate];omega,fun v e=>by rw[(List.mem_replicate.1 e).2];exact O9.nil _⟩
def Dc{l:List V}(h:1<=l.length):∃v,l.getLast?=some v/\v∈l:=by
 cases hl:l.getLast? with
 |none=>rw[List.getLast?_eq_none_iff] at hl;subst hl;simp at h
 |some v=>exact⟨v,rfl,List.mem_of_getLast? hl⟩
def qW{f:j4}(h:1<=f.aA.length):∃v,cc f=some (v,{ f with aA:=f.aA.dropLast })/\v∈f.aA:=by
 obtain⟨v,a,b⟩:=Dc h;exact⟨v,by unfold cc;rw[a];rfl,b⟩
def mZ{Q:Int->Int->Fs×Bool}(W:cI w)(M:0<w.a7.length)(hQ:∀k j,(Q k j).2=false)(I:cd w fuel c)(he:c.err=0)(r:c.fs=f::F):∃c',L6 w fuel (fun _ k s=>l7 w s k) Q c=some c'/\gi w fuel c c':=by
 have Z:=I.fs;have hfl:=I.fl;rw[r] at Z hfl;simp only[QI] at hfl;obtain⟨⟨m,h,R⟩,Z⟩:=Z;obtain⟨i,hi1,hi2,him,O,h12,d,E,hpos,b⟩:=R.len;simp only[Nat.add_zero] at h12 d E hpos b;have aa:=R.pos;have hme:=R.me;have hcl:f.code.length<=60:=by rw[R.code];exact hme.len
 have D:wr (f.aH+1)=f.aH+1:=q8 ino;have q:=tZ (hme.num i him);have z:=qp O;unfold L6;rw[r];simp only[hi2,A0];have push:∀v:V,O9 (c.heap.length:Int) v->U0 i f.aH=(0,1,[wr (f.aH+1)])->∀n:Int,(c.heap.length:Int)<=n->dm w n 0 (L9 { f with aH:=f.aH+1 } v):=by
  intro v x y n hn;rw[y] at b;have:=b (wr (f.aH+1)) l9;rw[D] at this;simp only at this;rw[q8 ino] at this;refine dm.mono ⟨m,h,R.go (f.aH+1) f.a8 (f.aA++[v]) 0 d9 (by rw[this.2];simp) rfl R.ax (fun u t=>?_)⟩ hn;rcases QS.1 t with t|t
  ·exact R.ae u t
  ·rw[Qf.1 t];exact x
 have iO:∀v:V,O9 (c.heap.length:Int) v->U0 i f.aH=(0,1,[wr (f.aH+1)])->gi w fuel c { c with fs:=L9 { f with aH:=f.aH+1 } v::F }:=fun v x y =>
  kD I r rfl rfl rfl rfl I.heap (NO _) z fun _=>push v x y _ (QQ _)
 have drop:∀v:V,cc f=some (v,{ f with aA:=f.aA.dropLast })->U0 i f.aH=(1,-1,[wr (f.aH+1)])->∀T:List V,T.length=f.a8.length->(∀u∈T,O9 (c.heap.length:Int) u) ->
   dm w (c.heap.length:Int) 0 { f with aH:=f.aH+1,a8:=T,aA:=f.aA.dropLast }:=by
  intro v x y T hT hT2;rw[y] at b d;have:=b (wr (f.aH+1)) l9;rw[D] at this;simp only at this d;rw[q8 ino] at this;exact⟨m,h,R.go (f.aH+1) T f.aA.dropLast 0 d9 (by rw[this.2,List.length_dropLast];congr 1;omega) hT hT2 fun u t=>R.ae u ((List.dropLast_sublist _).subset t)⟩
 by_cases S:i.op=14
 ·rw[RA S];rw[AL S] at d b;have B:0<=i.a/\i.a<5:=by
   rcases q with⟨h,_⟩|⟨h,_⟩|⟨h,_⟩|⟨h,_⟩|⟨h,_⟩|⟨h,_⟩|⟨_,h⟩|⟨h,_⟩<;>omega
  rw[q8 ino] at d;simp only at d;obtain⟨cl,hcl2,hm⟩:=R.ak;have y:=b (wr (f.aH+1)) l9;rw[D] at y;simp only at y;rw[q8 ino] at y;unfold kq;rw[RA bL];have L:f.aA.length-i.a.toNat-1<f.aA.length:=d9;simp only[No L,hcl2,hm,A0];have P:O9 (c.heap.length:Int) f.aA[f.aA.length-i.a.toNat-1]:=R.ae _ (List.getElem_mem L);by_cases hj:(l7 w i.name (y9 c.heap f.aA[f.aA.length-i.a.toNat-1])).2<0
  ·rw[RA hj];exact⟨_,rfl,kD I r rfl rfl rfl rfl I.heap (NO _) z fun e=>by cases e⟩
  ·rw[R1 hj];obtain⟨x',m',hx',hm',_⟩:=p6 (w:=w) (s:=i.name) (c:=y9 c.heap f.aA[f.aA.length-i.a.toNat-1]) d9;have hg:dm w (c.heap.length:Int) 1 { f with aH:=f.aH+1,aA:=f.aA.take (f.aA.length-i.a.toNat-1) } :=
    ⟨m,h,R.go (f.aH+1) f.a8 (f.aA.take (f.aA.length-i.a.toNat-1)) 1 d9 (by rw[y.2];congr 1;simp;omega) rfl R.ax fun u t=>R.ae u (List.mem_of_mem_take t)⟩
   obtain⟨c',h1',h2',h3',h4',h5',h6'⟩:=zw (Q:=Q) (fuel:=fuel) W hQ { c with fs:={ f with aH:=f.aH+1,aA:=f.aA.take (f.aA.length-i.a.toNat-1) }::F,ev:=c.ev++[(P7 { f with aH:=f.aH+1 } m i f.aH,y9 c.heap f.aA[f.aA.length-i.a.toNat-1])] }
    he I.heap F5 (fun g N=>by
     rcases QG.1 N with rfl|N
     ·exact hg
     ·exact Z g N) I.sends I.turns I.back _ _ _ (f.aA.drop (f.aA.length-i.a.toNat)) P (fun v x=>R.ae v (List.mem_of_mem_drop x)) ⟨x',m',hx',hm'⟩
   refine⟨c',h1',?_,⟨h2',h3'⟩,by rw[h4'];exact NO _,h6'⟩;refine Nat.lt_of_le_of_lt h5' ?_;simp only[mu,r,QO,QX];have:bA { f with aH:=f.aH+1,aA:=f.aA.take (f.aA.length-i.a.toNat-1) }=bA { f with aH:=f.aH+1 }:=rfl;rw[this];omega
 rw[R1 S];by_cases U:i.op=15
 ·rw[RA U];rw[Nl U] at b;have y:=b i.a l9;simp only[Int.add_zero] at y;rw[q8 ino] at y;refine⟨_,rfl,Fm I r { f with aH:=f.aH+1 } rfl rfl rfl d9 R.bn ⟨aa,O⟩ i.a y.1 he ?_ hcl⟩;exact⟨m,h,R.go i.a f.a8 f.aA 0 y.1 (by rw[y.2];rfl) rfl R.ax R.ae⟩
 rw[R1 U];by_cases K:i.op=16
 ·rw[RA K];have G:1<=f.aA.length:=by rw[FY K] at d;simp only at d;omega
  obtain⟨v,x,A⟩:=qW (f:={ f with aH:=f.aH+1 }) G;rw[x];rw[FY K] at b;have y:=b i.a l9;have hy:=b (wr (f.aH+1)) l9;rw[D] at hy;simp only at y hy;rw[q8 ino] at y hy;have hd:(f.aA.length:Int)+-1=((f.aA.dropLast.length:Nat):Int):=by rw[List.length_dropLast];omega
  have hy':dm w (c.heap.length:Int) 0 { f with aH:=f.aH+1,aA:=f.aA.dropLast }:=⟨m,h,R.go (f.aH+1) f.a8 f.aA.dropLast 0 d9 (by rw[hy.2,hd];rfl) rfl R.ax fun u t=>R.ae u ((List.dropLast_sublist _).subset t)⟩;refine⟨_,rfl,?_⟩;unfold kN;by_cases k1:v.k=1
  ·rw[RA k1];refine Fm I r { f with aH:=f.aH+1,aA:=f.aA.dropLast } rfl rfl rfl d9 R.bn ⟨aa,O⟩ i.a y.1 he ?_ hcl;exact⟨m,h,R.go i.a f.a8 f.aA.dropLast 0 y.1 (by rw[y.2,hd];rfl) rfl R.ax fun u t=>R.ae u ((List.dropLast_sublist _).subset t)⟩
  ·rw[R1 k1];by_cases k2:v.k=2
   ·rw[RA k2];exact kD I r rfl rfl rfl rfl I.heap (NO _) z fun _=>hy'
   ·rw[R1 k2];exact kD I r rfl rfl rfl rfl I.heap (NO _) z fun e=>by cases e
 rw[R1 K];by_cases X:i.op=17
 ·rw[RA X];have G:1<=f.aA.length:=by have:=E X;omega
  obtain⟨v,x,A⟩:=qW (f:={ f with aH:=f.aH+1 }) G;rw[x];refine⟨_,rfl,?_,?_,?_,fun e=>?_⟩
  ·rw[tn];simp only[mu,r,QO,QX];omega
  ·rw[(iE _ _).1];exact⟨QQ _,I.sends.2.1⟩
  ·rw[ot];exact NO _
  ·exact FE I.heap bL Z I.sends I.turns I.back (R.ae v A)
 rw[R1 X];have o18:¬i.op=18:=by
  rcases q with⟨h,_⟩|⟨h,_⟩|⟨h,_⟩|⟨h,_⟩|⟨h,_⟩|⟨h,_⟩|⟨h,_⟩|⟨h,_⟩<;>omega
 have o21:¬i.op=21:=by
  rcases q with⟨h,_⟩|⟨h,_⟩|⟨h,_⟩|⟨h,_⟩|⟨h,_⟩|⟨h,_⟩|⟨h,_⟩|⟨h,_⟩<;>omega
 rw[R1 o18,R1 o21];have o19:¬i.op=19:=by
  rcases q with⟨h,_⟩|⟨h,_⟩|⟨h,_⟩|⟨h,_⟩|⟨h,_⟩|⟨h,_⟩|⟨h,_⟩|⟨h,_⟩<;>omega
 have o20:¬i.op=20:=by
  rcases q with⟨h,_⟩|⟨h,_⟩|⟨h,_⟩|⟨h,_⟩|⟨h,_⟩|⟨h,_⟩|⟨h,_⟩|⟨h,_⟩<;>omega
 unfold k9;by_cases o1:i.op=1
 ·rw[RA o1];exact⟨_,rfl,iO _ R.self (lA d9)⟩
 rw[R1 o1];by_cases o2:i.op=2
 ·rw[RA o2];have B:0<=i.a/\i.a<m.args:=by
   rcases q with⟨h,_⟩|⟨h,_⟩|⟨h,_⟩|⟨h,_⟩|⟨h,_⟩|⟨h,_⟩|⟨h,_⟩|⟨h,_⟩<;>omega
  obtain⟨v,hv1,x⟩:=V7 (l:=f.args) B.1 (by rw[R.args];exact B.2);simp only[x,QZ];exact⟨_,rfl,iO v (R.fg v (Z5 x)) (lA d9)⟩
 rw[R1 o2];by_cases o3:i.op=3
 ·rw[RA o3];have B:0<=i.a/\i.a<m.a8:=by
   rcases q with⟨h,_⟩|⟨h,_⟩|⟨h,_⟩|⟨h,_⟩|⟨h,_⟩|⟨h,_⟩|⟨h,_⟩|⟨h,_⟩<;>omega
  obtain⟨v,hv1,x⟩:=V7 (l:=f.a8) B.1 (by rw[R.a8];exact B.2);simp only[x,QZ];exact⟨_,rfl,iO v (R.ax v (Z5 x)) (lA d9)⟩
 rw[R1 o3];by_cases o4:i.op=4
 ·rw[RA o4];exact⟨_,rfl,iO _ (Nj I.heap rfl _ _) (lA d9)⟩
 rw[R1 o4];by_cases o5:i.op=5
 ·rw[RA o5];have B:-1073741824<=i.a/\i.a<=1073741824:=by
   rcases q with⟨h,_⟩|⟨h,_⟩|⟨h,_⟩|⟨h,_⟩|⟨_,h⟩|⟨h,_⟩|⟨h,_⟩|⟨h,_⟩<;>omega
  exact⟨_,rfl,iO _ (O9.int _ B) (lA d9)⟩
 rw[R1 o5];by_cases o6:i.op=6
 ·rw[RA o6];exact⟨_,rfl,iO _ (O9.nil _) (lA d9)⟩
 rw[R1 o6];by_cases o7:i.op=7
 ·rw[RA o7];exact⟨_,rfl,iO _ (O9.BM _) (lA d9)⟩
 rw[R1 o7];by_cases o8:i.op=8
 ·rw[RA o8];exact⟨_,rfl,iO _ (O9.BX _) (lA d9)⟩
 rw[R1 o8];have C:i.op=9\/i.op=11\/i.op=12->1<=f.aA.length:=fun hh=>by rw[xG hh] at d;simp only at d;omega
 by_cases o9:i.op=9
 ·rw[RA o9];obtain⟨v,x,A⟩:=qW (f:=f) (C d9);have H:cc { f with aH:=f.aH+1 }=some (v,{ f with aH:=f.aH+1,aA:=f.aA.dropLast }):=by
   obtain⟨M,_⟩:=fi x;unfold cc;rw[show({ f with aH:=f.aH+1 }:j4).aA=f.aA from rfl,M];rfl
  rw[H];exact⟨_,rfl,kD I r rfl rfl rfl rfl I.heap (NO _) z fun _=>drop v x (xG d9) f.a8 rfl R.ax⟩
 rw[R1 o9];by_cases J:i.op=10
 ·rw[RA J];have G:1<=f.aA.length:=by rw[GY J] at d;simp only at d;omega
  obtain⟨v,x,A⟩:=Dc (l:=f.aA) G;simp only[x,QZ];refine⟨_,rfl,kD I r rfl rfl rfl rfl I.heap (NO _) z fun _=>?_⟩;rw[GY J] at b;have:=b (wr (f.aH+1)) l9;rw[D] at this;simp only at this;rw[q8 ino] at this;refine⟨m,h,R.go (f.aH+1) f.a8 (f.aA++[v]) 0 d9 (by rw[this.2];simp) rfl R.ax (fun u t=>?_)⟩;rcases QS.1 t with t|t
  ·exact R.ae u t
  ·rw[Qf.1 t];exact R.ae v A
 rw[R1 J];by_cases o11:i.op=11
 ·rw[RA o11];obtain⟨v,x,A⟩:=qW (f:=f) (C d9);have H:cc { f with aH:=f.aH+1 }=some (v,{ f with aH:=f.aH+1,aA:=f.aA.dropLast }):=by
   obtain⟨M,_⟩:=fi x;unfold cc;rw[show({ f with aH:=f.aH+1 }:j4).aA=f.aA from rfl,M];rfl
  have B:0<=i.a/\i.a<m.a8:=by
   rcases q with⟨h,_⟩|⟨h,_⟩|⟨h,_⟩|⟨h,_⟩|⟨h,_⟩|⟨h,_⟩|⟨h,_⟩|⟨h,_⟩<;>omega
  simp only[H,A0];rw[RA ⟨B.1,by rw[R.a8];exact B.2⟩];refine⟨_,rfl,kD I r rfl rfl rfl rfl I.heap (NO _) z fun _=>drop v x (xG d9) (f.a8.set i.a.toNat v) Qa fun u t=>?_⟩;rcases List.mem_or_eq_of_mem_set t with t|rfl
  ·exact R.ax u t
  ·exact R.ae _ A
 rw[R1 o11];by_cases o12:i.op=12
 ·rw[RA o12];obtain⟨v,x,A⟩:=qW (f:=f) (C d9);have H:cc { f with aH:=f.aH+1 }=some (v,{ f with aH:=f.aH+1,aA:=f.aA.dropLast }):=by
   obtain⟨M,_⟩:=fi x;unfold cc;rw[show({ f with aH:=f.aH+1 }:j4).aA=f.aA from rfl,M];rfl
  have B:0<=i.a:=by
   rcases q with⟨h,_⟩|⟨h,_⟩|⟨h,_⟩|⟨h,_⟩|⟨h,_⟩|⟨h,_⟩|⟨h,_⟩|⟨h,_⟩<;>omega
  obtain⟨H',e1,e2,e3⟩:=OX I.heap (o:=f.aP) (v:=v) (k:=i.a) R.self (R.ae v A) B;simp only[H,A0,e1,QZ];refine⟨_,rfl,kD I r rfl rfl rfl rfl e2 (by simp only[e3];exact NO _) z fun _=>?_⟩;simp only[e3];exact drop v x (xG d9) f.a8 rfl R.ax
 rw[R1 o12,R1 o19,R1 o20];by_cases o13:i.op=13
 ·rw[RA o13];have B:i.a=0\/(4<=i.a/\i.a<w.a7.length):=by
   rcases q with⟨h,_⟩|⟨h,_⟩|⟨h,_⟩|⟨h,_⟩|⟨h,_⟩|⟨_,h⟩|⟨h,_⟩|⟨h,_⟩<;>omega
  by_cases Y:60<=c.heap.length
  ·rw[RA Y];exact⟨_,rfl,kD I r rfl rfl rfl rfl I.heap (NO _) z fun e=>by cases e⟩
  ·rw[R1 Y];have hnew:=GO W I.heap d9 B M;refine⟨_,rfl,kD I r rfl rfl rfl rfl hnew l9 z fun _=>?_⟩;have y:=lA (i:=i) (p:=f.aH) d9;rw[y] at b;have:=b (wr (f.aH+1)) l9;rw[D] at this;simp only at this;rw[q8 ino] at this;obtain⟨m2,h2,R2⟩:dm w ((c.heap++[(⟨i.a,QH (l8 w i.a).toNat ⟨0,0⟩⟩:Ob)]).length:Int) 0 f:=dm.mono ⟨m,h,R⟩ (by simp only[Of,Qq];omega);have R3:Fr w ((c.heap++[(⟨i.a,QH (l8 w i.a).toNat ⟨0,0⟩⟩:Ob)]).length:Int) m h f 0 :=
    ⟨R.bn,R.ak,R.code,R.me,R.hi,R.args,R.a8,R.pos,R.aH,R2.self,R2.fg,R2.ax,R2.ae⟩
   show dm w _ 0 { f with aH:=f.aH+1,a8:=f.a8,aA:=f.aA++[⟨4,(c.heap.length:Int)⟩] };refine⟨m,h,R3.go (f.aH+1) f.a8 (f.aA++[⟨4,(c.heap.length:Int)⟩]) 0 d9 (by rw[this.2];simp) rfl R3.ax (fun u t=>?_)⟩;rcases QS.1 t with t|t
   ·exact R3.ae u t
   ·rw[Qf.1 t];exact O9.obj F5
 ·exfalso;rcases q with⟨h,_⟩|⟨h,_⟩|⟨h,_⟩|⟨h,_⟩|⟨h,_⟩|⟨h,_⟩|⟨h,_⟩|⟨h,_⟩<;>omega
end
def pN(n:Int):List V->Int
 |[]=>0
 |v::l=>if Z9 v n=0 then pN n l else Z9 v n
def pL(n:Int):List V->M7 Int Unit
 |[]=>.next ()
 |v::l=>if Z9 v n=0 then pL n l else .ret (Z9 v n)
def zi(n:Int):∀l:List V,(match pL n l with|.ret r=>some r|.next ()=>some (0:Int))=some (pN n l)
 |[]=>rfl
 |x::l=>by
  rw[pL,pN];by_cases a:Z9 x n=0
  ·rw[RA a,RA a];exact zi n l
  ·rw[R1 a,R1 a]
def I9(w:Wd)(c:O8)(fuel:Int):Int:=if W9 c.name=false then 7 else if 4<c.args.length then 5 else if fuel<0\/400<fuel then 3 else pN (w.heap.length:Int) (c.aP::c.args)
def EB{n:Int}:∀{l:List V},pN n l=0->∀v∈l,O9 n v
 |[],_,v,a=>by cases a
 |x::l,h,v,a=>by
  unfold pN at h;by_cases b:Z9 x n=0
  ·rw[RA b] at h;rcases QG.1 a with rfl|a
   ·exact b
   ·exact EB h v a
  ·rw[R1 b] at h;exact absurd h b
def qS{w:Wd}{c:O8}{fuel:Int}(h:I9 w c fuel=0):W9 c.name=true/\c.args.length<=4/\0<=fuel/\fuel<=400/\O9 (w.heap.length:Int) c.aP/\∀v∈c.args,O9 (w.heap.length:Int) v:=by
 unfold I9 at h;by_cases a:W9 c.name=false
 ·rw[RA a] at h;cases h
 rw[R1 a] at h;by_cases b:4<c.args.length
 ·rw[RA b] at h;cases h
 rw[R1 b] at h;by_cases d:fuel<0\/400<fuel
 ·rw[RA d] at h;cases h
 rw[R1 d] at h;have:=EB h;exact⟨by simpa using a,d9,d9,d9,this _ l9,fun v e=>this v (by simp[e])⟩
def Cm(N:Nat)(w:Wd)(c:O8):∀(l:List V) (k:Nat),l=([c.aP]++c.args).drop k->oh N w c l k=some (pL (w.heap.length:Int) l)
 |[],k,_=>rfl
 |x::l,k,h=>by
  obtain⟨b,d,_⟩:=X5 h;rw[oh,q9,b];simp only[A0,D1];rw[pL];by_cases a:Z9 x (w.heap.length:Int)=0
  ·rw[RE a,RA a];simp only[IT,R0];exact Cm N w c l (k+1) d
  ·rw[RD a,R1 a];rfl
def vh(N:Nat)(w:Wd)(c:O8)(fuel:Int):sO N w c fuel=some (I9 w c fuel):=by
 unfold sO I9;rw[sW];simp only[A0];cases f:W9 c.name with
 |false=>rfl
 |true =>
  simp only[IT,R0,Bool.true_eq_false,if_false];by_cases b:4<c.args.length
  ·have a:(4:Int)<(c.args.length:Int):=d9;rw[RE a,RA b];rfl
  ·have a:¬(4:Int)<(c.args.length:Int):=d9;rw[RD a,R1 b];simp only[R0];by_cases d:fuel<0\/400<fuel
   ·rw[RA d];by_cases e:fuel<0
    ·rw[RE e];rfl
    ·rw[RD e,RE (show 400<fuel by omega)];rfl
   ·rw[R1 d,RD (show¬fuel<0 by omega),RD (show¬400<fuel by omega)];simp only[R0,A0];rw[p9 F5,Cm N w c ([c.aP]++c.args) 0 rfl];simp only[Qz,A0];exact zi _ _
def By(N:Nat)(w:Wd):∀(l:List V) (k:Nat),nr N w l k=some (pL (w.heap.length:Int) l)
 |[],k=>rfl
 |x::l,k=>by
  rw[nr];simp only[A0,ri];rw[pL];by_cases a:Z9 x (w.heap.length:Int)=0
  ·rw[RE a,RA a];simp only[IT,R0];exact By N w l (k+1)
  ·rw[RD a,R1 a];rfl
def I0(N:Nat)(w:Wd)(c:O8)(fuel:Int):vL N w c fuel=some (I9 w c fuel):=by
 unfold vL I9;rw[jE];simp only[A0];cases g:W9 c.name with
 |false=>rfl
 |true =>
  simp only[IT,R0,Bool.true_eq_false,if_false];by_cases d:4<c.args.length
  ·have a:(4:Int)<(c.args.length:Int):=d9;rw[RE a,RA d];rfl
  ·have a:¬(4:Int)<(c.args.length:Int):=d9;rw[RD a,R1 d];simp only[R0];by_cases e:fuel<0\/400<fuel
   ·rw[RA e];by_cases f:fuel<0
    ·rw[RE f];rfl
    ·rw[RD f,RE (show 400<fuel by omega)];rfl
   ·rw[R1 e,RD (show¬fuel<0 by omega),RD (show¬400<fuel by omega)];simp only[R0,A0,ri,By,pN];by_cases b:Z9 c.aP (w.heap.length:Int)=0
    ·rw[RE b,RA b];simp only[IT,R0];exact zi _ _
    ·rw[RD b,R1 b];rfl
def bQ : Int->Int->Fs×Bool:=fun _ _=>(⟨0,IS,0,0,[]⟩,false)
inductive Path(w:Wd)(fuel:Int)(L:St->Int->ByteArray->Int×Int)(Q:Int->Int->Fs×Bool):Cf->Cf->Prop
 |refl (c:Cf):Path w fuel L Q c c
 |step {c c1 c2:Cf}:c.err=0->c.fs≠[]->L6 w fuel L Q c=some c1->Path w fuel L Q c1 c2->Path w fuel L Q c c2
def Cf.done(c:Cf):Prop:=c.err≠0\/c.fs=[]
def Path.trans{w:Wd}{fuel:Int}{L:St->Int->ByteArray->Int×Int}{Q:Int->Int->Fs×Bool}{a b c:Cf}(h:Path w fuel L Q a b)(d:Path w fuel L Q b c):Path w fuel L Q a c:=by
 induction h with
 |refl=>exact d
 |step e f g _ ih=>exact .step e f g (ih d)
def Path.pf{w:Wd}{fuel:Int}{L:St->Int->ByteArray->Int×Int}{Q:Int->Int->Fs×Bool}{a b c:Cf}(h:Path w fuel L Q a b)(d:b.done)(i:Path w fuel L Q a c)(e:c.done):b=c:=by
 induction h with
 |refl =>
  cases i with
  |refl=>rfl
  |step f g=>rcases d with d|d;exact absurd f d;exact absurd d g
 |step f g k _ ih =>
  cases i with
  |refl=>rcases e with e|e;exact absurd f e;exact absurd e g
  |step m n j l =>
   rw[k] at j;cases j;exact ih d l
def Fk{w:Wd}{fuel:Int}{N:Nat}{gl:St->Int->ByteArray->Option (Int×Int)}{gq:Int->Int->Option (Fs×Bool)}{L:St->Int->ByteArray->Int×Int}{Q:Int->Int->Fs×Bool}(p:1048578<=N)(e:∀s k n,gl s k n=some (L s k n))(g:∀k j x m,j3 w.a7 k=some x->j3 x.aB j=some m->gq k j=some (Q k j))(P:Cf->Prop)(q:∀c,P c->c.err=0->c.fs≠[]->Wk w Q c/\∃d,L6 w fuel L Q c=some d/\mu fuel d<mu fuel c/\(d.err=0->P d)):∀(n:Nat) (c:Cf),(c.err=0->P c)->mu fuel c<n ->
  ∃c',Path w fuel L Q c c'/\c'.done/\(c'.err=0->P c')/\kj N gl gq n w.a7 c.heap w.aC fuel c.sends c.turns c.fs.reverse c.back.k c.back.n c.err =
   some (w.a7,c'.heap,w.aC,fuel,c'.sends,c'.turns,c'.fs.reverse,c'.back.k,c'.back.n,c'.err)
 |0,c,_,h=>d9
 |n+1,c,l,h=>by
  rw[kj];by_cases b:c.err=0
  ·cases a:c.fs with
   |nil =>
    refine⟨c,.refl c,.inr a,l,?_⟩;simp[b,a]
   |cons f F =>
    obtain⟨W,d,o,z,r⟩:=q c (l b) b (by rw[a];simp);obtain⟨c',t,u,v,y⟩:=Fk p e g P q n d r d9;refine⟨c',.step b (by rw[a];simp) o t,u,v,?_⟩;have i:=NJ p e g c W b o;have hl:(0:Int)<((f::F).reverse.length:Int):=l9;unfold Cf.toM at i;rw[a] at i;simp only[b,RB,Qz,hl,A0,iy];rw[b] at i;rw[i];simp only[A0];exact y
  ·refine⟨c,.refl c,.inl b,l,?_⟩;simp[b]
def fV(w:Wd)(c:Cf):Wd×dX:=if c.err=0 then(⟨w.a7,c.heap,w.aC⟩,⟨c.back,0,c.sends⟩) else(w,⟨⟨0,0⟩,c.err,c.sends⟩)
def P8(w:Wd):Cf:=⟨w.heap,0,0,[],⟨0,0⟩,0,[]⟩
def fN(w:Wd)(fuel:Int)(Q:Int->Int->Fs×Bool)(c:O8):Option Cf :=
 if(l7 w c.name (y9 w.heap c.aP)).2<0 then some (I7 (P8 w) 10) else fO w fuel Q (P8 w) (l7 w c.name (y9 w.heap c.aP)).1 (l7 w c.name (y9 w.heap c.aP)).2 c.aP c.args
def kp{fuel:Int}{c:Cf}(a:fuel<=400)(d:0<=c.sends)(e:0<=c.turns)(b:(c.fs.map bA).sum<=100000):mu fuel c<1048576:=by
 unfold mu;omega
def E1{w:Wd}{fuel:Int}{Q:Int->Int->Fs×Bool}(W:cI w)(r:0<w.a7.length)(t:∀k j,(Q k j).2=false){c c':Cf}(p:Path w fuel (fun _ k s=>l7 w s k) Q c c')(u:c.sends<=fuel)(g:c.err=0->cd w fuel c):
  c.sends<=c'.sends/\c'.sends<=fuel/\c.heap.length<=c'.heap.length/\(c'.err=0->cd w fuel c'):=by
 induction p with
 |refl=>exact⟨QQ _,u,NO _,g⟩
 |@step c v x h d e _ ih =>
  cases a:c.fs with
  |nil=>exact absurd a d
  |cons f F =>
   obtain⟨q,i,b⟩:=mZ (Q:=Q) W r t (g h) h a;rw[e] at i;cases i;obtain⟨l,m,n,o⟩:=ih b.sends.2 b.inv;exact⟨Int.le_trans b.sends.1 l,m,Nat.le_trans b.heap n,o⟩
def ux{w:Wd}{N:Nat}(h:K7 N w):iK w w.heap:=⟨h.many.2.2,fun o a=>by
 have:=h.obj o a;exact⟨this.1,this.2.1,this.2.2.1,this.2.2.2.1,this.2.2.2.2⟩⟩
def wq{w:Wd}{N:Nat}{fuel:Int}{Q:Int->Int->Fs×Bool}(v:4194304<=N)(B:E8 w)(i:K7 N w)(y:∀k j,(Q k j).2=false)(c:O8)(C:I9 w c fuel=0):
  ∃a,fN w fuel Q c=some a/\0<=a.sends/\a.sends<=fuel/\a.heap=w.heap/\mu fuel a<1048576/\(a.err=0->cd w fuel a):=by
 have W:=i.nY v B;obtain⟨E,F,d,f,t,u⟩:=qS C;have b:mu fuel (P8 w)<1048576:=kp f (QQ _) (QQ _) (by simp[P8]);unfold fN;by_cases h:(l7 w c.name (y9 w.heap c.aP)).2<0
 ·rw[RA h];exact⟨_,rfl,QQ _,d,rfl,b,fun e=>by cases e⟩
 ·rw[R1 h];obtain⟨x,m,D,A,_⟩:=p6 (w:=w) (s:=c.name) (c:=y9 w.heap c.aP) d9;obtain⟨a,l,n,o,p,q,r⟩:=zw (Q:=Q) (fuel:=fuel) W y (P8 w) rfl (ux i) (by simp[P8]) (fun g z=>by cases z) ⟨QQ _,d,f⟩ ⟨QQ _,by simp[P8]⟩ (O9.nil _) _ _ c.aP c.args t u ⟨x,m,D,A⟩;exact⟨a,l,n,o,p,Nat.lt_of_le_of_lt q b,r⟩
def Dy{w:Wd}{N:Nat}{fuel:Int}{gl:St->Int->ByteArray->Option (Int×Int)}{gq:Int->Int->Option (Fs×Bool)}(a:E8 w)(c:O8)(b:I9 w c fuel≠0):
  jv N w c fuel gl gq=some (w,⟨⟨0,0⟩,I9 w c fuel,0⟩):=by
 unfold jv;rw[vh];simp only[A0];rw[RD b,jH N w a];rfl
def Fq{w:Wd}{N:Nat}{fuel:Int}{gl:St->Int->ByteArray->Option (Int×Int)}{gq:Int->Int->Option (Fs×Bool)}{L:St->Int->ByteArray->Int×Int}{Q:Int->Int->Fs×Bool}(hN:4194304<=N)(i:E8 w)(R:dD w)(u:∀s k n,gl s k n=some (L s k n))(h:∀k j x m,j3 w.a7 k=some x->j3 x.aB j=some m->gq k j=some (Q k j))(P:Cf->Prop)(H:∀c,P c->c.err=0->c.fs≠[]->Wk w Q c/\∃a,L6 w fuel L Q c=some a/\mu fuel a<mu fuel c/\(a.err=0->P a))(K:∀x∈w.a7,∀m∈x.aB,0<=m.a8/\m.a8<=1000)(O:∀k j,(Q k j).2=true->0<=(Q k j).1.a8/\(Q k j).1.a8<=1000)(c:O8)(E:I9 w c fuel=0)(a:Cf)(g:fN w fuel Q c=some a)(r:a.err=0->P a)(M:mu fuel a<1048576):
  ∃c',Path w fuel L Q a c'/\c'.done/\(c'.err=0->P c')/\jv N w c fuel gl gq=some (fV w c'):=by
 obtain⟨h1,h2,h3,h4,F,G⟩:=qS E;obtain⟨c',T,U,W,X⟩:=Fk (N:=N) (gl:=gl) (gq:=gq) d9 u h P H N a r d9;refine⟨c',T,U,W,?_⟩;unfold jv;rw[vh];simp only[A0,E,RB,IT,R0,jH N w i,sQ];have t:gm N (⟨w.a7,w.heap,w.aC⟩:Wd) (y9 w.heap c.aP) c.name=some (l7 w c.name (y9 w.heap c.aP)):=mA N w _ _ d9 R i;rw[t];simp only[A0];have b:(kj N gl gq N w.a7 a.heap w.aC fuel a.sends a.turns a.fs.reverse a.back.k a.back.n a.err).bind (fun(z,A,B,Y,l,Z,v53,C,D,o) =>
   (bif (!decide (o=(0:Int))) then((iY N w).bind fun y=>some (y,(⟨(⟨(0:Int),(0:Int)⟩:V),o,l⟩:dX))) else some ((⟨z,A,B⟩:Wd),(⟨(⟨C,D⟩:V),(0:Int),l⟩:dX))))=some (fV w c'):=by
  rw[X];simp only[A0,jH N w i,fV];by_cases p:c'.err=0
  ·rw[RE p,RA p];rfl
  ·rw[RD p,R1 p];rfl
 unfold fN at g;by_cases q:(l7 w c.name (y9 w.heap c.aP)).2<0
 ·rw[RA q] at g;cases g;rw[RE q];simp only[Qz,jS,A0];simp only[jH N w i] at b;exact b
 ·rw[R1 q] at g;rw[RD q];have d:c.aP.k=3->eb c.aP.n:=F.num;have I:=sx g;have:=wh (N:=N) h K O (P8 w) rfl (by simp[P8]) (by simp[P8]) (fun f t=>by cases t) _ _ c.aP c.args d (fun v S J=>(G v S).num J) d9 a g;have e:(P8 w).toM w fuel=(⟨(⟨w.a7,w.heap,w.aC⟩:Wd),fuel,0,0,[],⟨0,0⟩,0⟩:J7):=rfl;rw[e] at this;simp only[R0,this,A0];simp only[jH N w i] at b;rw[I] at b;exact b
def il(w:Wd)(c:O8)(fuel:Int)(Q:Int->Int->Fs×Bool)(r:Wd×dX):Prop :=
 (I9 w c fuel≠0/\r=(w,⟨⟨0,0⟩,I9 w c fuel,0⟩)) \/
 (I9 w c fuel=0/\∃a c',fN w fuel Q c=some a/\Path w fuel (fun _ k s=>l7 w s k) Q a c'/\c'.done/\r=fV w c')
def il.pf{w:Wd}{c:O8}{fuel:Int}{Q:Int->Int->Fs×Bool}{r s:Wd×dX}(h:il w c fuel Q r)(f:il w c fuel Q s):r=s:=by
 rcases h with⟨b,d⟩|⟨b,n,c',d,g,i,j⟩<;>rcases f with⟨e,a⟩|⟨e,p,o,a,k,l,m⟩
 ·rw[d,a]
 ·exact absurd e b
 ·exact absurd b e
 ·rw[d] at a;cases a;rw[j,m,Path.pf g i k l]
def lG(w:Wd)(c:O8)(fuel:Int)(r:Wd×dX)(ev:List (St×Int)):Prop :=
 (I9 w c fuel≠0/\r=(w,⟨⟨0,0⟩,I9 w c fuel,0⟩)/\ev=[]) \/
 (I9 w c fuel=0/\∃a c',fN w fuel bQ c=some a/\Path w fuel (fun _ k s=>l7 w s k) bQ a c'/\c'.done/\r=fV w c'/\ev=c'.ev)
def lG.fL{w:Wd}{c:O8}{fuel:Int}{r:Wd×dX}{ev:List (St×Int)}(h:lG w c fuel r ev):il w c fuel bQ r:=by
 rcases h with⟨a,b,_⟩|⟨a,d,c',b,e,f,g,_⟩
 ·exact .inl ⟨a,b⟩
 ·exact .inr ⟨a,d,c',b,e,f,g⟩
def lG.pf{w:Wd}{c:O8}{fuel:Int}{r s:Wd×dX}{ev a:List (St×Int)}(h:lG w c fuel r ev)(j:lG w c fuel s a):r=s/\ev=a:=by
 rcases h with⟨d,e,f⟩|⟨d,q,c',e,f,k,l,m⟩<;>rcases j with⟨g,b,i⟩|⟨g,u,t,b,i,n,o,p⟩
 ·rw[e,b,f,i];exact⟨rfl,rfl⟩
 ·exact absurd g d
 ·exact absurd d g
 ·rw[e] at b;cases b;have:=Path.pf f k i n;subst this;rw[l,o,m,p];exact⟨rfl,rfl⟩
def Ft{w:Wd}{N:Nat}{fuel:Int}{gl:St->Int->ByteArray->Option (Int×Int)}{gq:Int->Int->Option (Fs×Bool)}{Q:Int->Int->Fs×Bool}(i:4194304<=N)(g:E8 w)(e:K7 N w)(l:∀k j,(Q k j).2=false)(p:∀s k n,gl s k n=some (l7 w n k))(q:∀k j x m,j3 w.a7 k=some x->j3 x.aB j=some m->gq k j=some (Q k j))(c:O8):∃r,jv N w c fuel gl gq=some r/\il w c fuel Q r:=by
 by_cases b:I9 w c fuel=0
 ·have W:=e.nY i g;have o:0<w.a7.length:=by have:=e.many.1;omega
  have v:∀k j,(Q k j).2=true->0<=(Q k j).1.a8/\(Q k j).1.a8<=1000:=fun k j h=>by rw[l] at h;cases h
  obtain⟨d,u,H,J,K,z,A⟩:=wq (Q:=Q) i g e l c b;obtain⟨c',D,E,M,G⟩:=Fq (L:=fun _ k s=>l7 w s k) i g e.cM p q (cd w fuel) (fun c I B t=>by
   refine⟨I.wk W v,?_⟩;cases a:c.fs with
   |nil=>exact absurd a t
   |cons f F =>
    obtain⟨d,C,y⟩:=mZ (Q:=Q) W o l I B a;exact⟨d,C,y.mu,y.inv⟩) W.a8 v c b d u A z
  exact⟨_,G,.inr ⟨b,d,c',u,D,E,rfl⟩⟩
 ·exact⟨_,Dy g c b,.inl ⟨b,rfl⟩⟩
def Kh{w:Wd}{N:Nat}(i:4194304<=N)(f:E8 w)(e:K7 N w)(c:O8)(fuel:Int):∃r,wV N w c fuel=some r/\il w c fuel bQ r:=by
 obtain⟨r,g,h⟩:=Ft (fuel:=fuel) (gl:=fun a b d=>tD N a b d w) (gq:=fun a b=>tW N a b) (Q:=bQ) i f e (fun _ _=>rfl) (fun s k n=>by
  show tD N s k n w=_;unfold tD;rw[mA N w k n d9 e.cM f];rfl) (fun k j x m _ _=>rfl) c
 refine⟨r,?_,h⟩;unfold wV;rw[g];rfl
def d91(w:Wd)(gl:St->Int->ByteArray->D9->Option (Int×Int×D9))(L:St->Int->ByteArray->Int×Int)(T:D9->St×Int->D9)(sb:D9)(c:Cf):Prop :=
 ∀f F i x m k,c.fs=f::F->j3 f.code f.aH=some i->i.op=14->j3 w.a7 f.aE=some x->j3 x.aB f.aJ=some m ->
  gl (P7 f m i f.aH) k i.name (c.ev.foldl T sb)=some ((L (P7 f m i f.aH) k i.name).1,(L (P7 f m i f.aH) k i.name).2,T (c.ev.foldl T sb) (P7 f m i f.aH,k))
section
variable {w:Wd}{fuel:Int}{N:Nat}{gl:St->Int->ByteArray->D9->Option (Int×Int×D9)}{gq:Int->Int->Option (Fs×Bool)}{L:St->Int->ByteArray->Int×Int}{Q:Int->Int->Fs×Bool}
def tM{c c':Cf}{k j:Int}{self:V}{args:List V}(h:fO w fuel Q c k j self args=some c'):c'.ev=c.ev/\(c'.err≠0\/c'.sends=c.sends+1):=by
 obtain⟨x,m,_,_,h|h|⟨_,_,_,a,_,h|h⟩|h|h⟩:=lW h
 ·rw[h.2];exact⟨rfl,.inl (by simp[I7])⟩
 ·rw[h.2.2];exact⟨rfl,.inl (by simp[I7])⟩
 ·rw[h.2];exact⟨rfl,.inl h.1⟩
 ·rw[h.2];exact⟨(iE _ _).2.2.2,.inr (iE _ _).1⟩
 ·rw[h.2.2.2.2];exact⟨rfl,.inl (by simp[I7])⟩
 ·rw[h.2.2.2.2];exact⟨rfl,.inr rfl⟩
def Kc{c c':Cf}{f:j4}{F:List j4}{i:Ins}(h:k9 w c f F i=some c'):c'.ev=c.ev:=by
 unfold k9 at h;by_cases k:i.op=1
 ·rw[RA k] at h;cases h;rfl
 rw[R1 k] at h;by_cases l:i.op=2
 ·rw[RA l] at h;rw[QL] at h;obtain⟨_,_,rfl⟩:=h;rfl
 rw[R1 l] at h;by_cases m:i.op=3
 ·rw[RA m] at h;rw[QL] at h;obtain⟨_,_,rfl⟩:=h;rfl
 rw[R1 m] at h;by_cases n:i.op=4
 ·rw[RA n] at h;cases h;rfl
 rw[R1 n] at h;by_cases o:i.op=5
 ·rw[RA o] at h;cases h;rfl
 rw[R1 o] at h;by_cases p:i.op=6
 ·rw[RA p] at h;cases h;rfl
 rw[R1 p] at h;by_cases q:i.op=7
 ·rw[RA q] at h;cases h;rfl
 rw[R1 q] at h;by_cases r:i.op=8
 ·rw[RA r] at h;cases h;rfl
 rw[R1 r] at h;by_cases s:i.op=9
 ·rw[RA s] at h;rw[QL] at h;obtain⟨_,_,rfl⟩:=h;rfl
 rw[R1 s] at h;by_cases a:i.op=10
 ·rw[RA a] at h;rw[QL] at h;obtain⟨_,_,rfl⟩:=h;rfl
 rw[R1 a] at h;by_cases b:i.op=11
 ·rw[RA b] at h;obtain⟨_,_,h⟩:=M6 h;split at h<;>cases h;rfl
 rw[R1 b] at h;by_cases d:i.op=12
 ·rw[RA d] at h;obtain⟨_,_,h⟩:=M6 h;rw[QL] at h;obtain⟨_,_,rfl⟩:=h;rfl
 rw[R1 d] at h;by_cases g:i.op=19
 ·rw[RA g] at h;rw[QL] at h;obtain⟨_,_,rfl⟩:=h;rfl
 rw[R1 g] at h;by_cases j:i.op=20
 ·rw[RA j] at h;obtain⟨_,_,h⟩:=M6 h;obtain⟨_,_,h⟩:=M6 h;rw[QL] at h;obtain⟨_,_,rfl⟩:=h;rfl
 rw[R1 j] at h;by_cases e:i.op=13
 ·rw[RA e] at h;split at h<;>cases h<;>rfl
 rw[R1 e] at h;cases h;rfl
def d83{c c':Cf}(h:L6 w fuel L Q c=some c'):c'.ev=c.ev\/∃f F i x m k,c.fs=f::F/\j3 f.code f.aH=some i/\i.op=14/\j3 w.a7 f.aE=some x/\j3 x.aB f.aJ=some m /\
  c'.ev=c.ev++[(P7 f m i f.aH,k)]/\(((L (P7 f m i f.aH) k i.name).2<0/\c'.err=10)\/(0<=(L (P7 f m i f.aH) k i.name).2/\(c'.err≠0\/c'.sends=c.sends+1))):=by
 unfold L6 at h;cases e:c.fs with
 |nil=>rw[e] at h;cases h
 |cons f F =>
  rw[e] at h;obtain⟨i,hi,h⟩:=M6 h;by_cases b:i.op=14
  ·rw[RA b] at h;obtain⟨x,cl,m,_,_,_,d,g,h⟩:=mX h;right;rcases h with⟨a,h⟩|⟨a,h⟩
   ·exact⟨f,F,i,cl,m,_,rfl,hi,b,d,g,by rw[h];rfl,.inl ⟨a,by rw[h];rfl⟩⟩
   ·exact⟨f,F,i,cl,m,_,rfl,hi,b,d,g,(tM h).1,.inr ⟨a,(tM h).2⟩⟩
  left;rw[R1 b] at h;split at h
  ·cases h;unfold cQ;split<;>rfl
  split at h
  ·rw[QL] at h;obtain⟨q,_,rfl⟩:=h;unfold kN;split
   ·unfold cQ;split<;>rfl
   ·split<;>rfl
  split at h
  ·rw[QL] at h;obtain⟨q,_,rfl⟩:=h;unfold cm;split<;>rfl
  split at h
  ·unfold mU at h;split at h
   ·obtain⟨x,_,h⟩:=M6 h;split at h
    ·cases h;rfl
    ·obtain⟨cl,_,h⟩:=M6 h;obtain⟨m,_,h⟩:=M6 h;split at h<;>cases h;rfl
   ·cases h
  split at h
  ·cases h;unfold iv;split
   ·rfl
   ·split<;>rfl
  exact Kc h
def Lq{sb:D9}{T:D9->St×Int->D9}(s:∀k j x m,j3 w.a7 k=some x->j3 x.aB j=some m->gq k j=some (Q k j))(c:Cf)(W:Wk w Q c)(n:c.err=0)(f:j4)(F:List j4)(o:cN f)(B:∀f∈F,cN f)(C:F.length<=899)(i:Ins)(p:Int)(r:∀x m k,j3 w.a7 f.aE=some x->j3 x.aB f.aJ=some m->gl (P7 f m i p) k i.name sb=some ((L (P7 f m i p) k i.name).1,(L (P7 f m i p) k i.name).2,T sb (P7 f m i p,k))){c':Cf}(h:kq w fuel L Q c f F i p=some c'):
  ∃e,c'.ev=c.ev++[e]/\ue N ⟨⟨w.a7,c.heap,w.aC⟩,fuel,c.sends,c.turns,(f::F).reverse,c.back,c.err⟩ gl gq sb F.length i p=some (T sb e,c'.toM w fuel):=by
 obtain⟨x,cl,m,H,I,u,d,t,h⟩:=mX h;have hl:=o.aA;have e1:wr ((f.aA.length:Int)-i.a)=((f.aA.length-i.a.toNat:Nat):Int):=by rw[q8 ino];omega
 have A:wr (((f.aA.length-i.a.toNat:Nat):Int)-1)=((f.aA.length-i.a.toNat-1:Nat):Int):=by rw[q8 ino];omega
 have y:(decide ((0:Int)<=((f.aA.length-i.a.toNat:Nat):Int)) && decide (((f.aA.length-i.a.toNat:Nat):Int)<=(f.aA.length:Int)))=true:=by simp only[It,RF];omega
 have z:(decide ((0:Int)<=((f.aA.length-i.a.toNat-1:Nat):Int)) && decide (((f.aA.length-i.a.toNat-1:Nat):Int)<=(f.aA.length:Int)))=true:=by simp only[It,RF];omega
 have b:((bif f.aZ then some i.c else some p):Option Int)=some (P7 f m i p).pos:=by unfold P7;cases f.aZ<;>rfl
 have E:(⟨f.aE,m.name,(P7 f m i p).pos⟩:St)=P7 f m i p:=rfl;refine⟨(P7 f m i p,y9 c.heap x),?_,?_⟩
 ·rcases h with⟨l,rfl⟩|⟨l,h⟩
  ·rfl
  ·rw[(tM h).1]
 unfold ue;simp only[dJ,A0,e1,A,y,z,Qz,Qc,q9,u,d,t,sQ,r cl m (y9 c.heap x) d t,b,E,n,jS,eU,
  ug N (show(f.aA.drop (f.aA.length-i.a.toNat)).length<=1048576 by simp;omega)]
 rcases h with⟨l,rfl⟩|⟨l,h⟩
 ·simp only[l,RB,Qz];rfl
 ·rw[RD d9];simp only[R0];have:=wh (N:=N) s W.ak W.quick _ (by exact n) (by have:=W.sends;exact⟨this.1,bL⟩) F5 (fun g q=>by
    rcases QG.1 q with rfl|q
    ·simp;omega
    ·exact(B g q).aA) _ _ x _ (o.num x (QM u)) (fun v G=>o.num v (List.mem_of_mem_drop G)) F5 c' h
  simp only[Cf.toM,n] at this;rw[this];simp only[A0,Cf.toM];have D:c'.heap=c.heap:=(sx h).trans rfl;rw[D]
def Li{T:D9->St×Int->D9}{sb:D9}(hN:1048578<=N)(K:∀k j x m,j3 w.a7 k=some x->j3 x.aB j=some m->gq k j=some (Q k j))(c:Cf)(W:Wk w Q c)(y:c.err=0)(E:d91 w gl L T sb c){c':Cf}(h:L6 w fuel L Q c=some c'):ud N (c.toM w fuel) gl gq (c.ev.foldl T sb)=some (c'.ev.foldl T sb,c'.toM w fuel):=by
 have v:=h;unfold L6 at h;cases l:c.fs with
 |nil=>rw[l] at h;cases h
 |cons f F =>
  rw[l] at h;obtain⟨i,hi,h⟩:=M6 h;have u:=W.fs;rw[l] at u;simp only[QI] at u;have C:cN f:=W.fr f (by rw[l];simp);have U:∀g∈F,cN g:=fun g z=>W.fr g (by rw[l];simp[z]);have hp:=fo hi;have bu:=C.code;have wp:wr (f.aH+1)=f.aH+1:=q8 ino;have wt:=tT (f:=f) (F:=F) d9;generalize z:({ f with aH:=f.aH+1 }:j4)=g at h;have o:g.aA.length<=1000:=by rw[<-z];exact C.aA
  have G:cN g:=by rw[<-z];exact⟨C.aA,C.code,C.num⟩
  unfold ud Cf.toM;have Y:∀(x:Cf),(⟨⟨w.a7,x.heap,w.aC⟩,fuel,x.sends,x.turns,x.fs.reverse,⟨x.back.k,x.back.n⟩,x.err⟩:J7)=x.toM w fuel:=fun x=>rfl;simp only[l,wt,wp,AZ,hi,A0,Qc,eU,z];by_cases b:i.op=14
  ·rw[RA b] at h;obtain⟨e,e1,this⟩:=Lq (gl:=gl) (N:=N) (sb:=c.ev.foldl T sb) (T:=T) K c W y g F G U d9 i f.aH (by subst z;intro x m k O hm;exact E f F i x m k l hi b O hm) h;have M:=Dt h;rw[e1,List.foldl_append];simp only[b,this,RB,Qz,A0,Cf.toM,iy,M,List.foldl_cons,List.foldl_nil]
  have B:c'.ev=c.ev:=by
   rcases d83 v with Z|⟨f',F',i',_,_,_,R,S,V,_⟩
   ·exact Z
   ·rw[l] at R;cases R;rw[hi] at S;cases S;exact absurd V b
  rw[B];clear B v E;generalize c.ev.foldl T sb=s0;rw[R1 b] at h;by_cases p:i.op=15
  ·rw[RA p] at h;cases h;have:=wJ (w:=w) (fuel:=fuel) (N:=N) c g F i.a y (by have:=W.turns;omega);simp only[p,this,RB,Qz,A0,Cf.toM];unfold cQ;split<;>rfl
  rw[R1 p] at h;by_cases d:i.op=16
  ·rw[RA d] at h;rw[QL] at h;obtain⟨q,I,rfl⟩:=h;have:=wJ (w:=w) (fuel:=fuel) (N:=N) c q.2 F i.a y (by have:=W.turns;omega);unfold kN;by_cases A:q.1.k=1
   ·simp only[d,kK I o,this,A,RB,Qz,A0,Cf.toM,if_true];unfold cQ;split<;>rfl
   ·by_cases J:q.1.k=2
    ·simp only[d,kK I o,J,RB,Qz,A0,if_true];rfl
    ·simp only[d,kK I o,A,J,y,jS,RB,RC,Qz,R0,A0,if_false];rfl
  rw[R1 d] at h;by_cases r:i.op=17
  ·rw[RA r] at h;rw[QL] at h;obtain⟨q,I,rfl⟩:=h;have P:=tT (f:=q.2) (F:=F) d9;have D:=zy (w:=w) (fuel:=fuel) (N:=N) { c with fs:=F } q.1 bL (fun x O=>(U x O).aA);simp only[Cf.toM] at D;have X:(decide ((0:Int)<=(F.length:Int)) && decide ((F.length:Int)<=((q.2::F).reverse.length:Int)))=true:=F5;simp only[RD b,RD p,RD d,RE r,kK I o,P,X,Qc,d72,D,Qz,R0,A0,iy,ot]
  rw[R1 r] at h;by_cases s:i.op=18
  ·rw[RA s] at h;have:=F1 (w:=w) (fuel:=fuel) (N:=N) c g F i o h;have M:c'.heap=c.heap:=by
    unfold mU at h;split at h
    ·obtain⟨x,_,h⟩:=M6 h;split at h
     ·cases h;rfl
     ·obtain⟨cl,_,h⟩:=M6 h;obtain⟨m,_,h⟩:=M6 h;split at h<;>cases h;rfl
    ·cases h
   simp only[RD b,RD p,RD d,RD r,RE s,this,Qz,R0,A0,Cf.toM,iy,M]
  rw[R1 s] at h;by_cases t:i.op=21
  ·rw[RA t] at h;cases h;have:=A7 (N:=N) (cl:=w.a7) (H:=c.heap) (ep:=w.aC) (fuel:=fuel) (sends:=c.sends) (turns:=c.turns) (back:=c.back) (g::F).reverse true (by have:=W.sends;omega);simp only[t,y,this,RB,Qz,A0];unfold iv;by_cases A:fuel<=c.sends
   ·simp only[A,if_true];rfl
   ·by_cases J:20<=(g::F).length
    ·simp only[A,J,List.length_reverse,if_true,if_false,and_self];rfl
    ·simp only[A,J,List.length_reverse,if_false,and_false];rfl
  rw[R1 t] at h;have:=Fx (w:=w) (fuel:=fuel) (N:=N) c W hN y g F G i h;simp only[b,p,d,r,s,t,this,RC,R0,A0,Cf.toM,iy]
end
def Ec{w:Wd}{fuel:Int}{N:Nat}{gl:St->Int->ByteArray->D9->Option (Int×Int×D9)}{T:D9->St×Int->D9}{sb:D9}{gq:Int->Int->Option (Fs×Bool)}{L:St->Int->ByteArray->Int×Int}{Q:Int->Int->Fs×Bool}(p:1048578<=N)(e:∀k j x m,j3 w.a7 k=some x->j3 x.aB j=some m->gq k j=some (Q k j))(P:Cf->Prop)(q:∀c,P c->c.err=0->c.fs≠[]->Wk w Q c/\d91 w gl L T sb c/\∃d,L6 w fuel L Q c=some d/\mu fuel d<mu fuel c/\(d.err=0->P d)):∀(n:Nat) (c:Cf),(c.err=0->P c)->mu fuel c<n ->
  ∃c',Path w fuel L Q c c'/\c'.done/\(c'.err=0->P c')/\oQ N gl gq n (c.ev.foldl T sb) w.a7 c.heap w.aC fuel c.sends c.turns c.fs.reverse c.back.k c.back.n c.err =
   some (c'.ev.foldl T sb,w.a7,c'.heap,w.aC,fuel,c'.sends,c'.turns,c'.fs.reverse,c'.back.k,c'.back.n,c'.err)
 |0,c,_,h=>d9
 |n+1,c,i,h=>by
  rw[oQ];by_cases b:c.err=0
  ·cases a:c.fs with
   |nil =>
    refine⟨c,.refl c,.inr a,i,?_⟩;simp[b,a]
   |cons f F =>
    obtain⟨W,l,d,o,y,r⟩:=q c (i b) b (by rw[a];simp);obtain⟨c',s,t,u,v⟩:=Ec p e P q n d r d9;refine⟨c',.step b (by rw[a];simp) o s,t,u,?_⟩;have g:=Li p e c W b l o;have hl:(0:Int)<((f::F).reverse.length:Int):=l9;unfold Cf.toM at g;rw[a] at g;simp only[b,RB,Qz,hl,A0,iy];rw[b] at g;rw[g];simp only[A0];exact v
  ·refine⟨c,.refl c,.inl b,i,?_⟩;simp[b]
def d60{w:Wd}{N:Nat}{fuel:Int}{gl:St->Int->ByteArray->D9->Option (Int×Int×D9)}{sb:D9}{gq:Int->Int->Option (Fs×Bool)}(a:E8 w)(c:O8)(b:I9 w c fuel≠0):
  qj N w c fuel gl sb gq=some (w,⟨⟨0,0⟩,I9 w c fuel,0⟩,sb):=by
 unfold qj;rw[vh];simp only[A0];rw[RD b,jH N w a];rfl
def M1{w:Wd}{N:Nat}{fuel:Int}{gl:St->Int->ByteArray->D9->Option (Int×Int×D9)}{T:D9->St×Int->D9}{sb:D9}{gq:Int->Int->Option (Fs×Bool)}{L:St->Int->ByteArray->Int×Int}{Q:Int->Int->Fs×Bool}(hN:4194304<=N)(i:E8 w)(S:dD w)(h:∀k j x m,j3 w.a7 k=some x->j3 x.aB j=some m->gq k j=some (Q k j))(P:Cf->Prop)(I:∀c,P c->c.err=0->c.fs≠[]->Wk w Q c/\d91 w gl L T sb c/\∃a,L6 w fuel L Q c=some a/\mu fuel a<mu fuel c/\(a.err=0->P a))(M:∀x∈w.a7,∀m∈x.aB,0<=m.a8/\m.a8<=1000)(R:∀k j,(Q k j).2=true->0<=(Q k j).1.a8/\(Q k j).1.a8<=1000)(c:O8)(E:I9 w c fuel=0)(a:Cf)(d:fN w fuel Q c=some a)(s:a.err=0->P a)(O:mu fuel a<1048576):
  ∃c',Path w fuel L Q a c'/\c'.done/\(c'.err=0->P c')/\qj N w c fuel gl sb gq=some ((fV w c').1,(fV w c').2,c'.ev.foldl T sb):=by
 obtain⟨h1,h2,h3,h4,G,H⟩:=qS E;obtain⟨c',W,X,Y,F⟩:=Ec (N:=N) (gl:=gl) (gq:=gq) d9 h P I N a s d9;have t:a.ev=[]:=by
  unfold fN at d;split at d
  ·cases d;rfl
  ·exact(tM d).1
 rw[t] at F;refine⟨c',W,X,Y,?_⟩;unfold qj;rw[vh];simp only[A0,E,RB,IT,R0,jH N w i,sQ];have u:gm N (⟨w.a7,w.heap,w.aC⟩:Wd) (y9 w.heap c.aP) c.name=some (l7 w c.name (y9 w.heap c.aP)):=mA N w _ _ d9 S i;rw[u];simp only[A0];have b:(oQ N gl gq N sb w.a7 a.heap w.aC fuel a.sends a.turns a.fs.reverse a.back.k a.back.n a.err).bind (fun(l,z,A,B,Z,o,v52,v53,C,D,p) =>
   (bif (!decide (p=(0:Int))) then((iY N w).bind fun y=>some (y,(⟨(⟨(0:Int),(0:Int)⟩:V),p,o⟩:dX),l)) else some ((⟨z,A,B⟩:Wd),(⟨(⟨C,D⟩:V),(0:Int),o⟩:dX),l)))=some ((fV w c').1,(fV w c').2,c'.ev.foldl T sb):=by
  rw[show sb=([]:List (St×Int)).foldl T sb from rfl,F];simp only[A0,jH N w i,fV];by_cases q:c'.err=0
  ·rw[RE q,RA q];rfl
  ·rw[RD q,R1 q];rfl
 unfold fN at d;by_cases r:(l7 w c.name (y9 w.heap c.aP)).2<0
 ·rw[RA r] at d;cases d;rw[RE r];simp only[Qz,jS,A0];simp only[jH N w i] at b;exact b
 ·rw[R1 r] at d;rw[RD r];have g:c.aP.k=3->eb c.aP.n:=G.num;have J:=sx d;have:=wh (N:=N) h M R (P8 w) rfl (by simp[P8]) (by simp[P8]) (fun f u=>by cases u) _ _ c.aP c.args g (fun v U K=>(H v U).num K) d9 a d;have e:(P8 w).toM w fuel=(⟨(⟨w.a7,w.heap,w.aC⟩:Wd),fuel,0,0,[],⟨0,0⟩,0⟩:J7):=rfl;rw[e] at this;simp only[R0,this,A0];simp only[jH N w i] at b;rw[J] at b;exact b
def DG(N:Nat)(x:Cl):∀(l:List Cl) (k:Nat),(∀d∈l,d.name≠x.name)->U4 N x l k=some (.next ())
 |[],k,_=>rfl
 |d::l,k,h=>by
  rw[U4,RD (h d l9)];exact DG N x l (k+1) fun e a=>h e (by simp[a])
def DF(N:Nat)(w:Wd)(H:∀j c,w.a7[j]?=some c->mz w j c):∀(l:List Cl) (k:Nat),l=w.a7.drop k->Q0 N w N9 l k=some (.next ())
 |[],k,h=>rfl
 |c::l,k,h=>by
  obtain⟨o,hl,a⟩:=X5 h;have a:=of_decide_eq_true a;obtain⟨s,hd,n,d,t,u⟩:=H k c o;have ih:=DF N w H l (k+1) hl;rw[Q0,jE,s];have q:(decide (0<=(k:Int)) && decide ((k:Int)<=(w.a7.length:Int)))=true:=by simp only[It,RF];omega
  have m:=DG N c (w.a7.take (k:Int).toNat) 0 (by simpa using hd);simp only[A0,IT,R0,q,Qz,m];by_cases r:k<4
  ·obtain⟨f,p,e1,g,b⟩:=n r;rw[RE (show(k:Int)<4 by omega)];simp only[Qz,q9,p,A0,e1,g,b,RB,IT,R0];exact ih
  ·obtain⟨e1,g,b⟩:=d d9;rw[RD (show¬(k:Int)<4 by omega)];simp only[R0,A0];rw[RD (show¬c.aQ<0 by omega),RD (show¬(k:Int)<=c.aQ by omega)];have i:((bif decide ((0:Int)<c.aQ) then some (decide (c.aQ<(4:Int))) else some (false)):Option Bool)=some false:=by
    by_cases e:0<c.aQ
    ·rw[RE e,RD (show¬c.aQ<4 by have:=b e;omega)];rfl
    ·rw[RD e];rfl
   simp only[R0,i,A0];rw[RD (show¬c.aG<0 by omega),RD (show¬6<c.aG by omega)];exact ih
def DN(N:Nat)(k:Nat)(m:Me):∀(l:List Me) (j:Nat),J9 N k m l j true=some true
 |[],j=>rfl
 |p::l,j=>by
  rw[J9];exact DN N k m l (j+1)
def y6(N:Nat)(m:Me)(d:m.args=1)(f:m.a8=0)(g:m.code=[]):∀(l:List Me) (j:Nat),(∃p∈l,p.name=m.name/\p.aS=m.aS)->J9 N 3 m l j false=some true
 |[],j,h=>by obtain⟨p,c,_⟩:=h;cases c
 |q::l,j,h=>by
  rw[J9];by_cases a:q.name=m.name
  ·by_cases b:q.aS=m.aS
   ·simp only[a,b,d,f,g,R0,RB,Qz];exact DN N 3 m l (j+1)
   ·have:∃p∈l,p.name=m.name/\p.aS=m.aS:=by
     obtain⟨p,c,e⟩:=h;rcases QG.1 c with rfl|c
     ·exact absurd e.2 b
     ·exact⟨p,c,e⟩
    simp only[a,b,R0,RB,RC,Qz];exact y6 N m d f g l (j+1) this
  ·have:∃p∈l,p.name=m.name/\p.aS=m.aS:=by
    obtain⟨p,c,e⟩:=h;rcases QG.1 c with rfl|c
    ·exact absurd e.1 a
    ·exact⟨p,c,e⟩
   simp only[a,R0,RC];exact y6 N m d f g l (j+1) this
def DT(N:Nat)(w:Wd)(k:Nat)(c:Cl)(s:4194304<=N)(n:E8 w)(o:c∈w.a7)(v:dN c.aB)(u:∀m∈c.aB,mn N w k m):∀(l:List Me) (j:Nat),l=c.aB.drop j->Q5 N w N9 k c l j=some (.next ())
 |[],j,h=>rfl
 |m::l,j,h=>by
  obtain⟨d,hl,a⟩:=X5 h;have a:=of_decide_eq_true a;have F:=(n.2.2.1 c o).1;have ih:=DT N w k c s n o v u l (j+1) hl;have C:j3 N9.a7 3=some ⟨⟨#[73,110,116]⟩,0,0,U3⟩:=rfl;have q:=(n.2.2.1 c o).2 m (QM d);obtain⟨b,g,E⟩:=xw N k m U3 0 false (fun p e=>e) (fun h=>by cases h);obtain⟨f,t⟩:=Br N w (k:Int) m s n.1 q;rw[Q5];have e0:((bif decide ((0:Int)<(j:Int)) then((j3 c.aB (wr ((j:Int)-(1:Int)))).bind fun r=>some ((!V8 r.name m.name))) else some (false)):Option Bool)=some false:=by
   by_cases H:0<j
   ·have wk:wr ((j:Int)-1)=((j-1:Nat):Int):=by rw[q8 ino];omega
    obtain⟨p,e⟩:∃p,c.aB[j-1]?=some p:=⟨_,No d9⟩;have a:=mf v e d d9;rw[RE (show(0:Int)<(j:Int) by omega)];simp only[Qz,wk,q9,e,A0,a,IT]
   ·rw[RD (show¬(0:Int)<(j:Int) by omega)];rfl
  simp only[e0,C,g,t,A0,R0];rcases u m (QM d) with⟨i,p,e,x,y,z,A,B⟩|⟨G,i,D⟩
  ·subst i;have:=y6 N m z A B U3 0 ⟨p,e,x,y⟩;rw[g] at this;cases this;simp only[IT,R0,A0];exact ih
  ·rw[t] at i;cases i;cases b with
   |true=>simp only[IT,R0,A0];exact ih
   |false=>simp only[QJ,Qz,A0,D,RB,IT,R0];exact ih
def DJ(N:Nat)(w:Wd)(b:4194304<=N)(a:E8 w)(H:∀(j:Nat) c,w.a7[j]?=some c->l8 w (j:Int)<=6/\c.aB.length<=8/\dN c.aB/\∀m∈c.aB,mn N w j m):∀(l:List Cl) (k:Nat),l=w.a7.drop k->Y8 N w N9 l k=some (.next ())
 |[],k,h=>rfl
 |c::l,k,h=>by
  obtain⟨d,hl,g⟩:=X5 h;have ih:=DJ N w b a H l (k+1) hl;obtain⟨i,n,e,f⟩:=H k c d;rw[Y8,Y7 N w (k:Int) d9 a.1];simp only[A0];rw[RD (show¬6<l8 w (k:Int) by omega),RD (show¬(8:Int)<(c.aB.length:Int) by omega)];simp only[R0,DT N w k c b a (QM d) e f c.aB 0 rfl,A0];exact ih
def DP(N:Nat)(w:Wd):∀(l:List V) (k:Nat),(∀v∈l,Z9 v (w.heap.length:Int)=0)->U6 N w l k=some (.next ())
 |[],k,_=>rfl
 |v::l,k,h=>by
  rw[U6,ri];simp only[A0,h v l9,RB,IT,R0];exact DP N w l (k+1) fun u a=>h u (by simp[a])
def DU(N:Nat)(w:Wd)(g:4194304<=N)(d:E8 w):∀(l:List Ob) (k:Nat),(∀o∈l,d88 w o)->U1 N w l k=some (.next ())
 |[],k,_=>rfl
 |o::l,k,h=>by
  obtain⟨j,e,m,c,f⟩:=h o l9;have ih:=DU N w g d l (k+1) fun x i=>h x (by simp[i]);have b:=Y7 N w o.cls d9 d.1;rw[U1];simp only[b,DP N w o.aG 0 f,A0];rw[RD (show¬o.cls<0 by omega),RD (show¬(w.a7.length:Int)<=o.cls by omega)];by_cases a:0<o.cls
  ·rw[RE a,RD (show¬o.cls<4 by have:=e a;omega)];simp only[c,RB,IT,Qz,R0,A0];exact ih
  ·rw[RD a];simp only[c,RB,IT,R0,A0];exact ih
def Mj(N:Nat)(w:Wd)(a:4194304<=N)(b:E8 w)(h:K7 N w):k6 N w=some 0:=by
 obtain⟨⟨g,i,j⟩,⟨e1,f⟩,c,d,e⟩:=h;unfold k6 lV;simp only[A0];rw[RD (show¬(w.a7.length:Int)<4 by omega),RD (show¬(12:Int)<(w.a7.length:Int) by omega),RD (show¬(60:Int)<(w.heap.length:Int) by omega),
  RD (show¬w.aC<0 by omega),RD (show¬1073741824<w.aC by omega)]
 simp only[R0,A0,DF N w c w.a7 0 rfl,DJ N w a b d w.a7 0 rfl,DU N w a b w.heap 0 e]
def Gk(f g:j4):Prop:=g.aE=f.aE/\g.aJ=f.aJ/\g.code=f.code/\g.aP=f.aP/\g.args=f.args
section
variable {w:Wd}{fuel:Int}{N:Nat}
def rJ{l:List V}{v:V}(h:l.getLast?=some v)(hl:l.length<=1000):kf N l=some (v,l.dropLast):=by
 obtain⟨e1,a,c,b⟩:=x8 h hl;unfold kf;simp only[e1,b,A0,Qz];rw[a,Qc,List.dropLast_eq_take]
def OC(x:TR)(q:x.w.heap.length<=1000)(m:∀o∈x.w.heap,o.aG.length<=1000){o v:V}{n:Int}{i:List Ob}(h:im x.w.heap o n v=some i):
  va N x o n v=some ⟨⟨x.w.a7,i,x.w.aC⟩,x.fuel,x.sends,x.turns,x.deep,x.err,x.sites,x.of⟩:=by
 unfold va;rw[p9 F5];simp only[Qz,Qd];unfold im at h;by_cases e:o.k=4
 ·rw[RA e] at h;rw[RE e];simp only[Qz];by_cases f:0<=o.n
  ·rw[RA f] at h;cases c:x.w.heap[o.n.toNat]? with
   |none =>
    rw[c] at h;cases h;have a:¬o.n<(x.w.heap.length:Int):=by have:=List.getElem?_eq_none_iff.1 c;omega
    rw[RD a];rfl
   |some b =>
    rw[c] at h;have a:o.n<(x.w.heap.length:Int):=by have:=(OR.1 c).1;omega
    have l:j3 x.w.heap o.n=some b:=(by rw[fC f,c]);rw[RE a];simp only[Qz,l,A0];simp only at h;by_cases d:n<(b.aG.length:Int)
    ·rw[RA d] at h;rw[RE d];have j:=m b (QM c);simp only[Qz];rw[p9 F5];by_cases g:0<=n
     ·rw[RA g] at h;cases h;obtain⟨y,_,p⟩:=V7 g d;simp only[Qz,p,A0]
     ·rw[R1 g] at h;cases h
    ·rw[R1 d] at h;cases h;rw[RD d];rfl
  ·rw[R1 f] at h;cases h
 ·rw[R1 e] at h;cases h;rw[RD e];rfl
def EG{c:Cf}{gR:Nat->TR->Int->Int->V->List V->Option (V×TR)}{Q:Int->Int->Fs×Bool}(hN:1048578<=N)(W:Wk w Q c)(e:c.err=0){f:j4}{F:List j4}(K:c.fs=f::F){i:Ins}(hi:j3 f.code f.aH=some i)(E:i.op≠14)(Z:i.op≠17)(hop:i.op<=17){L:St->Int->ByteArray->Int×Int}{J:Cf}(h:L6 w fuel L Q c=some J){k:Int}{m:Me}(hc:f.code=m.code)(deep:Int)(S:List St)(O:List Int)(n:Nat):
  ∃f1,J.fs=f1::F/\Gk f f1/\J.ev=c.ev/\J.sends=c.sends/\I8 N gR k m f.aP f.args (n+1) w.a7 c.heap w.aC fuel c.sends c.turns deep c.err S O f.a8 f.aA f.aH =
   I8 N gR k m f.aP f.args n w.a7 J.heap w.aC fuel J.sends J.turns deep J.err S O f1.a8 f1.aA f1.aH:=by
 have hl:=(W.fr f (by rw[K];simp)).aA;have hcl:=(W.fr f (by rw[K];simp)).code;have hp:=fo hi;have wat:wr (f.aH+1)=f.aH+1:=q8 ino;have aa:decide (f.aH+1<=f.aH)=false:=RD d9;have wt:wr (c.turns+1)=c.turns+1:=q8 (by have:=W.turns;unfold H8;omega);unfold L6 at h;rw[K] at h;simp only[hi,A0] at h;rw[R1 E] at h;rw[I8,e];rw[hc] at hi;have pu:∀v:V,AT ((f.aA.length+[v].length)*16) 140737488355328=true:=fun v=>p9 F5;simp only[RB,Qz,hi,A0,wat,pu];by_cases B:i.op=15
 ·rw[RA B] at h;cases h;have n1:¬i.op=1:=d9;have n2:¬i.op=2:=d9;have n3:¬i.op=3:=d9;have n4:¬i.op=4:=d9;have n5:¬i.op=5:=d9;have n6:¬i.op=6:=d9;have n7:¬i.op=7:=d9;have n8:¬i.op=8:=d9;have n9:¬i.op=9:=d9;have R:¬i.op=10:=d9;have T:¬i.op=11:=d9;have U:¬i.op=12:=d9;have X:¬i.op=13:=d9;simp only[RD n1,RD n2,RD n3,RD n4,RD n5,RD n6,RD n7,RD n8,RD n9,RD R,RD T,RD U,RD X,RD E,RE B,Qz,R0,A0];unfold cQ;by_cases hj:i.a<f.aH+1
  ·rw[RA hj,RE (show i.a<=f.aH by omega)];refine⟨{ f with aH:=i.a },rfl,⟨rfl,rfl,rfl,rfl,rfl⟩,rfl,rfl,?_⟩;by_cases G:300<c.turns+1
   ·simp only[wt,RE G,Qz,A0,RA G]
   ·simp only[wt,RD G,Qz,R0,A0,R1 G,e]
  ·rw[R1 hj,RD (show¬i.a<=f.aH by omega)];refine⟨{ f with aH:=i.a },rfl,⟨rfl,rfl,rfl,rfl,rfl⟩,rfl,rfl,?_⟩;simp only[R0,A0,e]
 rw[R1 B] at h;by_cases H:i.op=16
 ·rw[RA H] at h;rw[QL] at h;obtain⟨q,M,rfl⟩:=h;obtain⟨b,d⟩:=fi M;obtain⟨v,q2⟩:=q;simp only at b d;subst d;have n1:¬i.op=1:=d9;have n2:¬i.op=2:=d9;have n3:¬i.op=3:=d9;have n4:¬i.op=4:=d9;have n5:¬i.op=5:=d9;have n6:¬i.op=6:=d9;have n7:¬i.op=7:=d9;have n8:¬i.op=8:=d9;have n9:¬i.op=9:=d9;have R:¬i.op=10:=d9;have T:¬i.op=11:=d9;have U:¬i.op=12:=d9;have X:¬i.op=13:=d9;simp only[RD n1,RD n2,RD n3,RD n4,RD n5,RD n6,RD n7,RD n8,RD n9,RD R,RD T,RD U,RD X,RD E,RD B,RE H,Qz,R0,A0,rJ b hl];unfold kN;by_cases k1:v.k=1
  ·rw[RA k1];unfold cQ;simp only[RE k1,Qz,A0];by_cases hj:i.a<f.aH+1
   ·rw[RA hj,RE (show i.a<=f.aH by omega)];refine⟨{ f with aH:=i.a,aA:=f.aA.dropLast },rfl,⟨rfl,rfl,rfl,rfl,rfl⟩,rfl,rfl,?_⟩;by_cases G:300<c.turns+1
    ·simp only[wt,RE G,Qz,A0,RA G]
    ·simp only[wt,RD G,Qz,R0,A0,R1 G,e]
   ·rw[R1 hj,RD (show¬i.a<=f.aH by omega)];refine⟨{ f with aH:=i.a,aA:=f.aA.dropLast },rfl,⟨rfl,rfl,rfl,rfl,rfl⟩,rfl,rfl,?_⟩;simp only[R0,A0,e]
  ·rw[R1 k1];by_cases k2:v.k=2
   ·rw[RA k2];refine⟨{ f with aH:=f.aH+1,aA:=f.aA.dropLast },rfl,⟨rfl,rfl,rfl,rfl,rfl⟩,rfl,rfl,?_⟩;simp only[RD k1,RE k2,IT,aa,R0,A0,e]
   ·rw[R1 k2];refine⟨{ f with aH:=f.aH+1,aA:=f.aA.dropLast },rfl,⟨rfl,rfl,rfl,rfl,rfl⟩,rfl,rfl,?_⟩;simp only[RD k1,RD k2,QJ,aa,Qz,R0,A0,I7]
 rw[R1 H,R1 Z,R1 (show¬i.op=18 by omega),R1 (show¬i.op=21 by omega)] at h;unfold k9 at h;by_cases g:i.op=1
 ·rw[RA g] at h;cases h;refine⟨L9 { f with aH:=f.aH+1 } f.aP,rfl,⟨rfl,rfl,rfl,rfl,rfl⟩,rfl,rfl,?_⟩;simp only[RE g,Qz,R0,aa,A0,e,L9]
 rw[R1 g] at h;by_cases l:i.op=2
 ·rw[RA l] at h;rw[QL] at h;obtain⟨v,Y,rfl⟩:=h;refine⟨L9 { f with aH:=f.aH+1 } v,rfl,⟨rfl,rfl,rfl,rfl,rfl⟩,rfl,rfl,?_⟩;simp only[RD g,RE l,Y,Qz,R0,aa,A0,e,L9]
 rw[R1 l] at h;by_cases r:i.op=3
 ·rw[RA r] at h;rw[QL] at h;obtain⟨v,Y,rfl⟩:=h;refine⟨L9 { f with aH:=f.aH+1 } v,rfl,⟨rfl,rfl,rfl,rfl,rfl⟩,rfl,rfl,?_⟩;simp only[RD g,RD l,RE r,Y,Qz,R0,aa,A0,e,L9]
 rw[R1 r] at h;by_cases s:i.op=4
 ·rw[RA s] at h;cases h;refine⟨L9 { f with aH:=f.aH+1 } (jY c.heap f.aP i.a),rfl,⟨rfl,rfl,rfl,rfl,rfl⟩,rfl,rfl,?_⟩;simp only[RD g,RD l,RD r,RE s,Jp,Qz,R0,aa,A0,e,L9]
 rw[R1 s] at h;by_cases u:i.op=5
 ·rw[RA u] at h;cases h;refine⟨L9 { f with aH:=f.aH+1 } ⟨3,i.a⟩,rfl,⟨rfl,rfl,rfl,rfl,rfl⟩,rfl,rfl,?_⟩;simp only[RD g,RD l,RD r,RD s,RE u,Qz,R0,aa,A0,e,L9]
 rw[R1 u] at h;by_cases x:i.op=6
 ·rw[RA x] at h;cases h;refine⟨L9 { f with aH:=f.aH+1 } ⟨0,0⟩,rfl,⟨rfl,rfl,rfl,rfl,rfl⟩,rfl,rfl,?_⟩;simp only[RD g,RD l,RD r,RD s,RD u,RE x,Qz,R0,aa,A0,e,L9]
 rw[R1 x] at h;by_cases C:i.op=7
 ·rw[RA C] at h;cases h;refine⟨L9 { f with aH:=f.aH+1 } ⟨1,0⟩,rfl,⟨rfl,rfl,rfl,rfl,rfl⟩,rfl,rfl,?_⟩;simp only[RD g,RD l,RD r,RD s,RD u,RD x,RE C,yT,Qe,if_false,Qz,R0,aa,A0,e,L9]
 rw[R1 C] at h;by_cases D:i.op=8
 ·rw[RA D] at h;cases h;refine⟨L9 { f with aH:=f.aH+1 } ⟨2,0⟩,rfl,⟨rfl,rfl,rfl,rfl,rfl⟩,rfl,rfl,?_⟩;simp only[RD g,RD l,RD r,RD s,RD u,RD x,RD C,RE D,yT,if_true,Qz,R0,aa,A0,e,L9]
 rw[R1 D] at h;by_cases I:i.op=9
 ·rw[RA I] at h;rw[QL] at h;obtain⟨⟨v,q2⟩,M,rfl⟩:=h;obtain⟨b,d⟩:=fi M;simp only at b d;subst d;refine⟨_,rfl,⟨rfl,rfl,rfl,rfl,rfl⟩,rfl,rfl,?_⟩;simp only[RD g,RD l,RD r,RD s,RD u,RD x,RD C,RD D,RE I,rJ b hl,Qz,R0,aa,A0,e]
 rw[R1 I] at h;by_cases j:i.op=10
 ·rw[RA j] at h;rw[QL] at h;obtain⟨v,Y,rfl⟩:=h;refine⟨_,rfl,⟨rfl,rfl,rfl,rfl,rfl⟩,rfl,rfl,?_⟩;have hd:f.aA.dropLast++[v,v]=f.aA++[v]:=by
   obtain⟨ys,hys⟩:=List.getLast?_eq_some_iff.1 Y;simp only at hys;rw[hys];simp
  have hb:AT ((f.aA.dropLast.length+[v,v].length)*16) 140737488355328=true:=p9 F5;simp only[RD g,RD l,RD r,RD s,RD u,RD x,RD C,RD D,RD I,RE j,rJ Y hl,hd,hb,Qz,R0,aa,A0,e,L9]
 rw[R1 j] at h;by_cases p:i.op=11
 ·rw[RA p] at h;obtain⟨⟨v,q2⟩,M,h⟩:=M6 h;obtain⟨b,d⟩:=fi M;simp only at b d;subst d;by_cases ha:0<=i.a/\i.a<f.a8.length
  ·rw[RA ha] at h;cases h;obtain⟨y,_,hy⟩:=V7 ha.1 ha.2;refine⟨_,rfl,⟨rfl,rfl,rfl,rfl,rfl⟩,rfl,rfl,?_⟩;simp only[RD g,RD l,RD r,RD s,RD u,RD x,RD C,RD D,RD I,RD j,RE p,rJ b hl,hy,Qz,R0,aa,A0,e]
  ·rw[R1 ha] at h;cases h
 rw[R1 p] at h;by_cases t:i.op=12
 ·rw[RA t] at h;obtain⟨⟨v,q2⟩,M,h⟩:=M6 h;obtain⟨b,d⟩:=fi M;simp only at b d;subst d;rw[QL] at h;obtain⟨H',hH,rfl⟩:=h;refine⟨_,rfl,⟨rfl,rfl,rfl,rfl,rfl⟩,rfl,rfl,?_⟩;have hs:=OC (N:=N) (⟨⟨w.a7,c.heap,w.aC⟩,fuel,c.sends,c.turns,deep,0,S,O⟩:TR) (by exact W.heap.1) (by exact W.heap.2) (o:=f.aP) (v:=v) (n:=i.a) hH;simp only[RD g,RD l,RD r,RD s,RD u,RD x,RD C,RD D,RD I,RD j,RD p,RE t,rJ b hl,hs,Qz,R0,aa,A0,e]
 rw[R1 t,R1 (show¬i.op=19 by omega),R1 (show¬i.op=20 by omega)] at h;by_cases A:i.op=13
 ·rw[RA A] at h;by_cases h60:60<=c.heap.length
  ·rw[RA h60] at h;cases h;have z:(60:Int)<=(c.heap.length:Int):=d9;refine⟨_,rfl,⟨rfl,rfl,rfl,rfl,rfl⟩,rfl,rfl,?_⟩;simp only[RD g,RD l,RD r,RD s,RD u,RD x,RD C,RD D,RD I,RD j,RD p,RD t,RE A,RE z,Qz,R0,aa,A0,I7]
  ·rw[R1 h60] at h;cases h;have z:¬(60:Int)<=(c.heap.length:Int):=d9;have hsl:=W.aG i.a;have P:jJ N (⟨w.a7,c.heap,w.aC⟩:Wd) i.a=some (l8 w i.a):=(Y7 N ⟨w.a7,c.heap,w.aC⟩ i.a hN W.cls).trans (by rw[zA w c.heap w.aC i.a]);have e1:(decide (0<=l8 w i.a) && decide (l8 w i.a<=140737488355328) && decide (l8 w i.a*16<=140737488355328))=true:=by
    simp only[It,RF];omega
   have b1:AT ((([]:List Ob).length+c.heap.length)*32) 140737488355328=true:=p9 F5;have b2:∀o:Ob,AT ((c.heap.length+[o].length)*32) 140737488355328=true:=fun o=>p9 F5;refine⟨_,rfl,⟨rfl,rfl,rfl,rfl,rfl⟩,rfl,rfl,?_⟩;simp only[RD g,RD l,RD r,RD s,RD u,RD x,RD C,RD D,RD I,RD j,RD p,RD t,RE A,RD z,P,e1,b1,b2,Qd,Qz,R0,aa,A0,e,L9]
 rw[R1 A] at h;cases h;refine⟨_,rfl,⟨rfl,rfl,rfl,rfl,rfl⟩,rfl,rfl,?_⟩;simp only[RD g,RD l,RD r,RD s,RD u,RD x,RD C,RD D,RD I,RD j,RD p,RD t,RD A,RD E,RD B,RD H,RD Z,R0,aa,A0,e]
def Lx{Q:Int->Int->Fs×Bool}{c c':Cf}{k j:Int}{self:V}{args:List V}(h:fO w fuel Q c k j self args=some c'):c'.ev=c.ev/\(c'.err≠0\/c'.sends=c.sends+1):=by
 obtain⟨x,m,_,_,h|h|⟨_,_,_,a,_,h|h⟩|h|h⟩:=lW h
 ·rw[h.2];exact⟨rfl,.inl (by simp[I7])⟩
 ·rw[h.2.2];exact⟨rfl,.inl (by simp[I7])⟩
 ·rw[h.2];exact⟨rfl,.inl h.1⟩
 ·rw[h.2];exact⟨(iE _ _).2.2.2,.inr (iE _ _).1⟩
 ·rw[h.2.2.2.2];exact⟨rfl,.inl (by simp[I7])⟩
 ·rw[h.2.2.2.2];exact⟨rfl,.inr rfl⟩
def O2{Q:Int->Int->Fs×Bool}(W:cI w)(l:0<w.a7.length)(n:∀k j,(Q k j).2=false){c c':Cf}(p:Path w fuel (fun _ k s=>l7 w s k) Q c c')(m:c.err=0->cd w fuel c):mu fuel c'<=mu fuel c:=by
 induction p with
 |refl=>exact NO _
 |@step c o q e b d _ ih =>
  cases a:c.fs with
  |nil=>exact absurd a b
  |cons f F =>
   obtain⟨i,g,h⟩:=mZ (Q:=Q) W l n (m e) e a;rw[d] at g;cases g;have:=ih h.inv;have:=h.mu;omega
def OI{Q:Int->Int->Fs×Bool}(u:∀k j,(Q k j).2=true->0<=(Q k j).1.a8/\(Q k j).1.a8<=1000)(W:cI w){c o:Cf}{L:St->Int->ByteArray->Int×Int}(I:cd w fuel c)(v:c.err=0){f:j4}{F:List j4}(a:c.fs=f::F)(h:L6 w fuel L Q c=some o)(l:(c.ev.length:Int)<=c.sends):o.err=0->(o.ev.length:Int)<=o.sends:=by
 intro p;have r:=I.fs;rw[a] at r;obtain⟨⟨m,A,R⟩,r⟩:=r;obtain⟨i,y,e,s,z,_⟩:=R.len;have n:=tZ (R.me.num i s);have t:i.op<=17:=by
  rcases n with⟨h,_⟩|⟨h,_⟩|⟨h,_⟩|⟨h,_⟩|⟨h,_⟩|⟨h,_⟩|⟨h,_⟩|⟨h,_⟩<;>omega
 by_cases d:i.op=14
 ·unfold L6 at h;rw[a] at h;simp only[e,A0,RA d] at h;obtain⟨x,cl,B,_,_,_,_,_,h|h⟩:=mX h
  ·rw[h.2] at p;cases p
  ·obtain⟨e1,b⟩:=Lx h.2;rw[e1];rcases b with b|b
   ·exact absurd p b
   ·rw[b];simp;omega
 by_cases g:i.op=17
 ·unfold L6 at h;rw[a] at h;simp only[e,A0,R1 d,R1 (show¬i.op=15 by omega),R1 (show¬i.op=16 by omega),RA g] at h;rw[QL] at h;obtain⟨q,_,rfl⟩:=h;rw[(iE _ _).1,(iE _ _).2.2.2];exact l
 ·obtain⟨f1,_,_,e1,b,_⟩:=EG (N:=1048578) (gR:=fun _ _ _ _ _ _=>none) (NO _) (I.wk W u) v a e d g t h (k:=0) R.code 0 [] [] 0;rw[e1,b];exact l
def Na{Q:Int->Int->Fs×Bool}(W:cI w)(o:0<w.a7.length)(l:∀k j,(Q k j).2=false){c c':Cf}(p:Path w fuel (fun _ k s=>l7 w s k) Q c c')(i:c.err=0->cd w fuel c)(d:c.err=0->(c.ev.length:Int)<=c.sends):c'.err=0->(c'.ev.length:Int)<=c'.sends:=by
 induction p with
 |refl=>exact d
 |@step c r t b g e _ ih =>
  cases a:c.fs with
  |nil=>exact absurd a g
  |cons f F =>
   obtain⟨n,m,q⟩:=mZ (Q:=Q) W o l (i b) b a;rw[e] at m;cases m;exact ih q.inv (OI (fun k j h=>by rw[l] at h;cases h) W (i b) b a e (d b))
end
def eF(w:Wd)(fuel:Int)(c:Cf)(d:Nat):TR:=⟨⟨w.a7,c.heap,w.aC⟩,fuel,c.sends,c.turns,(d:Int),c.err,c.ev.map (·.1),c.ev.map (·.2)⟩
structure P1(r:TR)(c:Cf):Prop where
 err:r.err=c.err
 sends:r.sends=c.sends
 sites:r.sites=c.ev.map (·.1)
 of:r.of=c.ev.map (·.2)
def xV(w:Wd)(fuel:Int)(c:Cf)(F:List j4)(d:Nat)(v:V)(r:TR):Prop :=
 ∃a,Path w fuel (fun _ k s=>l7 w s k) bQ c a/\((a.err≠0/\P1 r a)\/(a.err=0/\∃c3,a=cm c3 v/\c3.fs=F/\c3.err=0/\r=eF w fuel c3 d))
def Gi(N:Nat)(w:Wd)(fuel:Int)(M:Nat):Prop:=∀(c:Cf) (f:j4) (F:List j4) (m:Me) (d n:Nat),c.fs=f::F->c.err=0->cd w fuel c->(c.ev.length:Int)<=c.sends ->
 (∃x,j3 w.a7 f.aE=some x/\j3 x.aB f.aJ=some m)->mu fuel c<M->1<=d->21<=d+c.fs.length->mu fuel c+1<n ->
 ∃o v r,I8 N (fun _=>O0 N d) f.aE m f.aP f.args n w.a7 c.heap w.aC fuel c.sends c.turns (c.fs.length:Int) c.err (c.ev.map (·.1)) (c.ev.map (·.2)) f.a8 f.aA f.aH=some o /\
  xV w fuel c F c.fs.length v r/\(o=.ret (v,r)\/(v=⟨0,0⟩/\o=.next (r.w.a7,r.w.heap,r.w.aC,r.fuel,r.sends,r.turns,r.deep,r.err,r.sites,r.of)))
section
variable {w:Wd}{fuel:Int}{N:Nat}
def EI(hN:4194304<=N)(W:cI w){M:Nat}(R:Gi N w fuel M)(c:Cf)(p:c.err=0)(Z:iK w c.heap)(hl:c.fs.length<=20)(Y:∀g∈c.fs,dm w (c.heap.length:Int) 1 g)(hs:0<=c.sends/\c.sends<=fuel/\fuel<=400)(ht:0<=c.turns/\c.turns<=300)(T:O9 (c.heap.length:Int) c.back)(X:(c.ev.length:Int)<=c.sends+1)(k j:Int)(self:V)(args:List V)(i:O9 (c.heap.length:Int) self)(f:∀v∈args,O9 (c.heap.length:Int) v)(t:∃x m,j3 w.a7 k=some x/\j3 x.aB j=some m)(hmu:mu fuel c<M)(hM:mu fuel c+1<N)(d:Nat)(hd:1<=d)(U:21<=d+c.fs.length):
  ∃v r u,O0 N d (eF w fuel c c.fs.length) k j self args=some (v,r)/\fO w fuel bQ c k j self args=some u/\xV w fuel u c.fs c.fs.length v r:=by
 obtain⟨u,b,a1,a2,a3,a4,I⟩:=zw (Q:=bQ) W (fun _ _=>rfl) c p Z hl Y hs ht T k j self args i f t;obtain⟨d,rfl⟩:∃e,d=e+1:=⟨d-1,d9⟩;obtain⟨x,m,t,B,h⟩:=lW b;have C:wr (c.sends+1)=c.sends+1:=q8 ino;show∃v r u,vJ N (fun _=>vM N (fun _=>O0 N d)) (eF w fuel c c.fs.length) k j self args=some (v,r)/\_;unfold vJ eF;simp only[t,B,A0,C];rcases h with⟨g1,rfl⟩|⟨g1,y,rfl⟩|⟨g1,y,n,a,H,h⟩|⟨g1,y,n,P,rfl⟩|⟨g1,y,n,P,rfl⟩
 ·rw[RD g1];exact⟨_,_,_,rfl,b,_,.refl _,.inl ⟨by simp[I7],⟨rfl,rfl,rfl,rfl⟩⟩⟩
 ·rw[RE g1,RE y];exact⟨_,_,_,rfl,b,_,.refl _,.inl ⟨by simp[I7],⟨rfl,rfl,rfl,rfl⟩⟩⟩
 ·rw[RE g1,RD (show¬fuel<=c.sends by omega),RD n];simp only[IT,QJ,Qz,R0,H,A0,JL N m.aS self a i.num (f a (Z5 H)).num];rcases h with⟨A,rfl⟩|⟨A,rfl⟩
  ·exact⟨_,_,_,rfl,b,_,.refl _,.inl ⟨A,⟨rfl,rfl,rfl,rfl⟩⟩⟩
  ·refine⟨_,_,_,rfl,b,_,.refl _,.inr ⟨by rw[(iE _ _).2.2.1];exact p,{ c with sends:=c.sends+1 },rfl,rfl,p,?_⟩⟩;simp only[eF,A,p]
 ·rw[RE g1,RD (show¬fuel<=c.sends by omega),RE n,RE (show(20:Int)<=(c.fs.length:Int) by omega)];exact⟨_,_,_,rfl,b,_,.refl _,.inl ⟨by simp[I7],⟨rfl,rfl,rfl,rfl⟩⟩⟩
 ·rw[RE g1,RD (show¬fuel<=c.sends by omega),RE n,RD (show¬(20:Int)<=(c.fs.length:Int) by omega)];simp only[IT,R0];have D:wr ((c.fs.length:Int)+1)=((c.fs.length+1:Nat):Int):=by rw[q8 ino];omega
  have E:wr (((c.fs.length+1:Nat):Int)-1)=(c.fs.length:Int):=by rw[q8 ino];omega
  have S:0<=m.a8/\m.a8<=6:=by
   rcases W.ak k x j m t B with l|l
   ·exact l.a8
   ·exact absurd n l.1
  have e1:(decide (0<=m.a8) && decide (m.a8<=140737488355328) && decide (m.a8*16<=140737488355328))=true:=by
   simp only[It,RF];omega
  obtain⟨o,v,r,J,K,L⟩:=R { c with sends:=c.sends+1,fs:=fH bQ k j m self args::c.fs } (fH bQ k j m self args) c.fs m d N rfl p (I p) bL ⟨x,t,B⟩ d9 d9 (by simp only[QI];omega) d9;have z:I8 N (fun _=>O0 N d) k m self args N w.a7 c.heap w.aC fuel (c.sends+1) c.turns ((c.fs.length+1:Nat):Int) c.err (c.ev.map (·.1)) (c.ev.map (·.2)) (QH m.a8.toNat ⟨0,0⟩) [] 0=some o:=J;unfold vM;simp only[e1,Qz,D,z,A0];obtain⟨O,p1,p2⟩:=K;have s:∀G:TR,G=⟨r.w,r.fuel,r.sends,r.turns,wr (r.deep-1),r.err,r.sites,r.of⟩->xV w fuel { c with sends:=c.sends+1,fs:=fH bQ k j m self args::c.fs } c.fs c.fs.length v G:=by
   rintro G rfl;refine⟨O,p1,?_⟩;rcases p2 with⟨F,q⟩|⟨F,c3,q,q3,q4,q5⟩
   ·exact .inl ⟨F,q.err,q.sends,q.sites,q.of⟩
   ·refine .inr ⟨F,c3,q,q3,q4,?_⟩;rw[q5];unfold eF;simp only[QI,E]
  rcases L with rfl|⟨rfl,rfl⟩
  ·exact⟨_,_,_,rfl,b,s _ rfl⟩
  ·exact⟨_,_,_,rfl,b,s _ rfl⟩
def zQ{gR:Nat->TR->Int->Int->V->List V->Option (V×TR)}{k:Int}{m:Me}{self:V}{args:List V}{n:Nat}(b:1<=n)(r:TR)(a:r.err≠0)(T S:List V)(p:Int):
  I8 N gR k m self args n r.w.a7 r.w.heap r.w.aC r.fuel r.sends r.turns r.deep r.err r.sites r.of T S p=some (.next (r.w.a7,r.w.heap,r.w.aC,r.fuel,r.sends,r.turns,r.deep,r.err,r.sites,r.of)):=by
 obtain⟨n,rfl⟩:∃e,n=e+1:=⟨n-1,d9⟩;rw[I8,RD a];rfl
def d44(hN:4194304<=N)(W:cI w)(h1:0<w.a7.length)(hcl:E8 w):∀M:Nat,M<=1048576->Gi N w fuel M
 |0,_=>fun c f F m d n _ _ _ _ _ hmu=>absurd hmu (Nat.not_lt_zero _)
 |M+1,hM=>by
  intro c f F m d n p H I hev hmeth hmu hd hd2 hn;have ih:=d44 hN W h1 hcl M d9;have hQt:∀k j,(bQ k j).2=true->0<=(bQ k j).1.a8/\(bQ k j).1.a8<=1000:=fun k j h=>by cases h
  have Wk0:=I.wk W hQt;obtain⟨c1,K,A⟩:=mZ (Q:=bQ) W h1 (fun _ _=>rfl) I H p;have B:Path w fuel (fun _ k s=>l7 w s k) bQ c c1:=.step H (by rw[p];simp) K (.refl _);have hF:=I.fs;rw[p] at hF;obtain⟨⟨m',hh,R⟩,hF⟩:=hF;obtain⟨x,hx,hm⟩:=hmeth;obtain⟨x',hx',hm'⟩:=R.ak;rw[hx] at hx';cases hx';rw[hm] at hm';cases hm';obtain⟨i,hi1,D,him,hlt,h12,hneed,C,_,G⟩:=R.len;simp only[Nat.add_zero] at h12 hneed C G;have O:=tZ (R.me.num i him);have hop:i.op<=17:=by
   rcases O with⟨h,_⟩|⟨h,_⟩|⟨h,_⟩|⟨h,_⟩|⟨h,_⟩|⟨h,_⟩|⟨h,_⟩|⟨h,_⟩<;>omega
  obtain⟨n,rfl⟩:∃e,n=e+1:=⟨n-1,d9⟩;have hmu1:=A.mu;have hl3:c.fs.length=F.length+1:=by rw[p];rfl
  have P:∀(l:Cf) (S:j4),Path w fuel (fun _ k s=>l7 w s k) bQ c l->l.fs=S::F->l.err=0->mu fuel l<mu fuel c->Gk f S ->
    ∃o v r,I8 N (fun _=>O0 N d) f.aE m f.aP f.args n w.a7 l.heap w.aC fuel l.sends l.turns (c.fs.length:Int) l.err (l.ev.map (·.1)) (l.ev.map (·.2)) S.a8 S.aA S.aH=some o /\
     xV w fuel c F c.fs.length v r/\(o=.ret (v,r)\/(v=⟨0,0⟩/\o=.next (r.w.a7,r.w.heap,r.w.aC,r.fuel,r.sends,r.turns,r.deep,r.err,r.sites,r.of))):=by
   intro l S p2 q X L hsame;have hpa:=E1 W h1 (fun _ _=>rfl) p2 I.sends.2.1 (fun _=>I);have hev2:=Na W h1 (fun _ _=>rfl) p2 (fun _=>I) (fun _=>hev) X;have hl2:l.fs.length=c.fs.length:=by rw[q,p];rfl
   obtain⟨s1,s2,s3,s4,s5⟩:=hsame;obtain⟨o,v,r,q1,⟨c3,q2,q3⟩,q4⟩:=ih l S F m d n q X (hpa.2.2.2 X) hev2 ⟨x,by rw[s1];exact hx,by rw[s2];exact hm⟩ d9 hd d9 d9;rw[s1,s4,s5,hl2] at q1;rw[hl2] at q3;exact⟨o,v,r,q1,⟨c3,p2.trans q2,q3⟩,q4⟩
  by_cases t:i.op=14
  ·have ha:0<=i.a/\i.a<5:=by
    rcases O with⟨h,_⟩|⟨h,_⟩|⟨h,_⟩|⟨h,_⟩|⟨h,_⟩|⟨h,_⟩|⟨_,h⟩|⟨h,_⟩<;>omega
   have b:=K;unfold L6 at b;rw[p] at b;simp only[D,A0,RA t] at b;obtain⟨y,cl,m2,k0,k1,hy,T,hm2,h⟩:=mX b;simp only at k1 hy T hm2;rw[hx] at T;cases T;rw[hm] at hm2;cases hm2;have hsS:P7 { f with aH:=f.aH+1 } m i f.aH=⟨f.aE,m.name,f.aH⟩:=by unfold P7;rw[show({ f with aH:=f.aH+1 }:j4).aZ=false from R.bn];rfl
   have wat:wr (f.aH+1)=f.aH+1:=q8 (by have:=R.me.len;rw[<-R.code] at this;have:=R.pos;unfold H8;omega);have aa:decide (f.aH+1<=f.aH)=false:=RD d9;have e1:wr ((f.aA.length:Int)-i.a)=((f.aA.length-i.a.toNat:Nat):Int):=by rw[q8 ino];omega
   have e2:wr (((f.aA.length-i.a.toNat:Nat):Int)-1)=((f.aA.length-i.a.toNat-1:Nat):Int):=by rw[q8 ino];omega
   have d1:(decide ((0:Int)<=((f.aA.length-i.a.toNat:Nat):Int)) && decide (((f.aA.length-i.a.toNat:Nat):Int)<=(f.aA.length:Int)))=true:=by simp only[It,RF];omega
   have d2:(decide ((0:Int)<=((f.aA.length-i.a.toNat-1:Nat):Int)) && decide (((f.aA.length-i.a.toNat-1:Nat):Int)<=(f.aA.length:Int)))=true:=by simp only[It,RF];omega
   have hsd:=I.sends;have b1:AT ((([]:List V).length+(f.aA.drop (f.aA.length-i.a.toNat)).length)*16) 140737488355328=true:=p9 F5;have b2:∀s:St,AT (((c.ev.map (·.1)).length+[s].length)*32) 140737488355328=true:=fun s=>p9 F5;have b3:∀s:Int,AT (((c.ev.map (·.2)).length+[s].length)*8) 140737488355328=true:=fun s=>p9 F5;have b4:∀v:V,AT (((f.aA.take (f.aA.length-i.a.toNat-1)).length+[v].length)*16) 140737488355328=true:=fun v=>p9 F5;have Y:∀k:Int,nZ N (⟨w.a7,c.heap,w.aC⟩:Wd) k i.name=some (l7 w i.name k):=fun k=>(yU N ⟨w.a7,c.heap,w.aC⟩ k i.name d9 hcl.1).trans (by rw[zE w c.heap w.aC]);rw[hsS] at h;simp only at h;have E:j3 m.code f.aH=some i:=by rw[<-R.code];exact D
   rw[I8,H];simp only[RB,Qz,E,A0,t,RD (show¬((14:Int)=1) by decide),RD (show¬((14:Int)=2) by decide),RD (show¬((14:Int)=3) by decide),RD (show¬((14:Int)=4) by decide),RD (show¬((14:Int)=5) by decide),
    RD (show¬((14:Int)=6) by decide),RD (show¬((14:Int)=7) by decide),RD (show¬((14:Int)=8) by decide),RD (show¬((14:Int)=9) by decide),RD (show¬((14:Int)=10) by decide),RD (show¬((14:Int)=11) by decide),
    RD (show¬((14:Int)=12) by decide),RD (show¬((14:Int)=13) by decide),R0,e1,e2,d1,d2,b1,b2,b3,Qc,q9,hy,Ck,Y,wat]
   rcases h with⟨h2,rfl⟩|⟨h2,h⟩
   ·rw[RE h2];simp only[Qz,aa,R0,A0];have:=zQ (N:=N) (gR:=fun _=>O0 N d) (k:=f.aE) (m:=m) (self:=f.aP) (args:=f.args) (n:=n) d9 (eF w fuel (I7 { c with fs:={ f with aH:=f.aH+1 }::F,ev:=c.ev++[(⟨f.aE,m.name,f.aH⟩,y9 c.heap y)] } 10) c.fs.length)
     (by simp[eF,I7]) f.a8 (f.aA.take (f.aA.length-i.a.toNat-1)) (f.aH+1)
    simp only[eF,I7,List.map_append,QO,List.map_nil] at this;exact⟨_,⟨0,0⟩,eF w fuel (I7 { c with fs:={ f with aH:=f.aH+1 }::F,ev:=c.ev++[(⟨f.aE,m.name,f.aH⟩,y9 c.heap y)] } 10) c.fs.length,this,⟨_,B,.inl ⟨by simp[I7],⟨rfl,rfl,rfl,rfl⟩⟩⟩,.inr ⟨rfl,by simp[eF,I7]⟩⟩
   ·rw[RD (show¬(l7 w i.name (y9 c.heap y)).2<0 by omega)];simp only[R0,Qd];have z:=G (wr (f.aH+1)) (by rw[AL t];simp);rw[wat,AL t] at z;simp only at z;rw[q8 ino] at z;have hg:dm w (c.heap.length:Int) 1 { f with aH:=f.aH+1,aA:=f.aA.take (f.aA.length-i.a.toNat-1) } :=
     ⟨m,hh,R.go (f.aH+1) f.a8 (f.aA.take (f.aA.length-i.a.toNat-1)) 1 d9 (by rw[z.2];congr 1;simp;omega) rfl R.ax fun u hu=>R.ae u (List.mem_of_mem_take hu)⟩
    obtain⟨x3,m3,hx3,hm3,_⟩:=p6 (w:=w) (s:=i.name) (c:=y9 c.heap y) h2;have hmu0:mu fuel { c with fs:={ f with aH:=f.aH+1,aA:=f.aA.take (f.aA.length-i.a.toNat-1) }::F,ev:=c.ev++[(⟨f.aE,m.name,f.aH⟩,y9 c.heap y)] }<mu fuel c:=by
     have hpt:=qp hlt;have e:bA { f with aH:=f.aH+1,aA:=f.aA.take (f.aA.length-i.a.toNat-1) }=bA { f with aH:=f.aH+1 }:=rfl;simp only[mu,p,QO,QX,e];omega
    obtain⟨v,r,c1',q1,q2,q3⟩:=EI hN W ih { c with fs:={ f with aH:=f.aH+1,aA:=f.aA.take (f.aA.length-i.a.toNat-1) }::F,ev:=c.ev++[(⟨f.aE,m.name,f.aH⟩,y9 c.heap y)] }
     H I.heap (by have:=I.fl;simp only[QI];omega) (fun g Z=>by
      rcases QG.1 Z with rfl|Z
      ·exact hg
      ·exact hF g Z) I.sends I.turns I.back F5 (l7 w i.name (y9 c.heap y)).1 (l7 w i.name (y9 c.heap y)).2 y (f.aA.drop (f.aA.length-i.a.toNat)) (R.ae y (QM hy)) (fun v hv=>R.ae v (List.mem_of_mem_drop hv))
      ⟨x3,m3,hx3,hm3⟩ d9 d9 d hd (by simp only[QI];omega)
    rw[h] at q2;cases q2;have q1':O0 N d ⟨⟨w.a7,c.heap,w.aC⟩,fuel,c.sends,c.turns,(c.fs.length:Int),0,c.ev.map (·.1)++[⟨f.aE,m.name,f.aH⟩],c.ev.map (·.2)++[y9 c.heap y]⟩ (l7 w i.name (y9 c.heap y)).1 (l7 w i.name (y9 c.heap y)).2 y (f.aA.drop (f.aA.length-i.a.toNat))=some (v,r):=by
     have:eF w fuel { c with fs:={ f with aH:=f.aH+1,aA:=f.aA.take (f.aA.length-i.a.toNat-1) }::F,ev:=c.ev++[(⟨f.aE,m.name,f.aH⟩,y9 c.heap y)] } (F.length+1)=⟨⟨w.a7,c.heap,w.aC⟩,fuel,c.sends,c.turns,(c.fs.length:Int),0,c.ev.map (·.1)++[⟨f.aE,m.name,f.aH⟩],c.ev.map (·.2)++[y9 c.heap y]⟩:=by
      simp only[eF,H,hl3,List.map_append,QO,List.map_nil]
     rw[<-this];exact q1
    simp only[q1',A0,b4,Qz,aa,R0];obtain⟨l,p1,p2⟩:=q3;have hPc:Path w fuel (fun _ k s=>l7 w s k) bQ c l:=B.trans p1;rcases p2 with⟨g1,g2⟩|⟨g1,c3,g2,g3,g4,g5⟩
    ·have:=zQ (N:=N) (gR:=fun _=>O0 N d) (k:=f.aE) (m:=m) (self:=f.aP) (args:=f.args) (n:=n) d9 r (by rw[g2.err];exact g1) f.a8 (f.aA.take (f.aA.length-i.a.toNat-1)++[v]) (f.aH+1);exact⟨_,⟨0,0⟩,r,this,⟨l,hPc,.inl ⟨g1,g2⟩⟩,.inr ⟨rfl,rfl⟩⟩
    ·have q:l.fs=L9 { f with aH:=f.aH+1,aA:=f.aA.take (f.aA.length-i.a.toNat-1) } v::F:=by
      rw[g2];unfold cm;rw[g3]
     have L:mu fuel l<mu fuel c:=by
      have h6:=O2 W h1 (fun _ _=>rfl) p1 A.inv;omega
     have:=P l _ hPc q g1 L ⟨rfl,rfl,rfl,rfl,rfl⟩;rw[g5];have e3:=iE c3 v;have e4:=ot c3 v;rw[<-g2] at e3 e4;obtain⟨z1,z2,z3,z4⟩:=e3;rw[e4,z1,z2,z3,z4] at this;simp only[eF];have hlen:((F.length+1:Nat):Int)=(c.fs.length:Int):=by rw[hl3]
     simp only[QI,hlen];exact this
  by_cases J:i.op=17
  ·have z:1<=f.aA.length:=by have:=C J;omega
   obtain⟨v,hv,hvm⟩:=qW (f:={ f with aH:=f.aH+1 }) z;have b:=K;unfold L6 at b;rw[p] at b;simp only[D,A0,R1 t,R1 (show¬i.op=15 by omega),R1 (show¬i.op=16 by omega),RA J,hv,QZ] at b;cases b;have hv1:f.aA.getLast?=some v:=(fi hv).1;have E:j3 m.code f.aH=some i:=by rw[<-R.code];exact D
   rw[I8,H];simp only[RB,Qz,E,A0,J,RD (show¬((17:Int)=1) by decide),RD (show¬((17:Int)=2) by decide),RD (show¬((17:Int)=3) by decide),RD (show¬((17:Int)=4) by decide),RD (show¬((17:Int)=5) by decide),
    RD (show¬((17:Int)=6) by decide),RD (show¬((17:Int)=7) by decide),RD (show¬((17:Int)=8) by decide),RD (show¬((17:Int)=9) by decide),RD (show¬((17:Int)=10) by decide),RD (show¬((17:Int)=11) by decide),
    RD (show¬((17:Int)=12) by decide),RD (show¬((17:Int)=13) by decide),RD (show¬((17:Int)=14) by decide),RD (show¬((17:Int)=15) by decide),RD (show¬((17:Int)=16) by decide),R0,rJ hv1 (show f.aA.length<=1000 by omega)]
   refine⟨_,v,eF w fuel c c.fs.length,rfl,⟨_,B,.inr ⟨by rw[(iE _ _).2.2.1];exact H,{ c with fs:=F },rfl,rfl,H,rfl⟩⟩,.inl ?_⟩;simp only[eF,H]
  ·obtain⟨f1,y1,y2,y3,y4,y5⟩:=EG (N:=N) (gR:=fun _=>O0 N d) d9 Wk0 H p D t J hop K (k:=f.aE) R.code (c.fs.length:Int) (c.ev.map (·.1)) (c.ev.map (·.2)) n;rw[y5];by_cases U:c1.err=0
   ·have:=P c1 f1 B y1 U hmu1 y2;rw[y3] at this;exact this
   ·have:=zQ (N:=N) (gR:=fun _=>O0 N d) (k:=f.aE) (m:=m) (self:=f.aP) (args:=f.args) (n:=n) d9 (eF w fuel c1 c.fs.length) U f1.a8 f1.aA f1.aH;simp only[eF,y3] at this;exact⟨_,⟨0,0⟩,eF w fuel c1 c.fs.length,this,⟨_,B,.inl ⟨U,⟨rfl,rfl,rfl,rfl⟩⟩⟩,.inr ⟨rfl,by simp[eF,y3]⟩⟩
end
def II{w:Wd}{N:Nat}(l:4194304<=N)(t:E8 w)(q:K7 N w)(c:O8)(fuel:Int):∃r R ev,vD N w c fuel=some (r.1,r.2,R)/\lG w c fuel r ev/\R.sites=ev.map (·.1)/\R.of=ev.map (·.2):=by
 have W:=q.nY l t;have n:0<w.a7.length:=by have:=q.many.1;omega
 unfold vD;rw[I0];simp only[A0];by_cases e:I9 w c fuel=0
 ·obtain⟨M,O,D,z,E,F⟩:=qS e;simp only[e,RB,IT,R0,Ck,A0,yU N w _ _ (show 1048578<=N by omega) t.1];by_cases j:(l7 w c.name (y9 w.heap c.aP)).2<0
  ·rw[RE j];exact⟨(w,⟨⟨0,0⟩,10,0⟩),_,[],rfl,.inr ⟨e,I7 (P8 w) 10,I7 (P8 w) 10,by unfold fN;rw[RA j],.refl _,.inl (by simp[I7]),rfl,rfl⟩,rfl,rfl⟩
  ·rw[RD j];simp only[R0];obtain⟨x,m,I,H,_⟩:=p6 (w:=w) (s:=c.name) (c:=y9 w.heap c.aP) d9;have p:mu fuel (P8 w)<1048576:=kp z (QQ _) (QQ _) (by simp[P8]);obtain⟨v,r,k,J,K,b,B,L⟩:=EI l W (d44 (fuel:=fuel) l W n t 1048576 (NO _)) (P8 w) rfl (ux q) (by simp[P8]) (fun g G=>by cases G) ⟨QQ _,D,z⟩ ⟨QQ _,by simp[P8]⟩ (O9.nil _) (by simp[P8])
    (l7 w c.name (y9 w.heap c.aP)).1 (l7 w c.name (y9 w.heap c.aP)).2 c.aP c.args E F ⟨x,m,I,H⟩ p d9 N d9 d9
   have u:yR N (⟨w,fuel,0,0,0,0,[],[]⟩:TR) (l7 w c.name (y9 w.heap c.aP)).1 (l7 w c.name (y9 w.heap c.aP)).2 c.aP c.args=some (v,r):=J;rw[u];simp only[A0];have A:fN w fuel bQ c=some k:=by unfold fN;rw[R1 j];exact K
   rcases L with⟨g1,a⟩|⟨g1,c3,a,h,C,i⟩
   ·have e1:r.err≠0:=by rw[a.err];exact g1
    rw[RD e1];refine⟨fV w b,r,b.ev,?_,.inr ⟨e,k,b,A,B,.inl g1,rfl,rfl⟩,a.sites,a.of⟩;simp only[QJ,Qz,fV,R1 g1,a.err,a.sends]
   ·have e0:r.err=0:=by rw[i];exact C
    have h:c3.fs=[]:=h;have o:b.fs=[]:=by rw[a];unfold cm;rw[h]
    have d:b.back=v:=by rw[a];unfold cm;rw[h]
    have f:=iE c3 v;have y:=ot c3 v;rw[<-a] at f y;rw[RE e0];refine⟨fV w b,r,b.ev,?_,.inr ⟨e,k,b,A,B,.inr o,rfl,rfl⟩,by rw[i,f.2.2.2];rfl,by rw[i,f.2.2.2];rfl⟩;simp only[IT,R0,fV,RA g1,d,f.1,y,i,eF]
 ·rw[RD e];exact⟨(w,⟨⟨0,0⟩,I9 w c fuel,0⟩),_,[],rfl,.inl ⟨e,rfl,rfl⟩,rfl,rfl⟩
def MP{w:Wd}{N:Nat}(i:4194304<=N)(j:E8 w)(f:K7 N w){c:O8}{fuel:Int}{r:Wd×dX}(h:il w c fuel bQ r):
  (r.2.err=0->I9 w c fuel=0/\0<=r.2.sends/\r.2.sends<=fuel/\fuel<=400/\iK w r.1.heap/\r.1=⟨w.a7,r.1.heap,w.aC⟩/\w.heap.length<=r.1.heap.length/\O9 (r.1.heap.length:Int) r.2.value) /\
  (r.2.err≠0->r.1=w/\r.2.value=⟨0,0⟩/\0<=r.2.sends/\r.2.sends<=400):=by
 rcases h with⟨a,rfl⟩|⟨a,x,c',q,s,y,rfl⟩
 ·exact⟨fun e=>absurd e a,fun _=>⟨rfl,rfl,QQ _,bL⟩⟩
 ·have W:=f.nY i j;have d:0<w.a7.length:=by have:=f.many.1;omega
  obtain⟨_,_,f1,p,_⟩:=qS a;obtain⟨o,g,u,l,m,v,n⟩:=wq (Q:=bQ) i j f (fun _ _=>rfl) c a;rw[q] at g;cases g;obtain⟨z,A,k,t⟩:=E1 W d (fun _ _=>rfl) s l n;rw[m] at k;unfold fV;by_cases b:c'.err=0
  ·rw[RA b];have I:=t b;exact⟨fun _=>⟨a,bL,bL,p,I.heap,rfl,k,I.back⟩,fun h=>absurd rfl h⟩
  ·rw[R1 b];exact⟨fun h=>absurd h b,fun _=>⟨rfl,rfl,bL,bL⟩⟩
def kA(w:Wd)(s:St)(n:ByteArray):Prop:=∃x m i,∃j:Nat,j3 w.a7 s.cls=some x/\x.aB[j]?=some m/\m.name=s.name/\j3 m.code s.pos=some i/\i.name=n
def nameAt(w:Wd)(s:St):ByteArray:=match j3 w.a7 s.cls with
 |none=>IS
 |some x=>match V3 s.name x.aB with
  |none=>IS
  |some j=>match x.aB[j]? with
   |none=>IS
   |some m=>match j3 m.code s.pos with
    |none=>IS
    |some i=>i.name
def sG{w:Wd}(d:dD w){s:St}{n:ByteArray}(h:kA w s n):nameAt w s=n:=by
 obtain⟨x,m,i,j,b,a,c,hi,rfl⟩:=h;have:=Am (d x (Z5 b)) a;rw[c] at this;unfold nameAt;simp only[b,this,a,hi]
def dj(w:Wd)(sb:D9)(e:St×Int):D9 :=
 ⟨sb.world,sb.fL,(iw w e.1 e.2 (nameAt w e.1) sb.cells).1,kv e.1 e.2 sb.aU,
  if(iw w e.1 e.2 (nameAt w e.1) sb.cells).2.2.2=true then wr (sb.eh+1) else sb.eh,if(iw w e.1 e.2 (nameAt w e.1) sb.cells).2.2.2=true then sb.not else wr (sb.not+1)⟩
def ca(w:Wd)(l:List Ce):Prop:=∀c∈l,c.aC=w.aC->∀y∈c.lines,∃n,kA w c.site n/\0<=(l7 w n y.cls).2/\(l7 w n y.cls).1=y.found
def jD(n:Nat)(sb:D9):Prop:=sb.cells.length<=n/\(∀x∈sb.cells,x.lines.length<=n)/\sb.aU.length<=n/\∀t∈sb.aU,t.a7.length<=n
def kQ(w:Wd)(ev:List (St×Int)):Prop:=∀e∈ev,∃n,kA w e.1 n
def EL(e c f:Int)(x:Ce):(fv e c f x).site=x.site/\(fv e c f x).aC=e:=by
 unfold fv V4 dw;by_cases a:x.aC=e
 ·rw[RA a];split
  ·exact⟨rfl,a⟩
  ·split<;>exact⟨rfl,a⟩
 ·rw[R1 a];split
  ·exact⟨rfl,rfl⟩
  ·split<;>exact⟨rfl,rfl⟩
def Dw(e c f:Int)(x:Ce):(∀y∈(fv e c f x).lines,(x.aC=e/\y∈x.lines)\/y=⟨c,f⟩)/\(fv e c f x).lines.length<=x.lines.length+1:=by
 unfold fv V4 dw;by_cases b:x.aC=e
 ·rw[RA b];split
  ·exact⟨fun y a=>.inl ⟨b,a⟩,d9⟩
  ·split
   ·exact⟨fun y a=>by simp at a,l9⟩
   ·refine⟨fun y a=>?_,l9⟩;simp only[QS,Qf] at a;rcases a with a|a
    ·exact .inl ⟨b,a⟩
    ·exact .inr a
 ·rw[R1 b];split
  ·exact⟨fun y a=>by simp at a,l9⟩
  ·split
   ·exact⟨fun y a=>by simp at a,l9⟩
   ·refine⟨fun y a=>?_,l9⟩;simp only[Qd,Qf] at a;exact .inr a
def wj{s:St}{e c f:Int}:∀{l:List Ce} {x:Ce},x∈fq s e c f l->x∈l\/∃y,(y∈l\/y=⟨s,e,false,[]⟩)/\y.site=s/\x=fv e c f y
 |[],x,h=>by
  rw[fq,Qf] at h;exact .inr ⟨_,.inr rfl,rfl,h⟩
 |y::l,x,h=>by
  rw[fq] at h;split at h
  ·rename_i d;rcases QG.1 h with h|h
   ·exact .inr ⟨y,.inl l9,d,h⟩
   ·exact .inl (by simp[h])
  ·rcases QG.1 h with h|h
   ·exact .inl (by simp[h])
   ·rcases wj h with h|⟨z,a,b⟩
    ·exact .inl (by simp[h])
    ·exact .inr ⟨z,a.imp (fun h=>by simp[h]) id,b⟩
def d57{s:St}{e c f:Int}:∀l:List Ce,(fq s e c f l).length<=l.length+1
 |[]=>by simp[fq]
 |x::l=>by
  rw[fq];split
  ·simp
  ·have:=d57 (s:=s) (e:=e) (c:=c) (f:=f) l;simp only[QI];omega
def L2{w:Wd}{s:St}{n:ByteArray}{c:Int}{l:List Ce}(h:ca w l)(k:kA w s n)(j:0<=(l7 w n c).2):ca w (fq s w.aC c (l7 w n c).1 l):=by
 intro x b i y f;rcases wj b with b|⟨z,d,a,rfl⟩
 ·exact h x b i y f
 ·rw[(EL _ _ _ _).1,a];rcases(Dw _ _ _ _).1 y f with⟨g,e⟩|rfl
  ·rcases d with d|rfl
   ·have:=h z d g y e
    rwa [a] at this
   ·simp at e
  ·exact⟨n,k,j,rfl⟩
def ET{c:Int}:∀{l:List Ln},0<=iz c l->∃y∈l,y.cls=c/\y.found=iz c l
 |[],h=>by simp[iz] at h
 |y::l,h=>by
  rw[iz] at h⊢;split
  ·rename_i e;exact⟨y,l9,e,rfl⟩
  ·rename_i e;rw[R1 e] at h;obtain⟨z,a,b⟩:=ET h;exact⟨z,by simp[a],b⟩
def d95{s:St}{e c:Int}:∀{l:List Ce},0<=dL s e c l->∃x∈l,x.site=s/\x.aC=e/\∃y∈x.lines,y.cls=c/\y.found=dL s e c l
 |[],h=>by simp[dL] at h
 |x::l,h=>by
  rw[dL] at h⊢;by_cases b:x.site=s
  ·rw[RA b] at h⊢;by_cases a:x.aC=e
   ·rw[RA a] at h⊢;exact⟨x,l9,b,a,ET h⟩
   ·rw[R1 a] at h;exact absurd h G7
  ·rw[R1 b] at h⊢;obtain⟨z,d,f⟩:=d95 h;exact⟨z,by simp[d],f⟩
def LL{w:Wd}(b:dD w){s:St}{n:ByteArray}{c:Int}{l:List Ce}(h:ca w l)(m:kA w s n)(k:0<=dL s w.aC c l):dL s w.aC c l=(l7 w n c).1/\0<=(l7 w n c).2/\dL s w.aC c l<w.a7.length:=by
 obtain⟨x,o,f,g,y,p,i,j⟩:=d95 k;obtain⟨r,d,a,e⟩:=h x o g y p;rw[f] at d;obtain rfl:r=n:=(sG b d).symm.trans (sG b m);rw[i] at a e;obtain⟨z,_,q,_⟩:=p6 a;have:=(fo q).2;rw[<-j,<-e];exact⟨rfl,a,this⟩
def zz{w:Wd}(g:dD w){s:St}{n:ByteArray}{c:Int}{l:List Ce}(h:ca w l)(f:kA w s n):(iw w s c n l).2.1=(l7 w n c).1/\(iw w s c n l).2.2.1=(l7 w n c).2 /\
  (iw w s c n l).2.2.2=decide (0<=dL s w.aC c l)/\(iw w s c n l).1=(if 0<=dL s w.aC c l then l else if(l7 w n c).2<0 then l else fq s w.aC c (l7 w n c).1 l):=by
 unfold iw;by_cases a:0<=dL s w.aC c l
 ·obtain⟨g1,b,d⟩:=LL g h f a;rw[RA ⟨a,d⟩,RA a,RE a,g1,Kp b];exact⟨rfl,rfl,rfl,rfl⟩
 ·rw[R1 (fun e=>a e.1),R1 a,RD a];split<;>exact⟨rfl,rfl,rfl,rfl⟩
def My{s:St}{c:Int}{n:Nat}{l:List Tl}(h:l.length<=n)(b:∀t∈l,t.a7.length<=n):(kv s c l).length<=n+1/\∀t∈kv s c l,t.a7.length<=n+1:=by
 have d:∀l:List Tl,(∀t∈l,t.a7.length<=n)->∀t∈(e7 s c l).1,t.a7.length<=n+1:=by
  intro l
  induction l with
  |nil=>intro _ t a;cases a
  |cons x l ih =>
   intro h t a;unfold e7 at a;split at a
   ·rcases QG.1 a with rfl|a
    ·have:=Lk c x.a7;have:=h x l9;show(pT c x.a7).length<=n+1;omega
    ·have:=h t (by simp[a]);omega
   ·rcases QG.1 a with rfl|a
    ·have:=h t l9;omega
    ·exact ih (fun t a=>h t (by simp[a])) t a
 have hl:=yg s c l;unfold kv;split
 ·exact⟨d9,d l b⟩
 ·refine⟨F5,fun t a=>?_⟩;rcases QS.1 a with a|a
  ·exact d l b t a
  ·rw[Qf] at a;subst a;simp
def FX{w:Wd}(j:dD w){sb:D9}{e:St×Int}{n:Nat}(o:∃m,kA w e.1 m)(d:jD n sb)(g:ca w sb.cells):jD (n+1) (dj w sb e)/\ca w (dj w sb e).cells:=by
 obtain⟨m,i⟩:=o;obtain⟨z1,z2,z3,z4⟩:=d;have l:=sG j i;obtain⟨_,_,_,k⟩:=zz (c:=e.2) j g i;have h:=My (s:=e.1) (c:=e.2) z3 z4;unfold jD dj;simp only[l,k];have a:sb.cells.length<=n+1/\∀x∈sb.cells,x.lines.length<=n+1:=⟨d9,fun x b=>by have:=z2 x b;omega⟩;split
 ·exact⟨⟨a.1,a.2,h⟩,g⟩
 ·split
  ·exact⟨⟨a.1,a.2,h⟩,g⟩
  ·rename_i p;refine⟨⟨?_,fun x b=>?_,h⟩,L2 g i d9⟩
   ·have:=d57 (s:=e.1) (e:=w.aC) (c:=e.2) (f:=(l7 w m e.2).1) sb.cells;omega
   ·rcases wj b with b|⟨z,d,_,rfl⟩
    ·exact a.2 x b
    ·have:=(Dw w.aC e.2 (l7 w m e.2).1 z).2;rcases d with d|rfl
     ·have:=z2 z d;omega
     ·simp only[Qh] at this;omega
def zs{w:Wd}(c:dD w):∀{ev:List (St×Int)} {sb:D9} {n:Nat},kQ w ev->jD n sb->ca w sb.cells->jD (n+ev.length) (ev.foldl (dj w) sb)/\ca w (ev.foldl (dj w) sb).cells
 |[],sb,n,_,b,a=>⟨b,a⟩
 |e::ev,sb,n,he,b,a=>by
  obtain⟨d,f⟩:=FX c (he e l9) b a;have:=zs c (show kQ w ev from fun x g=>he x (Qp _ g)) d f;rw[List.foldl_cons,QI,show n+(ev.length+1)=n+1+ev.length by omega];exact this
def Ni{w:Wd}(N:Nat)(f:1048578<=N)(a:dD w)(h:E8 w){sb:D9}{s:St}{k:Int}{n:ByteArray}{z:Nat}(l:jD z sb)(m:z<=1099511627770)(g:ca w sb.cells)(b:kA w s n):
  sX N s k n sb w=some ((l7 w n k).1,(l7 w n k).2,dj w sb (s,k)):=by
 obtain⟨z1,z2,z3,z4⟩:=l;obtain⟨d,e,c3,o⟩:=zz (c:=k) a g b;unfold sX dj;rw[Ju N sb.cells w s k n f a h ⟨d9,fun x j=>by have:=z2 x j;omega⟩,d38 N sb.aU s k (fun t i=>by have:=z4 t i;omega) d9];simp only[A0,sG a b,d,e];cases (iw w s k n sb.cells).2.2.2<;>rfl
section
variable {w:Wd}{fuel:Int}{N:Nat}
structure uF(w:Wd)(fuel:Int)(c:Cf):Prop where
 inv:cd w fuel c
 len:(c.ev.length:Int)<=c.sends
 ok:kQ w c.ev
def EA{c:Cf}(I:cd w fuel c){f:j4}{F:List j4}(d:c.fs=f::F){i:Ins}{x:Cl}{m:Me}(hi:j3 f.code f.aH=some i)(h:j3 w.a7 f.aE=some x)(g:j3 x.aB f.aJ=some m):kA w (P7 f m i f.aH) i.name:=by
 have e:=I.fs;rw[d] at e;obtain⟨⟨l,k,R⟩,_⟩:=e;obtain⟨n,b,a⟩:=R.ak;rw[h] at b;cases b;rw[g] at a;cases a;rw[R.code] at hi;have j:P7 f m i f.aH=⟨f.aE,m.name,f.aH⟩:=by unfold P7;rw[R.bn];rfl
 rw[j];exact⟨x,m,i,f.aJ.toNat,h,(l6 g).2,rfl,hi,rfl⟩
def Fz{Q:Int->Int->Fs×Bool}(W:cI w)(z:0<w.a7.length)(A:∀k j,(Q k j).2=false){c g:Cf}(I:uF w fuel c)(b:c.err=0)(o:c.fs≠[])(l:L6 w fuel (fun _ k s=>l7 w s k) Q c=some g):
  (g.err=0->uF w fuel g)/\kQ w g.ev/\g.ev.length<=c.ev.length+1:=by
 cases a:c.fs with
 |nil=>exact absurd a o
 |cons f F =>
  obtain⟨y,r,p⟩:=mZ (Q:=Q) W z A I.inv b a;rw[l] at r;cases r;rcases d83 l with h|⟨E,C,i,x,m,k,q,t,D,u,v,n,d⟩
  ·rw[h];refine⟨fun e=>⟨p.inv e,?_,by rw[h];exact I.ok⟩,I.ok,d9⟩;rw[h];exact Int.le_trans I.len p.sends.1
  ·rw[a] at q;cases q;have B:=EA I.inv a t u v;have aO:kQ w g.ev:=by
    rw[n];intro e b;rcases QS.1 b with b|b
    ·exact I.ok e b
    ·rw[Qf] at b;subst b;exact⟨_,B⟩
   refine⟨fun e=>⟨p.inv e,?_,aO⟩,aO,by rw[n];simp⟩;rcases d with⟨_,d⟩|⟨_,d|d⟩
   ·rw[d] at e;cases e
   ·exact absurd e d
   ·rw[d,n];have:=I.len;simp;omega
def NN{Q:Int->Int->Fs×Bool}(W:cI w)(h:0<w.a7.length)(i:∀k j,(Q k j).2=false){c c':Cf}(p:Path w fuel (fun _ k s=>l7 w s k) Q c c')(b:c.err=0->uF w fuel c)(aO:kQ w c.ev)(hl:c.ev.length<=401):
  kQ w c'.ev/\c'.ev.length<=401:=by
 induction p with
 |refl=>exact⟨aO,hl⟩
 |@step c n o a d e _ ih =>
  obtain⟨f,g,m⟩:=Fz W h i (b a) a d e;have q:=(b a).inv.sends;have l:=(b a).len;exact ih f g d9
def N0{Q:Int->Int->Fs×Bool}{c:O8}{b:Cf}(a:fN w fuel Q c=some b):b.ev=[]:=by
 unfold fN at a;split at a
 ·cases a;rfl
 ·exact(tM a).1
end
def EZ{w:Wd}{N:Nat}{fuel:Int}(G:4194304<=N)(B:E8 w)(u:K7 N w)(c:O8)(l:List Ce)(t:List Tl)(z:Nat)(v:jD z ⟨⟨[],[],0⟩,⟨⟨0,0⟩,0,0⟩,l,t,0,0⟩)(hz2:z<=1099511627000)(Y:ca w l):
  ∃r ev sb,uw N w c fuel l t=some ⟨r.1,r.2,sb.cells,sb.aU,sb.eh,sb.not⟩/\lG w c fuel r ev/\sb=ev.foldl (dj w) ⟨⟨[],[],0⟩,⟨⟨0,0⟩,0,0⟩,l,t,0,0⟩/\kQ w ev/\ev.length<=401:=by
 have W:=u.nY G B;have g:0<w.a7.length:=by have:=u.many.1;omega
 unfold uw;rw[yh N ⟨by have:=v.1;simp only at this;omega,fun x D=>by have:=v.2.1 x D;omega⟩,Dg N (fun x D=>by have:=v.2.2.2 x D;omega) (by have:=v.2.2.1;simp only at this;omega)];simp only[A0];generalize J:(⟨⟨[],[],0⟩,⟨⟨0,0⟩,0,0⟩,l,t,0,0⟩:D9)=sb at v⊢;have H:ca w sb.cells:=by rw[<-J];exact Y
 by_cases C:I9 w c fuel=0
 ·obtain⟨q,E,P,b3,b4,R,S⟩:=wq (Q:=bQ) G B u (fun _ _=>rfl) c C;have a:=N0 E;have y:q.err=0->uF w fuel q:=fun e=>⟨S e,by rw[a];simpa using P,by rw[a];intro e d;cases d⟩;obtain⟨c',O,p2,p3,p4⟩:=M1 (gl:=fun o p K s_=>sX N o p K s_ w) (gq:=fun o p=>tW N o p) (T:=dj w) (sb:=sb) (Q:=bQ) (L:=fun _ k s=>l7 w s k) G B u.cM (fun k j x m _ _=>rfl) (uF w fuel)
   (fun c I d A=>by
    refine⟨I.inv.wk W (fun k j h=>by cases h),?_,?_⟩
    ·intro f F i x m k b hi V D X;have n:=EA I.inv b hi D X;obtain⟨t1,t2⟩:=zs u.cM I.ok v H;have hl:=I.len;have Z:=I.inv.sends;exact Ni N d9 u.cM B t1 d9 t2 n
    ·cases b:c.fs with
     |nil=>exact absurd b A
     |cons f F =>
      obtain⟨q,M,k2⟩:=mZ (Q:=bQ) W g (fun _ _=>rfl) I.inv d b;exact⟨q,M,k2.mu,(Fz W g (fun _ _=>rfl) I d A M).1⟩) W.a8 (fun k j h=>by cases h) c C q E y R
  obtain⟨e1,U⟩:=NN W g (fun _ _=>rfl) O y (by rw[a];intro e d;cases d) (by rw[a];simp);refine⟨fV w c',c'.ev,c'.ev.foldl (dj w) sb,?_,.inr ⟨C,q,c',E,O,p2,rfl,rfl⟩,rfl,e1,U⟩;rw[p4];rfl
 ·refine⟨(w,⟨⟨0,0⟩,I9 w c fuel,0⟩),[],sb,?_,.inl ⟨C,rfl,rfl⟩,rfl,(fun e d=>by cases d),l9⟩;rw[d60 B c C];rfl
def fS(s:ByteArray)(l:List Cl):Bool:=l.any fun x=>decide (x.name=s)
def dG : Wd:=⟨[],[],0⟩
def gP(w:Wd)(s:ByteArray)(c n:Int):Wd×Int×Int :=
 if W9 s=false\/fS s w.a7=true then(dG,0,7)
 else if c<0\/(w.a7.length:Int)<=c then(dG,0,6)
 else if n<0\/6-l8 w c<n\/(c≠0/\c<4) then(dG,0,3)
 else if 12<=w.a7.length then(dG,0,5)
 else(⟨w.a7++[⟨s,c,n,[]⟩],w.heap,w.aC⟩,(w.a7.length:Int),0)
def GX(N:Nat)(s:ByteArray):∀(l:List Cl) (k:Nat),∃o,G5 N (fun b=>sn N b s) l k=some o/\(match o with|.ret r=>0<=r/\fS s l=true|.next ()=>fS s l=false)
 |[],k=>⟨_,rfl,rfl⟩
 |x::l,k=>by
  rw[G5,sn];simp only[A0];by_cases h:x.name=s
  ·exact⟨.ret (k:Int),by simp[h],by simp[fS,h]⟩
  ·obtain⟨o,d,a⟩:=GX N s l (k+1);refine⟨o,by simp[h,d],?_⟩;cases o with
   |ret r=>exact⟨a.1,by have:=a.2;unfold fS at this⊢;simp[this]⟩
   |next u=>show fS s (x::l)=false;have c:fS s l=false:=a;unfold fS at c⊢;simp only[List.any_cons,c,h,RC,Bool.or_false]
def has_eq(N:Nat)(s:ByteArray)(l:List Cl):P5 N l (fun b=>sn N b s)=some (fS s l):=by
 unfold P5 xp;obtain⟨o,e,c⟩:=GX N s l 0;rw[e];cases o with
 |ret r=>obtain⟨a,d⟩:=c;simp[a,d]
 |next u=>have a:fS s l=false:=c;simp[a]
def DC(N:Nat)(w:Wd)(s:ByteArray)(c n:Int)(k:1048578<=N)(d:E8 w)(l:∀x∈w.a7,0<=x.aG/\x.aG<=6):uz N w s c n=some (gP w s c n):=by
 unfold uz gP;have hS:=mY l d.1 c;rw[sW,has_eq,oN N w c k d.1,Jr N w d];have m:wr (6-l8 w c)=6-l8 w c:=q8 ino;simp only[A0,m];cases o:W9 s with
 |false=>simp[dG]
 |true =>
 cases p:fS s w.a7 with
 |true=>simp[dG]
 |false =>
 simp only[IT,R0,A0];by_cases f:c<0
 ·simp[f,dG]
 by_cases i:(w.a7.length:Int)<=c
 ·simp[f,i,dG]
 simp only[f,i,RC,R0,A0];by_cases g:n<0
 ·simp[g,dG]
 by_cases j:6-l8 w c<n
 ·simp[g,j,dG]
 simp only[g,j,RC,R0,A0];by_cases e:c=0
 ·subst e;by_cases b:(12:Int)<=(w.a7.length:Int)
  ·have a:12<=w.a7.length:=d9;simp[b,a,dG]
  ·have a:¬12<=w.a7.length:=d9;have:=d.1;simp only[b,a,RB,RC,R0,A0,IT];rw[p9 F5];simp
 ·by_cases h:c<4
  ·simp[e,h,dG]
  ·by_cases b:(12:Int)<=(w.a7.length:Int)
   ·have a:12<=w.a7.length:=d9;simp[e,h,b,a,dG]
   ·have a:¬12<=w.a7.length:=d9;have:=d.1;simp only[e,h,b,a,RC,R0,Qz,A0,QJ];rw[p9 F5];simp
def Bo(N:Nat)(s:ByteArray):∀(l:List Cl) (k:Nat),lv N s l k=some (if fS s l=true then .ret (dG,0,7) else .next ())
 |[],k=>by simp[lv,fS]
 |x::l,k=>by
  rw[lv,Bo N s l (k+1)];by_cases h:x.name=s
  ·simp[h,fS,dG]
  ·simp[h,fS]
def Jk(N:Nat)(w:Wd)(s:ByteArray)(c n:Int)(o:1048578<=N)(l:E8 w)(p:∀x∈w.a7,0<=x.aG/\x.aG<=6):uv N w s c n=some (gP w s c n):=by
 unfold uv gP;have hS:=mY p l.1 c;rw[jE,Bo,Y7 N w c o l.1];simp only[A0];cases r:W9 s with
 |false=>simp[dG]
 |true =>
 cases t:fS s w.a7 with
 |true=>simp[dG]
 |false =>
 simp only[IT,R0,A0,R1 (show¬false=true by decide)];by_cases i:c<0
 ·simp[i,dG]
 by_cases m:(w.a7.length:Int)<=c
 ·simp[i,m,dG]
 simp only[i,m,RC,R0,A0];by_cases j:n<0
 ·simp[j,dG]
 by_cases e:6<n
 ·have g:6-l8 w c<n:=d9;simp[j,e,g,dG]
 have q:wr (n+l8 w c)=n+l8 w c:=q8 ino;simp only[j,e,q,RC,R0,A0];by_cases g:6-l8 w c<n
 ·have b:6<n+l8 w c:=d9;simp[g,b,dG]
 have b:¬6<n+l8 w c:=d9;simp only[g,b,RC,R0,A0];have hl:=l.1;by_cases h:c=0
 ·subst h;by_cases f:(12:Int)<=(w.a7.length:Int)
  ·have a:12<=w.a7.length:=d9;simp[f,a,dG]
  ·have a:¬12<=w.a7.length:=d9;simp only[f,a,Int.lt_irrefl,RB,RC,R0,A0,IT];rw[p9 F5,Qz,p9 F5];simp
 ·have d:0<c:=d9;by_cases k:c<4
  ·simp[h,d,k,dG]
  ·by_cases f:(12:Int)<=(w.a7.length:Int)
   ·have a:12<=w.a7.length:=d9;simp[h,d,k,f,a,dG]
   ·have a:¬12<=w.a7.length:=d9;simp only[h,d,k,f,a,RB,RC,R0,Qz,A0,QJ];rw[p9 F5,Qz,p9 F5];simp
def cO(m:Me):List Me->List Me
 |[]=>[m]
 |x::r=>if x.name=m.name then m::r else if V8 m.name x.name=true then m::x::r else x::cO m r
def Ff(m:Me):∀(ms:List Me) (v:Nat),dN ms->v<=ms.length->(∀i x,i<v->ms[i]?=some x->V8 x.name m.name=true)->(∀i x,v<=i->ms[i]?=some x->V8 x.name m.name=false) ->
  cO m ms=if(V3 m.name ms).isSome=true then ms.set v m else ms.take v++m::ms.drop v
 |[],v,_,h,_,_=>by simp[cO,V3]
 |x::r,0,hr,_,_,h2=>by
  have a:=h2 0 x (NO _) rfl;by_cases e:x.name=m.name
  ·simp[cO,V3,e]
  ·have b:V8 m.name x.name=true:=by
    cases q:V8 m.name x.name with
    |true=>rfl
    |false=>exact absurd (d43 a q) e
   have g:(V3 m.name (x::r)).isSome=false:=by
    cases q:V3 m.name (x::r) with
    |none=>rfl
    |some j =>
     obtain⟨k,d,f⟩:=jQ q;cases j with
     |zero=>cases d;exact absurd f e
     |succ j =>
      have:=mf hr (i:=0) (j:=j+1) rfl d d9;rw[f,a] at this;cases this
   simp only[g];rw[cO,R1 e,RA b];rfl
 |x::r,v+1,hr,h,h1,h2=>by
  have a:=h1 0 x (Nat.succ_pos _) rfl;have e:x.name≠m.name:=Ew a;have ih:=Ff m r v (List.pairwise_cons.1 hr).2 (by simpa using h) (fun i y hi c=>h1 (i+1) y d9 (by simpa using c)) (fun i y hi c=>h2 (i+1) y d9 (by simpa using c));rw[cO,R1 e,R1 (by rw[AR a];decide),ih];have:(V3 m.name (x::r)).isSome=(V3 m.name r).isSome:=by
   rw[V3,R1 e];cases V3 m.name r<;>rfl
  rw[this];by_cases q:(V3 m.name r).isSome=true
  ·simp[q]
  ·simp[q]
def gw(w:Wd)(c:Int)(m:Me):Wd×Int :=
 if 0<=c then(match w.a7[c.toNat]? with
  |none=>(⟨[],[],0⟩,6)
  |some x=>if(V3 m.name x.aB).isSome=false/\8<=x.aB.length then(⟨[],[],0⟩,5)
   else(⟨w.a7.set c.toNat ⟨x.name,x.aQ,x.aG,cO m x.aB⟩,w.heap,wr (w.aC+1)⟩,0)) else(⟨[],[],0⟩,6)
def CV(N:Nat)(w:Wd)(c:Int)(m:Me)(H:1048578<=N)(n:E8 w)(s:dD w)(E:m.code.length<=1048576):vY N w c m=some (gw w c m):=by
 unfold vY gw;by_cases k:c<0
 ·have:¬0<=c:=d9;simp[k,this]
 have b:0<=c:=d9;by_cases q:(w.a7.length:Int)<=c
 ·have:w.a7[c.toNat]?=none:=Qb d9;simp[k,b,q,this]
 obtain⟨x,o,p⟩:=V7 (l:=w.a7) b d9;have a:=QM o;obtain⟨v,t,u,j,z,A⟩:=E6 N x.aB m.name d9 (n.2.2.1 x a).1 (s x a);have h:=Ff m x.aB v (s x a) j z A;have D:c.toNat<w.a7.length:=d9;simp only[k,b,q,o,p,t,RC,R0,A0,if_true,Jl N w n,vO N m E];cases hi:(V3 m.name x.aB).isSome with
 |true =>
  obtain⟨i,e⟩:=Option.isSome_iff_exists.1 hi;obtain⟨y,G,_⟩:=jQ e;have F:v=i:=by have:=u i e;omega
  subst F;rw[hi] at h;simp only[IT,R0,A0,o,q9,G];simp[h]
 |false =>
  have hl:=(n.2.2.1 x a).1;rw[hi] at h;by_cases r:8<=x.aB.length
  ·have d:(8:Int)<=(x.aB.length:Int):=d9;simp[r,d]
  ·have d:¬(8:Int)<=(x.aB.length:Int):=d9;have f:sB N x.aB (v:Int) [(⟨IS,(0:Int),(0:Int),(0:Int),[]⟩:Me)]=some (x.aB.take v++(⟨IS,0,0,0,[]⟩:Me)::x.aB.drop v):=by
    unfold sB;rw[p9 d9];have:(v:Int)<=(x.aB.length:Int):=d9;simp[this]
   simp only[f,r,d,QJ,Qz,R0,RC,A0,and_false,if_false];have g:(w.a7.set c.toNat (⟨x.name,x.aQ,x.aG,x.aB.take v++(⟨IS,0,0,0,[]⟩:Me)::x.aB.drop v⟩:Cl))[c.toNat]?=some (⟨x.name,x.aQ,x.aG,x.aB.take v++(⟨IS,0,0,0,[]⟩:Me)::x.aB.drop v⟩:Cl):=by
    rw[List.getElem?_set_self D]
   have B:j3 (x.aB.take v++(⟨IS,0,0,0,[]⟩:Me)::x.aB.drop v) (v:Int)=some (⟨IS,0,0,0,[]⟩:Me):=by
    rw[q9,QY F5];simp[Nat.min_eq_left j]
   have C:(x.aB.take v++(⟨IS,0,0,0,[]⟩:Me)::x.aB.drop v).set v m=x.aB.take v++m::x.aB.drop v:=by
    rw[List.set_append_right _ _ F5];simp[Nat.min_eq_left j]
   simp only[g,B,A0,List.set_set,Qc,C,h,Qe,if_false]
def xl(N:Nat)(m:Me):∀(ms:List Me) (k:Nat) (a:List Me) (b:Bool),(∀x∈ms,x.name≠m.name)->a.length+ms.length<=2097152->R5 N m ms k a true b=some (a++ms,true,b)
 |[],k,a,b,_,_=>by simp[R5]
 |x::r,k,a,b,h,hl=>by
  have e:=h x l9;rw[R5];simp only[e,RC,R0,IT,A0];rw[p9 (by simp at hl⊢;omega)];simp only[Qz,A0];rw[xl N m r (k+1) _ b (fun y c=>h y (by simp[c])) (by simp at hl⊢;omega)];simp
def CN{m x:Me}{r:List Me}(e:x.name≠m.name):(V3 m.name (x::r)).isSome=(V3 m.name r).isSome:=by
 rw[V3,R1 e];cases V3 m.name r<;>rfl
def Ow{s:ByteArray}{ms:List Me}(h:∀x∈ms,x.name≠s):V3 s ms=none:=by
 cases q:V3 s ms with
 |none=>rfl
 |some i=>obtain⟨m,a,b⟩:=jQ q;exact absurd b (h m (QM a))
def C2(N:Nat)(m:Me):∀(ms:List Me) (k:Nat) (a:List Me),dN ms->a.length+ms.length<=1048577 ->
  ∃l d,R5 N m ms k a false false=some (l,d,(V3 m.name ms).isSome)/\l.length<=1048578/\(if d=true then l else l++[m])=a++cO m ms
 |[],k,a,_,hl=>⟨a,false,by simp[R5,V3],by simp at hl;omega,by simp[cO]⟩
 |x::r,k,a,hr,hl=>by
  rw[R5];obtain⟨f,g⟩:=List.pairwise_cons.1 hr;by_cases e:x.name=m.name
  ·have b:∀y∈r,y.name≠m.name:=fun y h=>by rw[<-e];exact fun q=>Ew (f y h) q.symm
   simp only[e,RB,Qz];rw[p9 (by simp at hl⊢;omega)];simp only[Qz,A0];rw[xl N m r (k+1) _ true b (by simp at hl⊢;omega)];exact⟨a++[m]++r,true,by simp[V3,e],by simp at hl⊢;omega,by simp[cO,e]⟩
  ·simp only[e,RC,R0,QJ,Qz,A0,Bool.or_false];cases i:V8 x.name m.name with
   |false =>
    have c:V8 m.name x.name=true:=by
     cases q:V8 m.name x.name with
     |true=>rfl
     |false=>exact absurd (d43 i q) e
    have b:∀y∈r,y.name≠m.name:=fun y h q=>by
     have:=lt_trans c (f y h);rw[q,jU] at this;cases this
    simp only[QJ,Qz];rw[p9 (by simp at hl⊢;omega)];simp only[Qz,A0];rw[p9 (by simp at hl⊢;omega)];simp only[Qz,A0];rw[xl N m r (k+1) _ false b (by simp at hl⊢;omega)];exact⟨a++[m]++[x]++r,true,by rw[CN e,Ow b];rfl,by simp at hl⊢;omega,by simp[cO,e,c]⟩
   |true =>
    simp only[IT,R0,A0];rw[p9 (by simp at hl⊢;omega)];simp only[Qz,A0];obtain⟨l,d,j,n,o⟩:=C2 N m r (k+1) (a++[x]) g (by simp at hl⊢;omega);exact⟨l,d,by rw[j,CN e],n,by rw[o,cO,R1 e,R1 (by rw[AR i];decide)];simp⟩
def HW(N:Nat)(w:Wd)(c:Int)(m:Me)(n:E8 w)(q:dD w):vU N w c m=some (gw w c m):=by
 unfold vU gw;by_cases g:c<0
 ·have:¬0<=c:=d9;simp[g,this]
 have b:0<=c:=d9;by_cases j:(w.a7.length:Int)<=c
 ·have:w.a7[c.toNat]?=none:=Qb d9;simp[g,b,j,this]
 obtain⟨x,o,f⟩:=V7 (l:=w.a7) b d9;have a:=QM o;obtain⟨l,d,p,s,i⟩:=C2 N m x.aB 0 [] (q x a) (by have:=(n.2.2.1 x a).1;simp;omega);simp only[g,b,j,o,f,p,RC,R0,A0,if_true];have r:=n.1;have h:(bif !d then(bif AT ((l.length+[m].length)*64) 140737488355328 then some (l++[m]) else none) else some l:Option (List Me))=some (cO m x.aB):=by
  rw[p9 F5];cases d with
  |true=>simpa using i
  |false=>simpa using i
 rw[h];simp only[A0,Qd,f];rw[p9 F5];cases hi:(V3 m.name x.aB).isSome with
 |true=>simp
 |false =>
  by_cases k:8<=x.aB.length
  ·have e:(8:Int)<=(x.aB.length:Int):=d9;simp[k,e]
  ·have e:¬(8:Int)<=(x.aB.length:Int):=d9;simp[k,e]
end Go.Proofs.YtibjcppjfkamhaaGreatDoor
