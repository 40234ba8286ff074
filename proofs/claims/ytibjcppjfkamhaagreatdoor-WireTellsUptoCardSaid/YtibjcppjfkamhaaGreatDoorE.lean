import Derived.Test.YtibjcppjfkamhaaGreatDoorC
set_option linter.unusedVariables false
set_option linter.defProp false
set_option linter.unusedSimpArgs false
namespace Go.Proofs.YtibjcppjfkamhaaGreatDoor
open Go.RowKit
open _root_.Bool renaming and_eq_true->A7,not_true->AI,not_false->AN
open _root_.ByteArray renaming empty->AE
open _root_.List renaming length_append->A6,getElem?_eq_getElem->A8,getElem?_eq_some_iff->AF,replicate->AG,all_eq_true->AH,mem_cons->AJ,append_assoc->AK,mem_map->AL,mem_of_getElem?->AO,length_cons->AP,map_cons->AQ,length_map->AR,getElem?_set->AS,mem_append->AT,getElem?_eq_none->AW,eq_nil_of_length_eq_zero->AX,length_singleton->Ad
open _root_.Nat renaming le_refl->AA,ble->AD
open _root_.Option renaming bind_some->A0,map_eq_some_iff->AZ,map_some->Ab
open _root_.Or renaming inl->A9
def jb (a b:V):cO (eV a) (eV b)=decide (a=b):=xt a b
def j2 (a b:St):cO (rr a) (rr b)=decide (a=b):=uP a b
def j0 (a b:Ln):cO (rq a) (rq b)=decide (a=b):=uJ a b
def jQ (a b:Ins):cO (dF a) (dF b)=decide (a=b):=xk a b
def jL {b:Type} {l:List b} {k n:Nat} (h:n+1=(l.drop k).length):∃y,l[k]?=some y/\l.drop k=y::l.drop (k+1)/\n=(l.drop (k+1)).length:=by
 rw[List.length_drop] at h;have a:k<l.length:=d9;refine⟨l[k],A8 a,List.drop_eq_getElem_cons a,by rw[List.length_drop];omega⟩
def jT {a:Type} {l:List a} {k:Nat} (h:0=(l.drop k).length):l.drop k=[]:=AX h.symm
theorem qT (N:Nat) (b:List Ins):∀(l:List Ins) (k:Nat),l.length=(b.drop k).length->N7 N b l k=some (if l=b.drop k then .next () else .ret false)
 |[],k,h=>by rw[jT h];rfl
 |x::l,k,h=>by
  obtain⟨y,c,hd,a⟩:=jL h;rw[hd,N7];simp only[A0,Option.bind_none,Ae,Af,Bool.cond_decide,jb,j2,j0,jQ,AI,AN,H5,c,qT N b l (k+1) a];by_cases e:x=y<;>simp[e]
def sU (N:Nat) (a b:List Ins):kD N a b=some (decide (a=b)):=by
 unfold kD;by_cases h:a.length=b.length
 ·rw[qT N b a 0 (by simpa using h)];by_cases e:a=b<;>simp[h,e]
 ·have:a≠b:=fun e=>h (by rw[e]);have c:¬((a.length:Int)=b.length):=d9;simp[this,c]
theorem qQ (N:Nat) (b:Wd) (i:Nat) (o:Ob) (a:b.heap[i]?=some o):∀(l:List V) (k:Nat),l.length=(o.aC.drop k).length->L8 N b i l k=some (if l=o.aC.drop k then .next () else .ret false)
 |[],k,h=>by rw[jT h];rfl
 |x::l,k,h=>by
  obtain⟨y,d,hd,c⟩:=jL h;rw[hd,L8];simp only[A0,Option.bind_none,Ae,Af,Bool.cond_decide,jb,j2,j0,jQ,AI,AN,H5,d,a,qQ N b i o a l (k+1) c];by_cases e:x=y<;>simp[e]
theorem qO (N:Nat) (b:Wd):∀(l:List Ob) (k:Nat),l.length=(b.heap.drop k).length->L9 N b l k=some (if l=b.heap.drop k then .next () else .ret false)
 |[],k,h=>by rw[jT h];rfl
 |x::l,k,h=>by
  obtain⟨y,i,hd,m⟩:=jL h;rw[hd,L9];simp only[A0,Option.bind_none,Ae,Af,Bool.cond_decide,jb,j2,j0,jQ,AI,AN,H5,i,qO N b l (k+1) m];obtain⟨n,a⟩:=x;obtain⟨j,c⟩:=y;by_cases e1:n=j
  ·by_cases f:a.length=c.length
   ·have:=qQ N b k ⟨j,c⟩ i a 0 (by simpa using f);simp only[List.drop_zero] at this;by_cases d:a=c
    ·subst d;simp[e1,this]
    ·simp[e1,f,d,this]
   ·have d:a≠c:=fun e=>f (by rw[e]);have g:¬((a.length:Int)=c.length):=d9;simp[e1,g,d]
  ·simp[e1]
theorem qM (N:Nat) (c:Cl):∀(l:List Me) (k:Nat),l.length=(c.aB.drop k).length->M0 N c l k=some (if l=c.aB.drop k then .next () else .ret false)
 |[],k,h=>by rw[jT h];rfl
 |x::l,k,h=>by
  obtain⟨y,g,hd,f⟩:=jL h;rw[hd,M0];simp only[A0,Option.bind_none,Ae,Af,Bool.cond_decide,jb,j2,j0,jQ,AI,AN,H5,g,qM N c l (k+1) f,sU];obtain⟨i,j,m,n,o⟩:=x;obtain⟨p,q,r,s,t⟩:=y;by_cases e1:i=p
  ·by_cases a:j=q
   ·by_cases b:m=r
    ·by_cases d:n=s
     ·by_cases e:o=t<;>simp[e1,a,b,d,e]
     ·simp[e1,a,b,d]
    ·simp[e1,a,b]
   ·simp[e1,a]
  ·simp[e1]
theorem qL (N:Nat) (b:Wd):∀(l:List Cl) (k:Nat),l.length=(b.a7.drop k).length->M3 N b l k=some (if l=b.a7.drop k then .next () else .ret false)
 |[],k,h=>by rw[jT h];rfl
 |x::l,k,h=>by
  obtain⟨y,q,hd,p⟩:=jL h;rw[hd,M3];simp only[A0,Option.bind_none,Ae,Af,Bool.cond_decide,jb,j2,j0,jQ,AI,AN,H5,q,qL N b l (k+1) p];obtain⟨r,s,t,c⟩:=x;obtain⟨m,n,o,d⟩:=y;by_cases e1:r=m
  ·by_cases a:s=n
   ·by_cases f:t=o
    ·by_cases i:c.length=d.length
     ·have:=qM N ⟨m,n,o,d⟩ c 0 (by simpa using i);simp only[List.drop_zero] at this;by_cases g:c=d
      ·subst g;simp[e1,a,f,this]
      ·simp[e1,a,f,i,g,this]
     ·have g:c≠d:=fun e=>i (by rw[e]);have j:¬((c.length:Int)=d.length):=d9;simp[e1,a,f,j,g]
    ·simp[e1,a,f]
   ·simp[e1,a]
  ·simp[e1]
def mN (N:Nat) (a b:Wd):kA N a b=some (decide (a=b)):=by
 unfold kA;obtain⟨g,h,q⟩:=a;obtain⟨c,d,m⟩:=b;by_cases f:q=m
 ·by_cases j:g.length=c.length
  ·by_cases k:h.length=d.length
   ·have l:=qL N ⟨c,d,m⟩ g 0 (by simpa using j);have p:=qO N ⟨c,d,m⟩ h 0 (by simpa using k);simp only[List.drop_zero] at l p;by_cases e1:g=c
    ·subst e1;by_cases i:h=d
     ·subst i;simp[f,l,p]
     ·simp[i,f,k,l,p]
    ·simp[e1,f,j,k,l]
   ·have i:h≠d:=fun e=>k (by rw[e]);have o:¬((h.length:Int)=d.length):=d9;simp[i,f,j,o]
  ·have e1:g≠c:=fun e=>j (by rw[e]);have n:¬((g.length:Int)=c.length):=d9;simp[e1,f,n]
 ·simp[f]
def jM {a b:Nat} (h:a<=b):AD a b=true:=by rw[Nat.ble_eq];exact h
def nL {a:Type} {l:List a} {i:Int} (h:¬(i<l.length)):l[i.toNat]?=none:=AW d9
def jU {a:Type} {l:List a} {i:Int} (h:0<=i):u6 l i=l[i.toNat]?:=by
 unfold u6;rw[Al h];rfl
def kv {b:Type} {l:List b} {i:Int} (h:0<=i) (c:i<l.length):∃x,l[i.toNat]?=some x/\u6 l i=some x:=by
 have a:i.toNat<l.length:=d9;exact⟨l[i.toNat],A8 a,by rw[jU h,A8 a]⟩
def fj (v:V) (n:Int):Int :=
 if v.k=0\/v.k=1\/v.k=2 then(if v.n=0 then 0 else 2)
 else if v.k=3 then(if v.n < -1073741824\/1073741824<v.n then 3 else 0)
 else if v.k=4 then(if v.n<0\/n<=v.n then 6 else 0) else 1
def tO (N:Nat) (v:V) (n:Int):kQ N v n=some (fj v n):=by
 unfold kQ fj;by_cases b:v.k=0
 ·by_cases h:v.n=0<;>simp[b,h]
 by_cases c:v.k=1
 ·by_cases h:v.n=0<;>simp[c,h]
 by_cases d:v.k=2
 ·by_cases h:v.n=0<;>simp[d,h]
 by_cases e:v.k=3
 ·by_cases h:v.n < -1073741824<;>by_cases a:1073741824<v.n<;>simp[e,h,a]
 by_cases f:v.k=4
 ·by_cases h:v.n<0<;>by_cases a:n<=v.n<;>simp[f,h,a]
 simp[b,c,d,e,f]
def sy (N:Nat) (v:V) (n:Int):kL N v n=some (fj v n):=by
 unfold kL fj;by_cases b:v.k=0
 ·by_cases h:v.n=0<;>simp[b,h]
 by_cases c:v.k=1
 ·by_cases h:v.n=0<;>simp[c,h]
 by_cases d:v.k=2
 ·by_cases h:v.n=0<;>simp[d,h]
 by_cases e:v.k=3
 ·by_cases h:v.n < -1073741824<;>by_cases a:1073741824<v.n<;>simp[e,h,a]
 by_cases f:v.k=4
 ·by_cases h:v.n<0<;>by_cases a:n<=v.n<;>simp[f,h,a]
 by_cases g:v.k<0
 ·simp[b,c,d,e,f,g]
 ·have i:4<v.k:=d9;simp[b,c,d,e,f,g,i]
theorem rL : ∀a:List UInt8,Op.bytesLess a a=false
 |[]=>rfl
 |a::x=>by simp[Op.bytesLess,rL x]
theorem pM : ∀a b c:List UInt8,Op.bytesLess a b=true->Op.bytesLess b c=true->Op.bytesLess a c=true
 |_,[],_,h,_=>by simp[Op.bytesLess] at h
 |_,_::_,[],_,h=>by simp[Op.bytesLess] at h
 |[],_::_,_::_,_,_=>rfl
 |a::x,b::y,c::z,h,d=>by
  simp only[Op.bytesLess,Bool.or_eq_true,A7,Am,beq_iff_eq] at h d⊢;rcases h with h|⟨rfl,h⟩
  ·rcases d with d|⟨rfl,_⟩
   ·exact A9 (UInt8.lt_trans h d)
   ·exact A9 h
  ·rcases d with d|⟨rfl,d⟩
   ·exact A9 d
   ·exact Or.inr ⟨rfl,pM x y z h d⟩
def ql (b:ByteArray):b.toList=b.data.toList:=by
 have:∀(n i:Nat) (r:List UInt8),n=b.size-i->ByteArray.toList.loop b i r=r.reverse++b.data.toList.drop i:=by
  intro n
  induction n with
  |zero =>
   intro i r h;unfold ByteArray.toList.loop;rw[Ag d9];have:b.data.toList.length<=i:=by simpa using(show b.size<=i by omega)
   rw[List.drop_eq_nil_of_le this];simp
  |succ n ih =>
   intro i r h;have a:i<b.size:=d9;have c:i<b.data.toList.length:=by simpa using a
   unfold ByteArray.toList.loop;rw[Ah a,ih (i+1) _ d9,List.drop_eq_getElem_cons c];have e:b.get! i=b.data.toList[i]:=by
    show b.data[i]! = _;rw[getElem!_pos b.data i a,Array.getElem_toList]
   simp[e]
 have:=this b.size 0 [] d9;simpa[ByteArray.toList] using this
def toList_inj {a b:ByteArray} (h:a.toList=b.toList):a=b:=by
 rw[ql,ql] at h;cases a;cases b;congr;exact Array.toList_inj.1 h
def hA (a:ByteArray):V7 a a=false:=rL _
def lt_trans {a b c:ByteArray} (h:V7 a b=true) (d:V7 b c=true):V7 a c=true:=pM _ _ _ h d
def fF (c:List Me):Prop:=c.Pairwise fun a b=>V7 a.name b.name=true
def bP (s:ByteArray):List Me->Option Nat
 |[]=>none
 |m::r=>if m.name=s then some 0 else(bP s r).map (·+1)
theorem iC {s:ByteArray}:∀{b:List Me} {i:Nat},bP s b=some i->∃m,b[i]?=some m/\m.name=s
 |m::r,i,h=>by
  unfold bP at h;by_cases e:m.name=s
  ·rw[Ah e] at h;cases h;exact⟨m,rfl,e⟩
  ·rw[Ag e] at h;cases a:bP s r with
   |none=>rw[a] at h;cases h
   |some j=>rw[a] at h;cases h;obtain⟨f,c,d⟩:=iC a;exact⟨f,c,d⟩
theorem pZ {s:ByteArray}:∀{c:List Me},bP s c=none->∀m∈c,m.name≠s
 |[],_=>fun m d=>by cases d
 |m::r,h=>by
  unfold bP at h;by_cases e:m.name=s
  ·rw[Ah e] at h;cases h
  ·rw[Ag e] at h;cases b:bP s r with
   |some j=>rw[b] at h;cases h
   |none =>
    intro x a;rcases AJ.1 a with rfl|a
    ·exact e
    ·exact pZ b x a
def iD {f:List Me} (h:fF f) {i j:Nat} {a b:Me} (g:f[i]?=some a) (k:f[j]?=some b) (d:i<j):V7 a.name b.name=true:=by
 obtain⟨c,rfl⟩:=AF.1 g;obtain⟨e,rfl⟩:=AF.1 k;exact List.pairwise_iff_getElem.1 h i j c e d
def wC {b:List Me} (h:fF b) {i:Nat} {m:Me} (c:b[i]?=some m):bP m.name b=some i:=by
 cases f:bP m.name b with
 |none=>exact absurd rfl (pZ f m (AO c))
 |some j =>
  obtain⟨g,d,e⟩:=iC f;rcases Nat.lt_trichotomy i j with a|a|a
  ·have:=iD h c d a;rw[e,hA] at this;cases this
  ·rw[a]
  ·have:=iD h d c a;rw[e,hA] at this;cases this
def ov (N:Nat) (m:Me) (s:ByteArray):Z4 N m s=some (if V7 m.name s=true then -1 else if m.name=s then 0 else 1):=by
 unfold Z4 mD cmp_isNaN_string;cases h:V7 m.name s
 ·by_cases e:m.name=s<;>simp[e]
 ·simp
theorem mw (N:Nat) (c:List Me) (s:ByteArray) (u:c.length<=1048576) (o:fF c):∀(n:Nat) (a b:Nat),a<=b->b<=c.length->b-a<n ->
  (∀i m,i<a->c[i]?=some m->V7 m.name s=true)->(∀i m,b<=i->c[i]?=some m->V7 m.name s=false) ->
  ∃v:Nat,l5 N c s (fun p q=>Z4 N p q) n (a:Int) (b:Int)=some (v:Int)/\v<=c.length /\
   (∀i m,i<v->c[i]?=some m->V7 m.name s=true)/\(∀i m,v<=i->c[i]?=some m->V7 m.name s=false)
 |0,a,b,_,_,h,_,_=>d9
 |n+1,a,b,w,t,G,r,g=>by
  rw[l5];by_cases z:a<b
  ·have d:(a:Int)<(b:Int):=d9;have D:wr ((a:Int)+(b:Int))=((a+b:Nat):Int):=by rw[K6 ino];omega
   have E:((a+b:Nat):Int) / 2=(((a+b) / 2:Nat):Int):=d9;have w3:decide (D8 ((((a+b) / 2:Nat):Int)))=true:=Al ino;have F:wr ((((a+b) / 2:Nat):Int)+1)=(((a+b) / 2+1:Nat):Int):=by rw[K6 ino];omega
   have j:(a+b) / 2<c.length:=d9;obtain⟨x,k⟩:∃x,c[(a+b) / 2]?=some x:=⟨_,A8 j⟩;have w5:(0:Int)<=((a+b:Nat):Int):=d9;have A:=ov N x s;simp only[D,E,w3,F,w5,d,H5,k,A,Ai,Ae,A0];cases l:V7 x.name s with
   |true =>
    simp only[if_true,show((-1:Int)<0)=True by simp,Ai,Ae,A0];refine mw N c s u o n _ b d9 t d9 (fun i m y f=>?_) g;rcases Nat.lt_or_ge i ((a+b) / 2) with h|h
    ·exact lt_trans (iD o f k h) l
    ·have e:i=(a+b) / 2:=d9;subst e;rw[k] at f;cases f;exact l
   |false =>
    have hd:∀i m,(a+b) / 2<=i->c[i]?=some m->V7 m.name s=false:=by
     intro i m y f;rcases Nat.lt_or_ge ((a+b) / 2) i with h|h
     ·cases B:V7 m.name s with
      |false=>rfl
      |true=>have:=lt_trans (iD o k f h) B;rw[l] at this;cases this
     ·have e:i=(a+b) / 2:=d9;subst e;rw[k] at f;cases f;exact l
    have C:decide ((if false=true then(-1:Int) else if x.name=s then 0 else 1)<0)=false:=by
     by_cases e:x.name=s<;>simp[e]
    rw[C];simp only[Af,A0];exact mw N c s u o n a _ d9 d9 d9 r hd
  ·have d:¬(a:Int)<(b:Int):=d9;simp only[d,Aj,Af];have e:a=b:=d9;subst e;exact⟨a,rfl,t,r,g⟩
def se (N:Nat) (b:List Me) (s:ByteArray) (B:1048577<=N) (y:b.length<=1048576) (o:fF b) :
  ∃v:Nat,o9 N b s (fun g j=>Z4 N g j)=some ((v:Int),(bP s b).isSome)/\(∀i:Nat,bP s b=some i->(v:Int)=i)/\v<=b.length /\
   (∀i m,i<v->b[i]?=some m->V7 m.name s=true)/\(∀i m,v<=i->b[i]?=some m->V7 m.name s=false):=by
 obtain⟨v,A,q,n,p⟩:=mw N b s y o N 0 b.length d9 d9 d9 (fun i m h=>absurd h d9) (fun i m h z=>by
  have:=(AF.1 z).1;omega)
 refine⟨v,?_,?_,q,n,p⟩
 ·unfold o9;have t:l5 N b s (fun g j=>Z4 N g j) N (0:Int) (b.length:Int)=some (v:Int):=A;rw[t];simp only[A0];by_cases r:v<b.length
  ·have d:(v:Int)<(b.length:Int):=d9;obtain⟨x,f⟩:∃x,b[v]?=some x:=⟨_,A8 r⟩;have u:=p v x (AA _) f;simp only[d,Ai,Ae,H5,f,A0,ov,u];by_cases e:x.name=s
   ·have:=wC o f;rw[e] at this;simp[e,this]
   ·cases k:bP s b with
    |none=>simp[e]
    |some i =>
     obtain⟨l,a,c⟩:=iC k;rcases Nat.lt_trichotomy i v with h|h|h
     ·have:=n i l h a;rw[c,hA] at this;cases this
     ·subst h;rw[f] at a;cases a;exact absurd c e
     ·have:=iD o f a h;rw[c] at this;rw[u] at this;cases this
  ·have d:¬(v:Int)<(b.length:Int):=d9;simp only[d,Aj,Af,A0];cases k:bP s b with
   |none=>rfl
   |some i =>
    obtain⟨l,a,c⟩:=iC k;have:=(AF.1 a).1;have:=n i l d9 a;rw[c,hA] at this;cases this
 ·intro i k;obtain⟨l,a,c⟩:=iC k;have w:=(AF.1 a).1;rcases Nat.lt_trichotomy i v with h|h|h
  ·have:=n i l h a;rw[c,hA] at this;cases this
  ·rw[h]
  ·obtain⟨x,f⟩:∃x,b[v]?=some x:=⟨b[v]' d9,A8 d9⟩;have:=iD o f a h;rw[c] at this;rw[p v x (AA _) f] at this;cases this
def dG (N:Nat) (a:List Me) (s:ByteArray) (f:1048577<=N) (g:a.length<=1048576) (h:fF a) :
  ∃v:Int,o9 N a s (fun b c=>Z4 N b c)=some (v,(bP s a).isSome)/\∀i:Nat,bP s a=some i->v=i:=by
 obtain⟨v,d,e,_⟩:=se N a s f g h;exact⟨_,d,e⟩
def cn (w:Wd) (s:ByteArray):Nat->Int->Option (Int×Int)
 |0,_=>none
 |n+1,c=>if 0<=c then(match w.a7[c.toNat]? with
  |some x=>(match bP s x.aB with|some i=>some (c,(i:Int))|none=>cn w s n x.aH)
  |none=>none) else none
def lQ (w:Wd) (s:ByteArray) (c:Int):Int×Int:=(cn w s (w.a7.length+1) c).getD (-1,-1)
def mn (w:Wd):Prop:=∀x∈w.a7,fF x.aB
def eC (w:Wd):Prop:=w.a7.length<=1048576/\w.heap.length<=1048576/\(∀x∈w.a7,x.aB.length<=1048576/\∀m∈x.aB,m.code.length<=1048576)/\∀o∈w.heap,o.aC.length<=1048576
def rp {a:Type} (o:Option (Int×Int)) (s:a):F8 (Int×Int) a:=match o with|some p=>.ret p|none=>.next s
theorem pE (N:Nat) (w:Wd) (s:ByteArray) (m:1048577<=N) (o:mn w) (j:eC w):∀(n:Nat) (k:Nat) (c:Int),k<=w.a7.length+1->w.a7.length+1-k<n ->
  Y3 N w s n c (k:Int)=some (rp (cn w s (w.a7.length+1-k) c) ())
 |0,k,c,_,h=>d9
 |n+1,k,c,y,z=>by
  rw[Y3];by_cases a:0<=c
  ·by_cases d:c<w.a7.length
   ·obtain⟨x,p,f⟩:=kv a d;by_cases u:k<=w.a7.length
    ·have b:(k:Int)<=(w.a7.length:Int):=d9;have g:=AO p;obtain⟨v,r,l⟩:=dG N x.aB s m (j.2.2.1 x g).1 (o x g);have e:w.a7.length+1-k=(w.a7.length+1-(k+1))+1:=d9;have t:wr ((k:Int)+1)=((k+1:Nat):Int):=by rw[K6 (by have:=j.1;unfold D8;omega)];omega
     rw[e,cn];simp only[a,d,b,Ai,Ae,A0,f,r,p,if_true,t];cases q:bP s x.aB with
     |some i=>have:=l i q;subst this;rfl
     |none =>
      simp only[Option.isSome_none,Af];exact pE N w s m o j n (k+1) x.aH d9 d9
    ·have b:¬(k:Int)<=(w.a7.length:Int):=d9;have e:w.a7.length+1-k=0:=d9;simp only[a,d,b,Ai,Aj,Ae,Af,A0,e];rfl
   ·have:cn w s (w.a7.length+1-k) c=none:=by
     cases w.a7.length+1-k with
     |zero=>rfl
     |succ n=>rw[cn,Ah a,nL d]
    simp only[a,d,Ai,Aj,Ae,Af,A0,this];rfl
  ·have:cn w s (w.a7.length+1-k) c=none:=by
    cases w.a7.length+1-k with
    |zero=>rfl
    |succ n=>rw[cn,Ag a]
   simp only[a,Aj,Af,A0,this];rfl
def tw (N:Nat) (w:Wd) (c:Int) (s:ByteArray) (e:1048578<=N) (d:mn w) (a:eC w):kY N w c s=some (lQ w s c):=by
 unfold kY lQ;have h:=pE N w s d9 d a N 0 c d9 (by have:=a.1;omega);have b:Y3 N w s N c (0:Int)=some (rp (cn w s (w.a7.length+1) c) ()):=h;rw[b];cases cn w s (w.a7.length+1) c<;>rfl
def bw (w:Wd):Nat->Int->List Int
 |0,_=>[]
 |n+1,c=>if 0<=c then(match w.a7[c.toNat]? with|some x=>c::bw w n x.aH|none=>[]) else[]
theorem pI (w:Wd):∀(n:Nat) (c:Int),(bw w n c).length<=n
 |0,_=>AA _
 |n+1,c=>by
  rw[bw];split
  ·split
   ·have:=pI w n;simp only[AP];exact Nat.succ_le_succ (this _)
   ·simp
  ·simp
theorem pt (w:Wd):∀(n:Nat) (c:Int),∀k∈bw w n c,0<=k/\k<w.a7.length
 |0,_,k,h=>by cases h
 |n+1,c,k,h=>by
  rw[bw] at h;split at h
  ·split at h
   ·rename_i a _ x b;rcases AJ.1 h with rfl|h
    ·exact⟨a,by have:=(AF.1 b).1;omega⟩
    ·exact pt w n _ k h
   ·cases h
  ·cases h
theorem pF (N:Nat) (w:Wd) (j:w.a7.length<=1048576):∀(n:Nat) (c:Int) (a:List Int),a.length<=w.a7.length+1->w.a7.length+1-a.length<n ->
  hO N w n c a=some (a++bw w (w.a7.length+1-a.length) c)
 |0,c,a,_,h=>d9
 |n+1,c,a,m,o=>by
  rw[hO];by_cases b:0<=c
  ·by_cases f:c<w.a7.length
   ·obtain⟨x,k,g⟩:=kv b f;by_cases l:a.length<=w.a7.length
    ·have d:(a.length:Int)<=(w.a7.length:Int):=d9;have e:w.a7.length+1-a.length=(w.a7.length+1-(a++[c]).length)+1:=bG;have i:AD ((a.length+[c].length)*8) 140737488355328=true:=jM bG;rw[e,bw];simp only[b,f,d,Ai,Ae,A0,g,k,if_true,i];rw[pF N w j n x.aH (a++[c]) bG bG];simp
    ·have d:¬(a.length:Int)<=(w.a7.length:Int):=d9;have e:w.a7.length+1-a.length=0:=d9;simp[b,f,d,e,bw]
   ·have:bw w (w.a7.length+1-a.length) c=[]:=by
     cases w.a7.length+1-a.length with
     |zero=>rfl
     |succ n=>rw[bw,Ah b,nL f]
    simp[b,f,this]
  ·have:bw w (w.a7.length+1-a.length) c=[]:=by
    cases w.a7.length+1-a.length with
    |zero=>rfl
    |succ n=>rw[bw,Ag b]
   simp[b,this]
def ta (N:Nat) (w:Wd) (c:Int) (b:1048578<=N) (a:w.a7.length<=1048576):ka N w c=some (bw w (w.a7.length+1) c):=by
 unfold ka;rw[pF N w a N c [] o5 bG];rfl
def F3 (w:Wd) (c:Int):Int:=(bw w (w.a7.length+1) c).foldl (fun n k=>match w.a7[k.toNat]? with|some x=>wr (n+x.aC)|none=>n) 0
theorem p7 (N:Nat) (w:Wd) (L:List Int) (d:∀k∈L,0<=k/\k<w.a7.length):∀(l:List Int) (k:Nat) (n:Int),l=L.drop k ->
  R9 N w L l k n=some (l.foldl (fun n k=>match w.a7[k.toNat]? with|some x=>wr (n+x.aC)|none=>n) n)
 |[],k,n,_=>rfl
 |c::l,k,n,h=>by
  obtain⟨b,g,_⟩:=e7 h;obtain⟨e,f⟩:=d c (AO b);obtain⟨x,i,a⟩:=kv e f;rw[R9];simp only[H5,b,A0,a,List.foldl_cons,i];exact p7 N w L d l (k+1) _ g
def mH (N:Nat) (w:Wd) (c:Int) (a:1048578<=N) (b:w.a7.length<=1048576):gM N w c=some (F3 w c):=by
 unfold gM F3;rw[ta N w c a b];simp only[A0];rw[p7 N w _ (pt w _ c) (bw w (w.a7.length+1) c) 0 0 rfl];rfl

def cc (u:UInt8):Bool:=!decide ((u.toNat:Int)<33) && !decide (126<(u.toNat:Int))
def V9 (s:ByteArray):Bool:=s.data.toList.all cc && (decide (0<s.size) && decide (s.size<=12))
def o4 (s:ByteArray) (k:Nat):fW s (k:Int)=s.data.toList[k]?:=by
 unfold fW;rw[Al (Int.natCast_nonneg k)];show s[k]?=_;by_cases h:k<s.size
 ·rw[getElem?_pos s k h,A8 (by simpa using h)];rfl
 ·rw[getElem?_neg s k h,AW (by simpa using h)]
theorem pC (N:Nat) (s:ByteArray):∀(n k:Nat),n+k=s.size->V4 N s n k=some (if(s.data.toList.drop k).all cc=true then .next () else .ret false)
 |0,k,h=>by
  rw[List.drop_eq_nil_of_le (by rw[show s.data.toList.length=s.size from rfl];omega)];rfl
 |n+1,k,h=>by
  have d:k<s.data.toList.length:=by rw[show s.data.toList.length=s.size from rfl];omega
  rw[V4,List.drop_eq_getElem_cons d,o4,A8 d,pC N s n (k+1) d9];simp only[A0,List.all_cons];generalize s.data.toList[k]=u;generalize s.data.toList.drop (k+1)=b;by_cases a:(u.toNat:Int)<33
  ·have e:cc u=false:=(by simp[cc,a]);simp only[a,e,Ai,Ae,A0,Bool.false_and];rfl
  ·by_cases c:126<(u.toNat:Int)
   ·have e:cc u=false:=(by simp only[cc,a,c,Ai,Aj,AI,Bool.and_false]);simp only[a,c,e,Ai,Aj,Ae,Af,A0,Bool.false_and];rfl
   ·have e:cc u=true:=(by simp only[cc,a,c,Aj,AN,Bool.and_true]);simp only[a,c,e,Aj,Af,A0,Bool.true_and]
def mJ (N:Nat) (s:ByteArray):hW N s=some (V9 s):=by
 unfold hW V9;have e:((s.size:Int)-((0:Nat):Int)).toNat=s.size:=d9;rw[e,pC N s s.size 0 d9,List.drop_zero];cases h:s.data.toList.all cc
 ·simp
 ·by_cases c:0<s.size
  ·by_cases d:s.size<=12
   ·have b:(0:Int)<(s.size:Int):=d9;have a:(s.size:Int)<=12:=d9;simp[c,d,a]
   ·have a:¬(s.size:Int)<=12:=d9;have b:(0:Int)<(s.size:Int):=d9;simp[d,a]
  ·have b:¬(0:Int)<(s.size:Int):=d9;simp[c]
def iL (m:Me):Prop:=∀i∈m.code,i.op=14->0<=i.a/\i.a<=4
def U9 (i:Ins) (p:Int):Int×Int×List Int :=
 if i.op=9\/i.op=11\/i.op=12 then(1,-1,[wr (p+1)]) else if i.op=10 then(1,1,[wr (p+1)])
 else if i.op=14 then(wr (i.a+1),-i.a,[wr (p+1)]) else if i.op=15 then(0,0,[i.a])
 else if i.op=16 then(1,-1,[wr (p+1),i.a]) else if i.op=17 then(1,-1,[]) else(0,1,[wr (p+1)])
def o3 (i:Ins) (p:Int):(U9 i p).2.2.length<=2:=by
 unfold U9
 (repeat' split)<;>simp
def tP (N:Nat) (i:Ins) (p:Int) (h:i.op=14->0<=i.a/\i.a<=4):kT N i p=some (U9 i p):=by
 unfold kT U9;by_cases c:i.op=9
 ·simp[c]
 by_cases d:i.op=11
 ·simp[d]
 by_cases f:i.op=12
 ·simp[f]
 by_cases g:i.op=10
 ·simp[g]
 by_cases b:i.op=14
 ·have:=h b;have e:decide (D8 (-i.a))=true:=Al ino;simp only[b,e,Ai,Ae,show((14:Int)=9)=False by decide,show((14:Int)=11)=False by decide,show((14:Int)=12)=False by decide,show((14:Int)=10)=False by decide,Aj,Af,A0,or_self,if_false,if_true]
 by_cases j:i.op=15
 ·simp[j]
 by_cases k:i.op=16
 ·simp[k]
 by_cases l:i.op=17
 ·simp[l]
 simp[c,d,f,g,b,j,k,l]
def n9 {i:Ins} {p:Int} {x:Int} (m:0<=x) (l:x<=12) (c:¬x<(U9 i p).1) (b:¬12<wr (x+(U9 i p).2.1)) (k:i.op=14->0<=i.a/\i.a<=4) :
  0<=wr (x+(U9 i p).2.1)/\wr (x+(U9 i p).2.1)<=12/\wr (x+(U9 i p).2.1)=x+(U9 i p).2.1:=by
 unfold U9 at c b⊢;split at c
 ·rename_i e;simp only[e,if_true] at b⊢;rw[K6 ino];omega
 ·rename_i e;simp only[e,if_false] at b⊢;split at c
  ·rename_i f;simp only[f,if_true] at b⊢;rw[K6 ino] at b⊢;omega
  ·rename_i f;simp only[f,if_false] at b⊢;split at c
   ·rename_i d;have k:=k d;simp only[d,if_true] at b⊢;simp only at c;rw[K6 ino] at c b⊢;omega
   ·rename_i d;simp only[d,if_false] at b⊢;split at c
    ·rename_i g;simp only[g,if_true] at b⊢;rw[K6 ino] at b⊢;omega
    ·rename_i g;simp only[g,if_false] at b⊢;split at c
     ·rename_i h;simp only[h,if_true] at b⊢;rw[K6 ino] at b⊢;omega
     ·rename_i h;simp only[h,if_false] at b⊢;split at c
      ·rename_i j;simp only[j,if_true] at b⊢;rw[K6 ino] at b⊢;omega
      ·rename_i j;simp only[j,if_false] at b⊢;rw[K6 ino] at b⊢;omega
theorem ox (N:Nat):∀(n k:Nat) (v:List Int),n+k=v.length->L6 N n k v=some (v.take k++AG n (-1))
 |0,k,v,h=>by rw[L6,List.take_of_length_le d9];simp
 |n+1,k,v,h=>by
  have a:k<v.length:=d9;rw[L6,H5,A8 a];simp only[A0,Int.toNat_natCast];rw[ox N n (k+1) _ bG];congr 1;rw[List.take_add_one,List.take_set_of_le (AA _),List.getElem?_set_self a,List.replicate_succ];simp
theorem ow (N:Nat) (x:Int) (r:Int×Int×List Int):∀(l:List Int) (k:Nat) (a b:List Int),l=r.2.2.drop k->a.length+l.length<=17592186044416->b.length+l.length<=17592186044416 ->
  K9 N x r l k a b=some (a++l,b++AG l.length (wr (x+r.2.1)))
 |[],k,a,b,_,_,_=>by simp[K9]
 |y::l,k,a,b,h,ha,hb=>by
  obtain⟨d,e,_⟩:=e7 h;simp only[AP] at ha hb;rw[K9];have e1:AD ((a.length+[y].length)*8) 140737488355328=true:=jM bG;have c:AD ((b.length+[wr (x+r.2.1)].length)*8) 140737488355328=true:=jM bG;simp only[H5,d,A0,e1,c,Ae];rw[ow N x r l (k+1) _ _ e bG bG];simp[List.replicate_succ]
def fT (h:List Int):Nat:=h.countP fun x=>decide (x<0)
def n4 {h:List Int} {i:Nat} {x y:Int} (b:h[i]?=some x) (c:x<0) (d:0<=y):fT (h.set i y)+1=fT h:=by
 induction h generalizing i with
 |nil=>simp at b
 |cons a h ih =>
  cases i with
  |zero =>
   simp only[List.getElem?_cons_zero,Option.some.injEq] at b;subst b;have:¬y<0:=d9;simp[fT,c,this]
  |succ i =>
   have:=ih (i:=i) (by simpa using b);simp only[fT,List.set_cons_succ,List.countP_cons] at this⊢;omega
def bO (m:Me):Nat->List Int->List (Int×Int)->Option (F8 (List Int×U0) (List Int))
 |0,_,_=>none
 |_+1,h,[]=>some (.next h)
 |n+1,h,(p,x)::r =>
  if(m.code.length:Int)<=p\/p<0 then some (.ret ([],⟨9,m.code.length⟩)) else
  match h[p.toNat]?,m.code[p.toNat]? with
  |some y,some i =>
   if 0<=y then(if y=x then bO m n h r else some (.ret ([],⟨8,p⟩)))
   else if x<(U9 i p).1\/(i.op=17/\x≠1) then some (.ret ([],⟨8,p⟩))
   else if 12<wr (x+(U9 i p).2.1) then some (.ret ([],⟨4,p⟩))
   else bO m n (h.set p.toNat x) (r++(U9 i p).2.2.map fun q=>(q,wr (x+(U9 i p).2.1)))
  |_,_=>none
def gk (l:List (Int×Int)):Prop:=∀q∈l,0<=q.2/\q.2<=12
theorem nY (m:Me) (d:iL m):∀(n:Nat) (h:List Int) (l:List (Int×Int)),h.length=m.code.length->gk l->l.length+3*fT h<n->∃r,bO m n h l=some r
 |0,h,l,_,_,s=>d9
 |n+1,h,[],_,_,_=>⟨_,rfl⟩
 |n+1,h,(p,x)::r,hh,hl,s=>by
  rw[bO];simp only[AP] at s;have e:=hl (p,x) o5;have u:gk r:=fun q a=>hl q (by simp[a]);by_cases g:(m.code.length:Int)<=p\/p<0
  ·rw[Ah g];exact⟨_,rfl⟩
  rw[Ag g];have t:p.toNat<m.code.length:=d9;have e1:h[p.toNat]?=some (h[p.toNat]' d9):=A8 d9;have f:m.code[p.toNat]?=some m.code[p.toNat]:=A8 t;generalize h[p.toNat]' d9=y at e1;have o:=d _ (List.getElem_mem t);generalize m.code[p.toNat]=i at f o;rw[e1,f];simp only;by_cases j:0<=y
  ·rw[Ah j];by_cases b:y=x
   ·rw[Ah b];exact nY m d n h r hh u d9
   ·rw[Ag b];exact⟨_,rfl⟩
  rw[Ag j];by_cases b:x<(U9 i p).1\/(i.op=17/\x≠1)
  ·rw[Ah b];exact⟨_,rfl⟩
  rw[Ag b];by_cases c:12<wr (x+(U9 i p).2.1)
  ·rw[Ah c];exact⟨_,rfl⟩
  rw[Ag c];have k:=n9 e.1 e.2 (fun h=>b (A9 h)) c o;have w:=n4 (y:=x) e1 d9 e.1;have v:=o3 i p;refine nY m d n _ _ (by simpa using hh) (fun q a=>?_) bG;rcases AT.1 a with a|a
  ·exact u q a
  ·obtain⟨z,_,rfl⟩:=AL.1 a;exact⟨k.1,k.2.1⟩
theorem mC (N:Nat) (m:Me) (D:iL m) (J:m.code.length<=1048576):∀(n:Nat) (h:List Int) (b c:List Int) (k:Nat),b.length=c.length->k<=b.length->b.length+2*fT h<=4194304->h.length=m.code.length ->
  gk ((b.drop k).zip (c.drop k))->O3 N m n h b c (k:Int)=bO m n h ((b.drop k).zip (c.drop k))
 |0,_,_,_,_,_,_,_,_,_=>rfl
 |n+1,h,b,c,k,Q,W,P,K,M=>by
  rw[O3];by_cases s:k<b.length
  ·have d:(k:Int)<(b.length:Int):=d9;have f:k<c.length:=d9;have E:b[k]?=some b[k]:=A8 s;have F:c[k]?=some c[k]:=A8 f;have l:(b.drop k).zip (c.drop k)=(b[k],c[k])::(b.drop (k+1)).zip (c.drop (k+1)):=by
    rw[List.drop_eq_getElem_cons s,List.drop_eq_getElem_cons f];rfl
   have v:=M (b[k],c[k]) (by rw[l];simp);have O:gk ((b.drop (k+1)).zip (c.drop (k+1))):=fun q e=>M q (by rw[l];simp[e]);have V:wr ((k:Int)+1)=((k+1:Nat):Int):=by rw[K6 ino];omega
   rw[l,bO];generalize X:b[k]=p at E v;generalize S:c[k]=x at F v;simp only[d,Ai,Ae,H5,E,F,A0,V];by_cases B:(m.code.length:Int)<=p
   ·simp only[B,Ai,Ae,A0,true_or,if_true]
   by_cases o:p<0
   ·simp only[B,o,Ai,Aj,Ae,Af,A0,or_true,if_true]
   simp only[B,o,Aj,Af,A0,or_self,if_false];have u:p.toNat<m.code.length:=d9;have t:0<=p:=d9;have e1:h[p.toNat]?=some (h[p.toNat]' d9):=A8 d9;have A:m.code[p.toNat]?=some m.code[p.toNat]:=A8 u;generalize h[p.toNat]' d9=y at e1;have C:=D _ (List.getElem_mem u);generalize m.code[p.toNat]=i at A C;have T:u6 h p=some y:=by rw[jU t,e1]
   have U:u6 m.code p=some i:=(by rw[jU t,A]);simp only[T,U,e1,A,A0,tP N i p C];by_cases H:0<=y
   ·simp only[H,Ai,Ae,if_true];by_cases g:y=x
    ·simp only[g,Ai,AI,Af,A0,if_true];exact mC N m D J n h b c (k+1) Q d9 P K O
    ·simp only[g,Aj,AN,Ae,A0,if_false]
   simp only[H,Aj,Af,if_false];by_cases g:x<(U9 i p).1
   ·simp only[g,Ai,Ae,A0,true_or,if_true]
   by_cases w:i.op=17/\x≠1
   ·simp only[g,w.1,w.2,Ai,Aj,Ae,Af,A0,AN,or_true,if_true,ne_eq,not_false_eq_true,and_self]
   have e:((bif decide (i.op=(17:Int)) then some ((!decide (x=(1:Int)))) else some (false)):Option Bool)=some false:=by
    by_cases j:i.op=17
    ·by_cases I:x=1
     ·simp[I]
     ·exact absurd ⟨j,I⟩ w
    ·simp[j]
   simp only[g,w,e,Aj,Af,A0,or_self,if_false];by_cases j:12<wr (x+(U9 i p).2.1)
   ·simp only[j,Ai,Ae,A0,if_true]
   simp only[j,Aj,Af,if_false];have r:=n9 v.1 v.2 g j C;have Y:=n4 (y:=x) e1 d9 v.1;have R:=o3 i p;rw[ow N x (U9 i p) (U9 i p).2.2 0 b c rfl d9 d9];simp only[A0];have G:((b++(U9 i p).2.2).drop (k+1)).zip ((c++AG (U9 i p).2.2.length (wr (x+(U9 i p).2.1))).drop (k+1)) =
     (b.drop (k+1)).zip (c.drop (k+1))++(U9 i p).2.2.map fun q=>(q,wr (x+(U9 i p).2.1)):=by
    rw[List.drop_append_of_le_length d9,List.drop_append_of_le_length d9,List.zip_append bG];congr 1;generalize (U9 i p).2.2=L
    induction L with
    |nil=>rfl
    |cons a L ih=>simp[List.replicate_succ,ih]
   rw[mC N m D J n _ _ _ (k+1) bG bG bG (by simpa using K) (by
    rw[G];intro q e;rcases AT.1 e with e|e
    ·exact O q e
    ·obtain⟨z,_,rfl⟩:=AL.1 e;exact⟨r.1,r.2.1⟩),G]
  ·have d:¬(k:Int)<(b.length:Int):=d9;have l:(b.drop k).zip (c.drop k)=[]:=by rw[List.drop_eq_nil_of_le d9];rfl
   rw[l,bO];simp only[d,Aj,Af]
def iU (o:F8 (List Int×U0) (List Int)):List Int×U0:=match o with|.ret r=>r|.next h=>(h,⟨0,0⟩)
def nH (n:Nat):fT (AG n (-1))=n:=by
 induction n with
 |zero=>rfl
 |succ n ih=>simp only[fT,List.replicate_succ,List.countP_cons] at ih⊢;rw[ih];rfl
def sx (N:Nat) (m:Me) (d:iL m) (c:m.code.length<=1048576):kE N m=(bO m N (AG m.code.length (-1)) [(0,0)]).map iU:=by
 unfold kE;have e0:(decide (0<=(m.code.length:Int)) && decide ((m.code.length:Int)<=140737488355328) && decide ((m.code.length:Int)*8<=140737488355328))=true:=by
  simp only[A7,Am];omega
 have e1:(((AG (m.code.length:Int).toNat (0:Int)).length:Int)-((0:Nat):Int)).toNat=m.code.length:=o5;rw[e0,e1,ox N _ 0 _ o5];simp only[Ae,A0,List.take_zero,List.nil_append];have h:=mC N m d c N (AG m.code.length (-1)) [0] [0] 0 rfl o5 (by rw[nH];simp;omega) o5 (by
  intro q a;simp only[List.drop_zero,List.zip_cons_cons,List.zip_nil_right,AJ,List.not_mem_nil,or_false] at a;subst a;decide)
 have b:O3 N m N (AG m.code.length (-1)) [(0:Int)] [(0:Int)] (0:Int)=bO m N (AG m.code.length (-1)) [(0,0)]:=h;rw[b];cases bO m N (AG m.code.length (-1)) [(0,0)] with
 |none=>rfl
 |some o=>cases o<;>rfl
def Good (x:Option (F8 Int Unit)) (P:Prop):Prop:=∃o,x=some o/\(∀r,o=.ret r->r≠0)/\(o=.next ()->P)
theorem Good.ret {r:Int} {P:Prop} (h:r≠0):Good (some (.ret r)) P:=⟨.ret r,rfl,(fun r e=>by cases e;exact h),fun e=>by cases e⟩
theorem Good.next {P:Prop} (h:P):Good (some (.next ())) P:=⟨.next (),rfl,(fun r e=>by cases e),fun _=>h⟩
theorem Good.bind {x:Option (F8 Int Unit)} {P Q:Prop} {y:Option (F8 Int Unit)} (h:Good x P) (c:P->Good y Q):Good (x.bind fun o=>match o with|.ret r=>some (.ret r)|.next ()=>y) Q:=by
 obtain⟨o,rfl,a,b⟩:=h;cases o with
 |ret r=>exact Good.ret (a r rfl)
 |next u=>exact c (b rfl)
theorem Good.imp {x:Option (F8 Int Unit)} {P Q:Prop} (h:Good x P) (d:P->Q):Good x Q:=by
 obtain⟨o,a,b,c⟩:=h;exact⟨o,a,b,fun e=>d (c e)⟩
def vJ {w:Wd} (h:fx w<=1048576):eC w:=by
 unfold fx at h;have k:=iE (bk:=du) (fun a=>vv a) w.a7;have l:=iE (bk:=dr) (fun a=>va a) w.heap;refine⟨d9,d9,fun c f=>?_,fun o i=>?_⟩
 ·have d:=ny (bk:=du) f;have b:du c=ei c.name+bE c.aH+bE c.aC+(bI df) c.aB+1:=rfl;have e:=iE (bk:=df) (fun a=>vZ a) c.aB;refine⟨d9,fun m g=>?_⟩;have n:=ny (bk:=df) g;have j:df m=ei m.name+bE m.args+bE m.aJ+bE m.aO+(bI eI) m.code+1:=rfl;have p:=iE (bk:=eI) (fun a=>uv a) m.code;omega
 ·have d:=ny (bk:=dr) i;have b:dr o=bE o.cls+(bI eO) o.aC+1:=rfl;have e:=iE (bk:=eO) (fun a=>wI a) o.aC;omega





theorem pB (N:Nat) (w:Wd) (l:w.a7.length<=1048576):∀(n:Nat) (k:Nat) (c a:Int),k<=w.a7.length+1->w.a7.length+1-k<n ->
  hM N w n c a (k:Int)=some ((bw w (w.a7.length+1-k) c).foldl (fun n k=>match w.a7[k.toNat]? with|some x=>wr (n+x.aC)|none=>n) a)
 |0,k,c,a,_,h=>d9
 |n+1,k,c,a,q,r=>by
  rw[hM];by_cases b:0<=c
  ·by_cases f:c<w.a7.length
   ·obtain⟨x,i,g⟩:=kv b f;by_cases p:k<=w.a7.length
    ·have d:(k:Int)<=(w.a7.length:Int):=d9;have e:w.a7.length+1-k=(w.a7.length-k)+1:=d9;have o:wr ((k:Int)+1)=((k+1:Nat):Int):=by rw[K6 ino];omega
     simp only[b,f,d,Ai,Ae,A0,g,o];rw[pB N w l n (k+1) _ _ d9 d9,e,bw,Ah b,i];simp only[List.foldl_cons,i];rw[show w.a7.length+1-(k+1)=w.a7.length-k by omega]
    ·have d:¬(k:Int)<=(w.a7.length:Int):=d9;have e:w.a7.length+1-k=0:=d9;simp only[b,f,d,Ai,Aj,Ae,Af,A0,e];rfl
   ·have i:w.a7[c.toNat]?=none:=nL f;simp only[b,f,Ai,Aj,Ae,Af,A0];cases j:w.a7.length+1-k with
    |zero=>rfl
    |succ m=>rw[bw,Ah b,i];rfl
  ·simp only[b,Aj,Af,A0];cases j:w.a7.length+1-k with
   |zero=>rfl
   |succ m=>rw[bw,Ag b];rfl
def mK (N:Nat) (w:Wd) (c:Int) (b:1048578<=N) (a:w.a7.length<=1048576):gQ N w c=some (F3 w c):=by
 unfold gQ F3;have h:=pB N w a N 0 c 0 d9 d9;simp only[Nat.sub_zero,Int.ofNat_zero] at h;rw[h];rfl
theorem pH (N:Nat) (s:ByteArray):∀(n k:Nat),n+k=s.size->Y0 N s n k=some (if(s.data.toList.drop k).all cc=true then .next () else .ret false)
 |0,k,h=>by
  rw[List.drop_eq_nil_of_le (by rw[show s.data.toList.length=s.size from rfl];omega)];rfl
 |n+1,k,h=>by
  have f:k<s.data.toList.length:=by rw[show s.data.toList.length=s.size from rfl];omega
  rw[Y0,List.drop_eq_getElem_cons f,o4,A8 f,pH N s n (k+1) d9];simp only[A0,List.all_cons];generalize s.data.toList[k]=u;generalize s.data.toList.drop (k+1)=b;by_cases d:(u.toNat:Int)<=32
  ·have a:(u.toNat:Int)<33:=d9;have e:cc u=false:=by simp[cc,a]
   simp only[d,e,Ai,Ae,A0,Bool.false_and];rfl
  ·have a:¬(u.toNat:Int)<33:=d9;by_cases c:126<(u.toNat:Int)
   ·have e:cc u=false:=(by simp only[cc,a,c,Ai,Aj,AI,Bool.and_false]);simp only[d,c,e,Ai,Aj,Ae,Af,A0,Bool.false_and];rfl
   ·have e:cc u=true:=(by simp only[cc,a,c,Aj,AN,Bool.and_true]);simp only[d,c,e,Aj,Af,A0,Bool.true_and]
def mM (N:Nat) (s:ByteArray):hX N s=some (V9 s):=by
 unfold hX V9;have e:((s.size:Int)-((0:Nat):Int)).toNat=s.size:=d9;rw[e,pH N s s.size 0 d9,List.drop_zero];by_cases c:(s.size:Int)<1
 ·have a:¬0<s.size:=d9;simp[c,a]
 ·have a:0<s.size:=d9;by_cases d:(12:Int)<(s.size:Int)
  ·have b:¬s.size<=12:=d9;simp[c,d,b]
  ·have b:s.size<=12:=d9;cases h:s.data.toList.all cc<;>simp[c,d,a,b]
theorem mB {w:Wd} (c:∀x∈w.a7,0<=x.aC/\x.aC<=6):∀(l:List Int) (a:Int),0<=a->a+6*l.length<=100000000 ->
  0<=l.foldl (fun n k=>match w.a7[k.toNat]? with|some x=>wr (n+x.aC)|none=>n) a/\l.foldl (fun n k=>match w.a7[k.toNat]? with|some x=>wr (n+x.aC)|none=>n) a<=a+6*l.length
 |[],a,b,d=>⟨by simpa using b,o5⟩
 |k::l,a,b,d=>by
  simp only[List.foldl_cons,AP] at d⊢;cases e:w.a7[k.toNat]? with
  |none =>
   have:=mB c l a b d9;simp only;omega
  |some x =>
   have:=c x (AO e);simp only;rw[K6 ino];have:=mB c l (a+x.aC) d9 d9;omega
def uq {w:Wd} (a:∀x∈w.a7,0<=x.aC/\x.aC<=6) (d:w.a7.length<=1048576) (c:Int):0<=F3 w c/\F3 w c<=1000000000:=by
 have b:=pI w (w.a7.length+1) c;have:=mB a (bw w (w.a7.length+1) c) 0 d9 d9;unfold F3;exact⟨this.1,Int.le_trans this.2 d9⟩
def ky (w:Wd) (c:Int) (m:Me) (i:Ins):Option Bool :=
 if i.op=1\/i.op=6\/i.op=7\/i.op=8\/i.op=9\/i.op=10\/i.op=17 then some (decide (i.a=0))
 else if i.op=2 then some (decide (0<=i.a) && decide (i.a<m.args))
 else if i.op=3\/i.op=11 then some (decide (0<=i.a) && decide (i.a<m.aJ))
 else if i.op=4\/i.op=12 then some (decide (0<=i.a) && decide (i.a<F3 w c))
 else if i.op=5 then some (decide (-1073741824<=i.a) && decide (i.a<=1073741824))
 else if i.op=13 then some (decide (i.a=0) || (decide (4<=i.a) && decide (i.a<w.a7.length)))
 else if i.op=14 then some (decide (0<=i.a) && decide (i.a<5))
 else if i.op=15\/i.op=16 then some (decide (0<=i.a) && decide (i.a<m.code.length))
 else none
def lP (i:Ins):Bool:=(decide (i.op=14) && !V9 i.name) || (!decide (i.op=14) && !decide (i.name=(⟨#[]⟩:ByteArray))) || !decide (i.b=0) || !decide (i.c=0)
def cq (w:Wd) (c:Int) (m:Me) (i:Ins):Int:=match ky w c m i with
 |none=>1
 |some ok=>if ok=true then(if lP i=true then 2 else 0) else 3
def sr (N:Nat) (a b:Int):Q3 N a b=some (decide (0<=a) && decide (a<b)):=by
 unfold Q3;by_cases h:0<=a<;>simp[h]
def tM (N:Nat) (w:Wd) (c:Int) (m:Me) (i:Ins) (L:1048578<=N) (O:w.a7.length<=1048576):kM N w c m i=some (cq w c m i):=by
 unfold kM cq ky lP;simp only[mK N w c L O,mM,sr,A0];generalize decide (i.b=0)=B;generalize decide (i.c=0)=C;generalize decide (i.name=(⟨#[]⟩:ByteArray))=E;generalize decide (i.a=0)=d;generalize decide (0<=i.a)=e;generalize decide (i.a<m.args)=F;generalize decide (i.a<m.aJ)=q;generalize decide (i.a<F3 w c)=r;generalize decide (-1073741824<=i.a)=G;generalize decide (i.a<=1073741824)=H;generalize decide (4<=i.a)=I;generalize decide (i.a<(w.a7.length:Int))=J;generalize decide (i.a<5)=K;generalize decide (i.a<(m.code.length:Int))=f;generalize V9 i.name=M;by_cases s:i.op=1
 ·simp only[s];cases d<;>cases B<;>cases C<;>cases E<;>simp
 by_cases y:i.op=6
 ·simp only[y];cases d<;>cases B<;>cases C<;>cases E<;>simp
 by_cases z:i.op=7
 ·simp only[z];cases d<;>cases B<;>cases C<;>cases E<;>simp
 by_cases A:i.op=8
 ·simp only[A];cases d<;>cases B<;>cases C<;>cases E<;>simp
 by_cases D:i.op=9
 ·simp only[D];cases d<;>cases B<;>cases C<;>cases E<;>simp
 by_cases g:i.op=10
 ·simp only[g];cases d<;>cases B<;>cases C<;>cases E<;>simp
 by_cases p:i.op=17
 ·simp only[p];cases d<;>cases B<;>cases C<;>cases E<;>simp
 by_cases t:i.op=2
 ·simp only[t];cases e<;>cases F<;>cases B<;>cases C<;>cases E<;>simp
 by_cases u:i.op=3
 ·simp only[u];cases e<;>cases q<;>cases B<;>cases C<;>cases E<;>simp
 by_cases h:i.op=11
 ·simp only[h];cases e<;>cases q<;>cases B<;>cases C<;>cases E<;>simp
 by_cases v:i.op=4
 ·simp only[v];cases e<;>cases r<;>cases B<;>cases C<;>cases E<;>simp
 by_cases j:i.op=12
 ·simp only[j];cases e<;>cases r<;>cases B<;>cases C<;>cases E<;>simp
 by_cases x:i.op=5
 ·simp only[x];cases G<;>cases H<;>cases B<;>cases C<;>cases E<;>simp
 by_cases k:i.op=13
 ·simp only[k];cases d<;>cases I<;>cases J<;>cases B<;>cases C<;>cases E<;>simp
 by_cases l:i.op=14
 ·simp only[l];cases e<;>cases K<;>cases B<;>cases C<;>cases M<;>simp
 by_cases n:i.op=15
 ·simp only[n];cases e<;>cases f<;>cases B<;>cases C<;>cases E<;>simp
 by_cases o:i.op=16
 ·simp only[o];cases e<;>cases f<;>cases B<;>cases C<;>cases E<;>simp
 simp[s,y,z,A,D,g,p,t,u,h,v,j,x,k,l,n,o]
def ss (N:Nat) (w:Wd) (c:Int) (m:Me) (i:Ins) (I:1048578<=N) (J:w.a7.length<=1048576) (Q:1<=w.a7.length) (O:0<=m.args/\m.args<=1000) (R:0<=m.aJ/\m.aJ<=1000)
  (K:0<=F3 w c/\F3 w c<=1000000000) (P:m.code.length<=1048576):Z8 N w c m i=some (cq w c m i):=by
 unfold Z8 cq ky lP;simp only[mH N w c I J,mJ,A0,K6 (show D8 (m.args-1) by unfold D8;omega),K6 (show D8 (m.aJ-1) by unfold D8;omega),K6 (show D8 (F3 w c-1) by unfold D8;omega),
  K6 (show D8 ((w.a7.length:Int)-1) by unfold D8;omega),K6 (show D8 ((m.code.length:Int)-1) by unfold D8;omega)]
 by_cases o:i.op=13
 ·have L:(!decide (i.op=14))=true:=by rw[o];rfl
  simp only[o];rcases(by omega:i.a<0\/i.a=0\/(0<i.a/\i.a<4)\/4<=i.a) with h|h|h|h
  ·simp[h,show¬i.a=0 by omega,show¬0<i.a by omega,show¬4<=i.a by omega]
  ·have G:¬((w.a7.length:Int)-1<0):=d9;have q:¬((w.a7.length:Int)<1):=d9;generalize decide (i.b=0)=B;generalize decide (i.c=0)=C;generalize decide (i.name=(⟨#[]⟩:ByteArray))=E;simp only[h];cases B<;>cases C<;>cases E<;>simp[G]
  ·simp[h.1,h.2,show¬i.a=0 by omega,show¬4<=i.a by omega]
  ·have G:¬i.a<4:=d9;have q:¬i.a<0:=d9;have r:¬i.a=0:=d9;have s:0<i.a:=d9;generalize decide (i.b=0)=B;generalize decide (i.c=0)=C;generalize decide (i.name=(⟨#[]⟩:ByteArray))=E;by_cases H:i.a<(w.a7.length:Int)
   ·have p:¬((w.a7.length:Int)-1<i.a):=d9;cases B<;>cases C<;>cases E<;>simp[G,q,r,s,h,H,p]
   ·have p:((w.a7.length:Int)-1<i.a):=d9;simp[G,q,r,s,h,H,p]
 generalize decide (i.b=0)=B;generalize decide (i.c=0)=C;generalize decide (i.name=(⟨#[]⟩:ByteArray))=E;generalize V9 i.name=M;by_cases t:i.op=1
 ·rcases Int.lt_trichotomy i.a 0 with h|h|h
  ·simp[t,h,show¬i.a=0 by omega]
  ·cases B<;>cases C<;>cases E<;>simp[t,h]
  ·simp[t,h,show¬i.a<0 by omega,show¬i.a=0 by omega]
 by_cases z:i.op=6
 ·rcases Int.lt_trichotomy i.a 0 with h|h|h
  ·simp[z,h,show¬i.a=0 by omega]
  ·cases B<;>cases C<;>cases E<;>simp[z,h]
  ·simp[z,h,show¬i.a<0 by omega,show¬i.a=0 by omega]
 by_cases A:i.op=7
 ·rcases Int.lt_trichotomy i.a 0 with h|h|h
  ·simp[A,h,show¬i.a=0 by omega]
  ·cases B<;>cases C<;>cases E<;>simp[A,h]
  ·simp[A,h,show¬i.a<0 by omega,show¬i.a=0 by omega]
 by_cases D:i.op=8
 ·rcases Int.lt_trichotomy i.a 0 with h|h|h
  ·simp[D,h,show¬i.a=0 by omega]
  ·cases B<;>cases C<;>cases E<;>simp[D,h]
  ·simp[D,h,show¬i.a<0 by omega,show¬i.a=0 by omega]
 by_cases F:i.op=9
 ·rcases Int.lt_trichotomy i.a 0 with h|h|h
  ·simp[F,h,show¬i.a=0 by omega]
  ·cases B<;>cases C<;>cases E<;>simp[F,h]
  ·simp[F,h,show¬i.a<0 by omega,show¬i.a=0 by omega]
 by_cases e:i.op=10
 ·rcases Int.lt_trichotomy i.a 0 with h|h|h
  ·simp[e,h,show¬i.a=0 by omega]
  ·cases B<;>cases C<;>cases E<;>simp[e,h]
  ·simp[e,h,show¬i.a<0 by omega,show¬i.a=0 by omega]
 by_cases n:i.op=17
 ·rcases Int.lt_trichotomy i.a 0 with h|h|h
  ·simp[n,h,show¬i.a=0 by omega]
  ·cases B<;>cases C<;>cases E<;>simp[n,h]
  ·simp[n,h,show¬i.a<0 by omega,show¬i.a=0 by omega]
 by_cases u:i.op=2
 ·by_cases h:0<=i.a
  ·by_cases d:i.a<m.args
   ·cases B<;>cases C<;>cases E<;>simp[u,h,d,show¬i.a<0 by omega,show¬(m.args-1<i.a) by omega]
   ·simp[u,h,d,show¬i.a<0 by omega,show(m.args-1<i.a) by omega]
  ·simp[u,h,show i.a<0 by omega]
 by_cases v:i.op=3
 ·by_cases h:0<=i.a
  ·by_cases d:i.a<m.aJ
   ·cases B<;>cases C<;>cases E<;>simp[v,h,d,show¬i.a<0 by omega,show¬(m.aJ-1<i.a) by omega]
   ·simp[v,h,d,show¬i.a<0 by omega,show(m.aJ-1<i.a) by omega]
  ·simp[v,h,show i.a<0 by omega]
 by_cases f:i.op=11
 ·by_cases h:0<=i.a
  ·by_cases d:i.a<m.aJ
   ·cases B<;>cases C<;>cases E<;>simp[f,h,d,show¬i.a<0 by omega,show¬(m.aJ-1<i.a) by omega]
   ·simp[f,h,d,show¬i.a<0 by omega,show(m.aJ-1<i.a) by omega]
  ·simp[f,h,show i.a<0 by omega]
 by_cases x:i.op=4
 ·by_cases h:0<=i.a
  ·by_cases d:i.a<F3 w c
   ·cases B<;>cases C<;>cases E<;>simp[x,h,d,show¬i.a<0 by omega,show¬(F3 w c-1<i.a) by omega]
   ·simp[x,h,d,show¬i.a<0 by omega,show(F3 w c-1<i.a) by omega]
  ·simp[x,h,show i.a<0 by omega]
 by_cases g:i.op=12
 ·by_cases h:0<=i.a
  ·by_cases d:i.a<F3 w c
   ·cases B<;>cases C<;>cases E<;>simp[g,h,d,show¬i.a<0 by omega,show¬(F3 w c-1<i.a) by omega]
   ·simp[g,h,d,show¬i.a<0 by omega,show(F3 w c-1<i.a) by omega]
  ·simp[g,h,show i.a<0 by omega]
 by_cases y:i.op=5
 ·by_cases h:-1073741824<=i.a
  ·by_cases d:i.a<=1073741824
   ·cases B<;>cases C<;>cases E<;>simp[y,h,d,show¬i.a < -1073741824 by omega,show¬(1073741824<i.a) by omega]
   ·simp[y,h,d,show¬i.a < -1073741824 by omega,show(1073741824<i.a) by omega]
  ·simp[y,h,show i.a < -1073741824 by omega]
 by_cases j:i.op=14
 ·by_cases h:0<=i.a
  ·by_cases d:i.a<5
   ·cases B<;>cases C<;>cases M<;>simp[j,h,d,show¬i.a<0 by omega,show¬(4<i.a) by omega]
   ·simp[j,h,d,show¬i.a<0 by omega,show(4<i.a) by omega]
  ·simp[j,h,show i.a<0 by omega]
 by_cases k:i.op=15
 ·by_cases h:0<=i.a
  ·by_cases d:i.a<(m.code.length:Int)
   ·cases B<;>cases C<;>cases E<;>simp[k,h,d,show¬i.a<0 by omega,show¬((m.code.length:Int)-1<i.a) by omega]
   ·simp[k,h,d,show¬i.a<0 by omega,show((m.code.length:Int)-1<i.a) by omega]
  ·simp[k,h,show i.a<0 by omega]
 by_cases l:i.op=16
 ·by_cases h:0<=i.a
  ·by_cases d:i.a<(m.code.length:Int)
   ·cases B<;>cases C<;>cases E<;>simp[l,h,d,show¬i.a<0 by omega,show¬((m.code.length:Int)-1<i.a) by omega]
   ·simp[l,h,d,show¬i.a<0 by omega,show((m.code.length:Int)-1<i.a) by omega]
  ·simp[l,h,show i.a<0 by omega]
 simp[t,u,v,x,y,z,A,D,F,e,f,g,o,j,k,l,n]
def uo (N:Nat) (i:Ins) (p:Int) (h:i.op=14->0<=i.a/\i.a<=4):∃g,kS N i=some ((U9 i p).1,g)/\wr (g-(U9 i p).1)=(U9 i p).2.1:=by
 unfold kS U9;by_cases l:i.op=9
 ·exact⟨0,by simp[l],by simp[l];rw[K6 ino]⟩
 by_cases d:i.op=11
 ·exact⟨0,by simp[d],by simp[d];rw[K6 ino]⟩
 by_cases e:i.op=12
 ·exact⟨0,by simp[e],by simp[e];rw[K6 ino]⟩
 by_cases j:i.op=16
 ·exact⟨0,by simp[j],by simp[j];rw[K6 ino]⟩
 by_cases k:i.op=17
 ·exact⟨0,by simp[k],by simp[k];rw[K6 ino]⟩
 by_cases c:i.op=10
 ·exact⟨2,by simp[c],by simp[c];rw[K6 ino]⟩
 by_cases b:i.op=14
 ·have:=h b;exact⟨1,by simp[b],by simp[b];rw[K6 (show D8 (i.a+1) by unfold D8;omega),K6 ino];omega⟩
 by_cases f:i.op=15
 ·exact⟨0,by simp[f],by simp[f];rw[K6 ino]⟩
 exact⟨1,by simp[l,c,d,e,b,f,j,k],by simp[l,c,d,e,b,f,j,k];rw[K6 ino]⟩
theorem p6 (N:Nat):∀(n k:Nat) (v:List Int),n+k=v.length->O6 N n k v=some (v.take k++AG n (-1))
 |0,k,v,h=>by rw[O6,List.take_of_length_le d9];simp
 |n+1,k,v,h=>by
  have a:k<v.length:=d9;rw[O6,H5,A8 a];simp only[A0,Int.toNat_natCast];rw[p6 N n (k+1) _ bG];congr 1;rw[List.take_add_one,List.take_set_of_le (AA _),List.getElem?_set_self a,List.replicate_succ];simp
def cg (a:M9):Int×Int:=(a.f0,a.f1)
def lN (i:Ins) (p h:Int) (q:List M9):List M9 :=
 let b:=if i.op=15\/i.op=17 then q else q++[⟨wr (p+1),h⟩]
 if i.op=15\/i.op=16 then b++[⟨i.a,h⟩] else b
def nW (i:Ins) (p h:Int) (q:List M9):(lN i p h q).map cg=q.map cg++(U9 i p).2.2.map fun x=>(x,h):=by
 unfold lN U9;by_cases e:i.op=15
 ·simp[e,cg]
 by_cases f:i.op=16
 ·simp[f,cg]
 by_cases g:i.op=17
 ·simp[g]
 by_cases j:i.op=9
 ·simp[j,cg]
 by_cases b:i.op=11
 ·simp[b,cg]
 by_cases c:i.op=12
 ·simp[c,cg]
 by_cases a:i.op=10
 ·simp[a,cg]
 by_cases d:i.op=14
 ·simp[d,cg]
 simp[e,f,g,j,b,c,a,d,cg]
theorem mE (N:Nat) (m:Me) (C:iL m) (J:m.code.length<=1048576):∀(n:Nat) (h:List Int) (q:List M9),q.length+2*fT h<=4194304->h.length=m.code.length ->
  gk (q.map cg)->R6 N m n h q=bO m n h (q.map cg)
 |0,_,_,_,_,_=>rfl
 |n+1,h,[],_,_,_=>by
  rw[R6];simp[bO]
 |n+1,h,⟨p,x⟩::q,hb,hh,ho=>by
  rw[R6];have E:=ho (p,x) (by simp[cg]);have K:gk (q.map cg):=fun z c=>ho z (by rw[AQ];exact List.mem_cons_of_mem _ c);have l:(0:Int)<(((⟨p,x⟩:M9)::q).length:Int):=by simp only[AP];omega
  have L:(decide (0<=(1:Int)) && decide ((1:Int)<=(((⟨p,x⟩:M9)::q).length:Int)))=true:=by simp only[A7,Am,AP];omega
  have D:u6 ((⟨p,x⟩:M9)::q) (0:Int)=some ⟨p,x⟩:=rfl;have hd:((⟨p,x⟩:M9)::q).drop (1:Int).toNat=q:=rfl;simp only[AP] at hb;rw[AQ,show cg ⟨p,x⟩=(p,x) from rfl,bO];simp only[l,Ai,Ae,D,A0,L,hd];by_cases a:p<0
  ·simp only[a,Ai,Ae,A0,or_true,if_true]
  by_cases F:(m.code.length:Int)<=p
  ·simp only[F,a,Ai,Aj,Ae,Af,A0,true_or,if_true]
  simp only[F,a,Aj,Af,A0,or_self,if_false];have r:p.toNat<m.code.length:=d9;have o:0<=p:=d9;have e1:h[p.toNat]?=some (h[p.toNat]' d9):=A8 d9;have u:m.code[p.toNat]?=some m.code[p.toNat]:=A8 r;generalize h[p.toNat]' d9=y at e1;have A:=C _ (List.getElem_mem r);generalize m.code[p.toNat]=i at u A;have P:u6 h p=some y:=by rw[jU o,e1]
  have Q:u6 m.code p=some i:=by rw[jU o,u]
  obtain⟨g,v,w⟩:=uo N i p A;simp only[P,Q,e1,u,A0,v,w];by_cases G:0<=y
  ·simp only[G,Ai,Ae,if_true];by_cases b:y=x
   ·simp only[b,Ai,AI,Af,A0,if_true];exact mE N m C J n h q d9 hh K
   ·simp only[b,Aj,AN,Ae,A0,if_false]
  simp only[G,Aj,Af,if_false];by_cases b:x<(U9 i p).1
  ·simp only[b,Ai,Ae,A0,true_or,if_true]
  by_cases s:i.op=17/\x≠1
  ·simp only[b,s.1,s.2,Ai,Aj,Ae,Af,A0,AN,or_true,if_true,ne_eq,not_false_eq_true,and_self]
  have O:((bif decide (i.op=(17:Int)) then some ((!decide (x=(1:Int)))) else some (false)):Option Bool)=some false:=by
   by_cases d:i.op=17
   ·by_cases I:x=1
    ·simp[I]
    ·exact absurd ⟨d,I⟩ s
   ·simp[d]
  simp only[b,s,O,Aj,Af,A0,or_self,if_false];by_cases d:12<wr (x+(U9 i p).2.1)
  ·simp only[d,Ai,Ae,A0,if_true]
  simp only[d,Aj,Af,if_false];have k:=n9 E.1 E.2 b d A;have R:=n4 (y:=x) e1 d9 E.1;have M:=o3 i p;have B:=congrArg List.length (nW i p (wr (x+(U9 i p).2.1)) q);simp only[AR,A6] at B;have go:=mE N m C J n (h.set p.toNat x) (lN i p (wr (x+(U9 i p).2.1)) q) d9 (by simpa using hh) (by
   rw[nW];intro z c;rcases AT.1 c with c|c
   ·exact K z c
   ·obtain⟨z,_,rfl⟩:=AL.1 c;exact⟨k.1,k.2.1⟩)
  rw[nW] at go;rw[<-go];generalize wr (x+(U9 i p).2.1)=H;have t:AD ((q.length+1)*16) 140737488355328=true:=jM d9;have c3:AD ((q.length+1+1)*16) 140737488355328=true:=jM d9;unfold lN;by_cases e:i.op=15
  ·simp[e,t]
  by_cases f:i.op=16
  ·simp[f,t,c3]
  by_cases j:i.op=17
  ·simp[j]
  simp[e,f,j,t]
def tA (N:Nat) (m:Me) (c:iL m) (b:m.code.length<=1048576):kN N m=(bO m N (AG m.code.length (-1)) [(0,0)]).map iU:=by
 unfold kN;have e0:(decide (0<=(m.code.length:Int)) && decide ((m.code.length:Int)<=140737488355328) && decide ((m.code.length:Int)*8<=140737488355328))=true:=by
  simp only[A7,Am];omega
 have e1:(((AG (m.code.length:Int).toNat (0:Int)).length:Int)-((0:Nat):Int)).toNat=m.code.length:=o5;rw[e0,e1,p6 N _ 0 _ o5];simp only[Ae,A0,List.take_zero,List.nil_append];have h:=mE N m c b N (AG m.code.length (-1)) [⟨0,0⟩] (by rw[nH];simp;omega) o5 (by
  intro q a;simp only[AQ,List.map_nil,cg,AJ,List.not_mem_nil,or_false] at a;subst a;decide)
 rw[h];show _=(bO m N (AG m.code.length (-1)) [(0,0)]).map iU;rw[show([(⟨0,0⟩:M9)].map cg)=[((0:Int),(0:Int))] from rfl];cases bO m N (AG m.code.length (-1)) [(0,0)] with
 |none=>rfl
 |some o=>cases o<;>rfl
theorem pk (m:Me):∀(n:Nat) (h:List Int) (q:List (Int×Int)) (r:List Int×U0),bO m n h q=some (.ret r)->r.2.err≠0
 |0,h,q,r,e=>by cases e
 |n+1,h,[],r,e=>by rw[bO] at e;cases e
 |n+1,h,(p,x)::l,r,e=>by
  rw[bO] at e
  (repeat' split at e)<;>first|(cases e;done)|(cases e;simp;done)|exact pk m n _ _ r e
def wh : gk [(0,0)]:=by
 intro q a;simp only[AJ,List.not_mem_nil,or_false] at a;subst a;decide
def de (w:Wd) (c:Int) (m:Me):List Ins->Nat->F8 U0 Unit
 |[],_=>.next ()
 |i::l,k=>if cq w c m i=0 then de w c m l (k+1) else .ret ⟨cq w c m i,k⟩
theorem iB {w:Wd} {c:Int} {m:Me}:∀{l:List Ins} {k:Nat},de w c m l k=.next ()->∀i∈l,cq w c m i=0
 |[],_,_,i,a=>by cases a
 |x::l,k,h,i,a=>by
  rw[de] at h;split at h
  ·rename_i b;rcases AJ.1 a with rfl|a
   ·exact b
   ·exact iB h i a
  ·cases h
theorem pO {w:Wd} {c:Int} {m:Me}:∀{l:List Ins} {k:Nat} {r:U0},de w c m l k=.ret r->r.err≠0
 |[],_,_,h=>by cases h
 |x::l,k,r,h=>by
  rw[de] at h;split at h
  ·exact pO h
  ·rename_i a;cases h;exact a
def ke {w:Wd} {c:Int} {m:Me} {i:Ins} (h:cq w c m i=0) (e:i.op=14):0<=i.a/\i.a<=4:=by
 unfold cq ky at h;simp only[e] at h;by_cases b:0<=i.a
 ·by_cases d:i.a<5
  ·omega
  ·simp[b,d] at h
 ·simp[b] at h
def al (N:Nat) (w:Wd) (c:Int) (m:Me):Option U0 :=
 if c<0\/(w.a7.length:Int)<=c then some ⟨6,0⟩ else if V9 m.name=false then some ⟨7,0⟩
 else if m.args<0\/4<m.args\/m.aJ<0\/6<m.aJ then some ⟨3,0⟩ else if m.aO≠0 then some ⟨1,0⟩
 else if m.code.length<1\/60<m.code.length then some ⟨5,0⟩ else match de w c m m.code 0 with
  |.ret r=>some r
  |.next ()=>((bO m N (AG m.code.length (-1)) [(0,0)]).map iU).map (·.2)
theorem pG (N:Nat) (w:Wd) (c:Int) (m:Me) (a:1048578<=N) (b:w.a7.length<=1048576):∀(l:List Ins) (k:Nat),Y5 N w c m l k=some (de w c m l k)
 |[],k=>rfl
 |x::l,k=>by
  rw[Y5,de,tM N w c m x a b];simp only[A0];by_cases h:cq w c m x=0
  ·simp only[h,Ai,AI,Af,if_true];exact pG N w c m a b l (k+1)
  ·simp only[h,Aj,AN,Ae,if_false]
def tu (N:Nat) (w:Wd) (c:Int) (m:Me) (p:1048578<=N) (v:w.a7.length<=1048576):kX N w c m=al N w c m:=by
 unfold kX al;simp only[mM,A0,pG N w c m p v];by_cases a:c<0
 ·simp[a]
 by_cases d:(w.a7.length:Int)<=c
 ·simp[a,d]
 cases x:V9 m.name with
 |false=>simp[a,d]
 |true =>
  by_cases f:m.args<0
  ·simp[a,d,f]
  by_cases g:4<m.args
  ·simp[a,d,f,g]
  by_cases h:m.aJ<0
  ·simp[a,d,f,g,h]
  by_cases k:6<m.aJ
  ·simp[a,d,f,g,h,k]
  by_cases l:m.aO=0
  ·by_cases n:m.code.length<1
   ·have e:(m.code.length:Int)<1:=d9;simp only[a,d,f,g,h,k,l,n,e,Ai,Aj,Ae,Af,A0,or_self,if_false,AI,AN,or_true,true_or,if_true,ne_eq,not_true,not_false_eq_true,Bool.true_eq_false]
   ·have e:¬(m.code.length:Int)<1:=d9;by_cases j:60<m.code.length
    ·have b:(60:Int)<(m.code.length:Int):=d9;simp only[a,d,f,g,h,k,l,n,e,j,b,Ai,Aj,Ae,Af,A0,or_self,if_false,AI,AN,or_true,true_or,if_true,ne_eq,not_true,not_false_eq_true,Bool.true_eq_false]
    ·have b:¬(60:Int)<(m.code.length:Int):=d9;simp only[a,d,f,g,h,k,l,n,e,j,b,Ai,Aj,Ae,Af,A0,or_self,if_false,AI,AN,ne_eq,not_true,not_false_eq_true,Bool.true_eq_false];cases q:de w c m m.code 0 with
     |ret r=>rfl
     |next u =>
      simp only[tA N m (fun i s t=>ke (iB q i s) t) d9];generalize (bO m N (AG m.code.length (-1)) [(0,0)]).map iU=o;cases o<;>rfl
  ·simp[a,d,f,g,h,k,l]
structure uM (N:Nat) (w:Wd) (c:Int) (m:Me):Prop where
 cls:0<=c/\c<w.a7.length
 name:V9 m.name=true
 args:0<=m.args/\m.args<=4
 aJ:0<=m.aJ/\m.aJ<=6
 aO:m.aO=0
 len:1<=m.code.length/\m.code.length<=60
 num:∀i∈m.code,cq w c m i=0
 neg:iL m
 bO:∃h,bO m N (AG m.code.length (-1)) [(0,0)]=some (.next h)
def uc {N:Nat} {w:Wd} {c:Int} {m:Me} {f:U0} (h:al N w c m=some f) (a:f.err=0):uM N w c m:=by
 unfold al at h;by_cases j:c<0\/(w.a7.length:Int)<=c
 ·rw[Ah j] at h;cases h;cases a
 rw[Ag j] at h;by_cases k:V9 m.name=false
 ·rw[Ah k] at h;cases h;cases a
 rw[Ag k] at h;by_cases l:m.args<0\/4<m.args\/m.aJ<0\/6<m.aJ
 ·rw[Ah l] at h;cases h;cases a
 rw[Ag l] at h;by_cases e:m.aO≠0
 ·rw[Ah e] at h;cases h;cases a
 rw[Ag e] at h;by_cases n:m.code.length<1\/60<m.code.length
 ·rw[Ah n] at h;cases h;cases a
 rw[Ag n] at h;cases b:de w c m m.code 0 with
 |ret r=>rw[b] at h;cases h;exact absurd a (pO b)
 |next u =>
  rw[b] at h;simp only at h;refine⟨d9,by cases q:V9 m.name<;>simp_all,d9,d9,Decidable.byContradiction e,d9,fun i g=>iB b i g,fun i g d=>ke (iB b i g) d,?_⟩;cases d:Go.Proofs.YtibjcppjfkamhaaGreatDoor.bO m N (AG m.code.length (-1)) [(0,0)] with
  |none=>rw[d] at h;cases h
  |some o =>
   rw[d] at h;cases o with
   |ret r=>cases h;exact absurd a (pk m _ _ _ _ d)
   |next p=>exact⟨p,rfl⟩
def mU (N:Nat) (w:Wd) (c:Int) (m:Me) (g:4194304<=N):∃f,al N w c m=some f:=by
 unfold al
 (repeat' split)<;>first|exact⟨_,rfl⟩|skip
 rename_i e _ _ b;obtain⟨o,a⟩:=nY m (fun i d a=>ke (iB b i d) a) N (AG m.code.length (-1)) [(0,0)] o5 wh (by rw[nH];simp;omega);rw[a];exact⟨_,rfl⟩
theorem oz (N:Nat) (w:Wd) (c:Int) (m:Me) (a:∀i,Z8 N w c m i=some (cq w c m i)):∀(l:List Ins) (k:Nat),R3 N w c m l k=some (de w c m l k)
 |[],k=>rfl
 |x::l,k=>by
  rw[R3,de,a x];simp only[A0];by_cases h:cq w c m x=0
  ·simp only[h,Ai,AI,Af,if_true];exact oz N w c m a l (k+1)
  ·simp only[h,Aj,AN,Ae,if_false]
def tD (N:Nat) (w:Wd) (c:Int) (m:Me) (q:1048578<=N) (y:w.a7.length<=1048576) (p:0<=F3 w c/\F3 w c<=1000000000):kP N w c m=al N w c m:=by
 unfold kP al;simp only[mJ,A0];by_cases a:c<0
 ·simp[a]
 by_cases d:(w.a7.length:Int)<=c
 ·simp[a,d]
 cases z:V9 m.name with
 |false=>simp[a,d]
 |true =>
  by_cases f:m.args<0
  ·simp[a,d,f]
  by_cases g:4<m.args
  ·simp[a,d,f,g]
  by_cases h:m.aJ<0
  ·simp[a,d,f,g,h]
  by_cases k:6<m.aJ
  ·simp[a,d,f,g,h,k]
  by_cases l:m.aO=0
  ·by_cases n:m.code.length<1
   ·have e:(m.code.length:Int)=0:=d9;simp only[a,d,f,g,h,k,l,n,e,Ai,Aj,Ae,Af,A0,or_self,if_false,AI,AN,or_true,true_or,if_true,ne_eq,not_true,not_false_eq_true,Bool.true_eq_false]
   ·have e:¬(m.code.length:Int)=0:=d9;by_cases j:60<m.code.length
    ·have b:(60:Int)<(m.code.length:Int):=d9;simp only[a,d,f,g,h,k,l,n,e,j,b,Ai,Aj,Ae,Af,A0,or_self,if_false,AI,AN,or_true,true_or,if_true,ne_eq,not_true,not_false_eq_true,Bool.true_eq_false]
    ·have b:¬(60:Int)<(m.code.length:Int):=d9;have v:∀i,Z8 N w c m i=some (cq w c m i):=fun i=>ss N w c m i q y d9 d9 d9 p d9;simp only[a,d,f,g,h,k,l,n,e,j,b,Ai,Aj,Af,A0,or_self,if_false,AI,ne_eq,not_true,Bool.true_eq_false,oz N w c m v];cases s:de w c m m.code 0 with
     |ret r=>rfl
     |next u =>
      simp only[sx N m (fun i t x=>ke (iB s i t) x) d9];generalize (bO m N (AG m.code.length (-1)) [(0,0)]).map iU=o;cases o<;>rfl
  ·simp[a,d,f,g,h,k,l]
def qJ : ∀(u:Nat) (b:UInt8),b∈Lib.decDigits u->48<=b.toNat/\b.toNat<=57:=by
 intro u
 induction u using Nat.strongRecOn with
 |_ u ih =>
  intro b a;have one:∀d:Nat,d<10->(UInt8.ofNat (48+d)).toNat=48+d:=fun d hd=>bG;rw[Lib.decDigits] at a;split at a
  ·simp only[List.mem_singleton] at a;subst a;rw[one u (by assumption)];omega
  ·rcases AT.1 a with a|a
   ·exact ih (u / 10) d9 b a
   ·simp only[List.mem_singleton] at a;subst a;rw[one (u % 10) d9];omega
def mS (u:Nat):Lib.decDigits u≠[]:=by
 rw[Lib.decDigits];split<;>simp
def tH : ∀(u:Nat),u<18446744073709551616->∀r,Lib.parseUint10 0 (Lib.decDigits u++r)=Lib.parseUint10 u r:=by
 intro u
 induction u using Nat.strongRecOn with
 |_ u ih =>
  intro a r;have one:∀d:Nat,d<10->(UInt8.ofNat (48+d)).toNat=48+d:=fun d hd=>bG;rw[Lib.decDigits];split
  ·rename_i h;simp only[List.cons_append,List.nil_append,Lib.parseUint10,one u h];rw[Ah d9,Ag d9,Ag d9];congr 1;omega
  ·rename_i h;rw[AK,ih (u / 10) d9 d9];simp only[List.cons_append,List.nil_append,Lib.parseUint10,one (u % 10) d9];rw[Ah d9,Ag d9,Ag d9];congr 1;omega
def pA {u:Nat} (a:u<18446744073709551616):Lib.parseMag (Lib.decDigits u)=.ok u:=by
 unfold Lib.parseMag;rw[Ag (mS u)];have:=tH u a [];simpa[Lib.parseUint10] using this
def ur {n:Int} (d:D8 n):Lib.atoiAll (Lib.itoa n)=.ok n:=by
 unfold D8 at d;unfold Lib.itoa;split
 ·rw[Lib.atoiAll_minus,pA d9];simp only[Lib.signed];rw[Ag d9];congr 1;omega
 ·have a:=pA (u:=n.toNat) d9;have b:=qJ n.toNat;cases hd:Lib.decDigits n.toNat with
  |nil=>exact absurd hd (mS _)
  |cons c r =>
   have e:=b c (by rw[hd];simp);rw[hd] at a;rw[Lib.atoiAll_plain c r d9 d9,a];simp only[Lib.signless];rw[Ag d9];congr 1;omega
def qu (n:Int):Lib.itoa n≠[]/\(32:UInt8) ∉ Lib.itoa n:=by
 have key:∀u:Nat,(32:UInt8) ∉ Lib.decDigits u:=fun u h=>by
  have:=qJ u 32 h;have e:(32:UInt8).toNat=32:=rfl;omega
 unfold Lib.itoa;split
 ·refine⟨o5,fun h=>?_⟩;rcases AJ.1 h with h|h
  ·cases h
  ·exact key _ h
 ·exact⟨mS _,key _⟩
abbrev BL := List UInt8
def V8 (s:ByteArray):BL:=s.data.toList++[32]
def bQ (n:Int):BL:=Lib.itoa n++[32]
def N8 (l:List Int):BL:=(l.map bQ).flatten
def bW (i:Ins):BL:=N8 [i.op,i.a]++(if i.op=14 then V8 i.name else[])
def bn (m:Me):BL:=V8 m.name++(N8 [m.args,m.aJ,m.aO,(m.code.length:Int)]++(m.code.map bW).flatten)
def bq (c:Cl):BL:=V8 c.name++(N8 [c.aH,c.aC,(c.aB.length:Int)]++(c.aB.map bn).flatten)
def vT (v:V):BL:=N8 [v.k,v.n]
def bu (o:Ob):BL:=N8 [o.cls,(o.aC.length:Int)]++(o.aC.map vT).flatten
def bh (w:Wd):BL:=N8 [w.aN,(w.a7.length:Int)]++((w.a7.map bq).flatten++(N8 [(w.heap.length:Int)]++(w.heap.map bu).flatten))
def U (t:BL):List Int:=t.map fun b=>(b.toNat:Int)
def fS (a b:BL):U (a++b)=U a++U b:=by simp[U]
def dq (t:BL):(U t).length=t.length:=by simp[U]
def rZ (t:BL):(strOfNums (U t)).data.toList=t:=by
 rw[strOfNums_data,U,List.map_map];have:((fun n:Int=>UInt8.ofNat n.toNat)∘fun b:UInt8=>(b.toNat:Int))=id:=by
  funext b;simp
 rw[this,List.map_id]
theorem nZ (s:ByteArray):V3 s=U s.data.toList:=rfl
def fL {a b:ByteArray} (h:a.data.toList=b.data.toList):a=b:=by
 apply ByteArray.ext;exact Array.toList_inj.1 h
def Z9 (s:ByteArray):s.data.toList.length=s.size:=by rw[Array.length_toList];rfl
def U3 {n:Int} (a:D8 n):(bQ n).length<=22:=by
 have:=Lib.itoa_length_le n a.1 a.2;simp only[bQ,A6,Ad];omega
def ku (N:Nat) (a:List Int) (s:ByteArray) (h:a.length+(V8 s).length<=140737488355328):P5 N a s=some (a++U (V8 s)):=by
 have b:=Z9 s;have c:(V3 s).length=s.size:=by rw[nZ,dq,b]
 simp only[V8,A6,Ad,b] at h;unfold P5 X4 Y8;rw[Nat.ble_eq_true_of_le (show a.length+s.size<=140737488355328 by omega)];simp only[Ae,A0];rw[Nat.ble_eq_true_of_le (show((a++V3 s).length+[(32:Int)].length)*1<=140737488355328 by simp only[A6,c,Ad];omega)];simp only[Ae,A0,V8,fS,nZ];rw[AK];rfl
theorem qA (N:Nat):∀(l:List Int) (k:Nat) (a:List Int),a.length+(N8 l).length<=140737488355328->J6 N l k a=some (a++U (N8 l))
 |[],k,a,_=>by simp[J6,N8,U]
 |n::l,k,a,h=>by
  have e:N8 (n::l)=bQ n++N8 l:=by simp[N8]
  rw[e,A6] at h;have b:V8 ⟨(Lib.itoa n).toArray⟩=bQ n:=rfl;rw[J6];simp only[strconv_Itoa,A0];rw[ku N a _ (by rw[b];omega),b];simp only[A0];rw[qA N l (k+1) _ (by rw[A6,dq];omega),e,fS,AK]
def gT (N:Nat) (a l:List Int) (h:a.length+(N8 l).length<=140737488355328):J3 N a l=some (a++U (N8 l)):=by
 unfold J3;rw[qA N l 0 a h];rfl
theorem iK {b:Type} (tx:b->BL) (L:List b->Nat->List Int->Option (List Int)) (c:∀k a,L [] k a=some a)
  (d:∀x l k a,a.length+(tx x).length<=140737488355328->L (x::l) k a=L l (k+1) (a++U (tx x))):∀(l:List b) (k:Nat) (a:List Int),a.length+(l.map tx).flatten.length<=140737488355328->L l k a=some (a++U (l.map tx).flatten)
 |[],k,a,_=>by simp[c,U]
 |x::l,k,a,h=>by
  simp only[AQ,List.flatten_cons,A6] at h;rw[d x l k a d9,iK tx L c d l (k+1) _ (by rw[A6,dq];omega),AQ,List.flatten_cons,fS,AK]
def sP (N:Nat):∀(l:List Ins) (k:Nat) (a:List Int),a.length+(l.map bW).flatten.length<=140737488355328->G9 N l k a=some (a++U (l.map bW).flatten) :=
 iK bW (G9 N) (fun k a=>rfl) fun i l k a h=>by
  simp only[bW,A6] at h;rw[G9,gT N a _ d9];simp only[A0];by_cases b:i.op=14
  ·rw[Ah b] at h;simp only[b,Ai,Ae];rw[ku N _ _ (by rw[A6,dq];rw[b] at h;omega)];simp only[A0,bW,b,if_true,fS,AK]
  ·simp only[b,Aj,Af,A0,bW,if_false,fS,U,List.map_nil,List.append_nil]
def uR (N:Nat) (a:List Int) (m:Me) (h:a.length+(bn m).length<=140737488355328):k7 N a m=some (a++U (bn m)):=by
 simp only[bn,A6] at h;unfold k7;rw[ku N a _ d9];simp only[A0];rw[gT N _ _ (by rw[A6,dq];omega)];simp only[A0];rw[sP N m.code 0 _ (by simp only[A6,dq];omega)];simp only[A0,bn,fS,AK]
def sZ (N:Nat):∀(l:List Me) (k:Nat) (a:List Int),a.length+(l.map bn).flatten.length<=140737488355328->U8 N l k a=some (a++U (l.map bn).flatten) :=
 iK bn (U8 N) (fun k a=>rfl) fun m l k a h=>by
  rw[U8,uR N a m h];rfl
def sa (N:Nat):∀(l:List Cl) (k:Nat) (a:List Int),a.length+(l.map bq).flatten.length<=140737488355328->U5 N l k a=some (a++U (l.map bq).flatten) :=
 iK bq (U5 N) (fun k a=>rfl) fun c l k a h=>by
  simp only[bq,A6] at h;rw[U5,ku N a _ d9];simp only[A0];rw[gT N _ _ (by rw[A6,dq];omega)];simp only[A0];rw[sZ N c.aB 0 _ (by simp only[A6,dq];omega)];simp only[A0,bq,fS,AK]
def sX (N:Nat):∀(l:List V) (k:Nat) (a:List Int),a.length+(l.map vT).flatten.length<=140737488355328->U7 N l k a=some (a++U (l.map vT).flatten) :=
 iK vT (U7 N) (fun k a=>rfl) fun v l k a h=>by
  rw[U7,gT N a _ h];rfl
def sY (N:Nat):∀(l:List Ob) (k:Nat) (a:List Int),a.length+(l.map bu).flatten.length<=140737488355328->U6 N l k a=some (a++U (l.map bu).flatten) :=
 iK bu (U6 N) (fun k a=>rfl) fun o l k a h=>by
  simp only[bu,A6] at h;rw[U6,gT N a _ d9];simp only[A0];rw[sX N o.aC 0 _ (by rw[A6,dq];omega)];simp only[A0,bu,fS,AK]
def xM (w:Wd):bh w≠[]:=by
 intro h;have:=congrArg List.length h;simp only[bh,N8,AQ,List.flatten_cons,bQ,A6,Ad,List.length_nil] at this;omega
def ve (N:Nat) (w:Wd) (h:(bh w).length<=140737488355328):kZ N w=some (U (bh w)):=by
 have b:=xM w;simp only[bh,A6] at h;unfold kZ;rw[gT N [] _ (by simp only[List.length_nil];omega)];simp only[A0,List.nil_append];rw[sa N w.a7 0 _ (by rw[dq];omega)];simp only[A0];rw[gT N _ _ (by simp only[A6,dq];omega)];simp only[A0];rw[sY N w.heap 0 _ (by simp only[A6,dq];omega)];have e:U (N8 [w.aN,(w.a7.length:Int)])++U (w.a7.map bq).flatten++U (N8 [(w.heap.length:Int)])++U (w.heap.map bu).flatten=U (bh w):=by
  simp only[bh,fS,AK]
 simp only[A0,e];have c:(U (bh w)).isEmpty=false:=by
  cases d:bh w with
  |nil=>exact absurd d b
  |cons a l=>rfl
 rw[c];simp only[AN,Ae,nZ,rZ]
def dd : BL->Option (BL×BL)
 |[]=>none
 |b::r=>if b=32 then some ([],r) else(dd r).map fun p=>(b::p.1,p.2)
def index_one (t:BL):(dd t=none/\Lib.index t [32]=-1)\/∃w r,dd t=some (w,r)/\Lib.index t [32]=(w.length:Int)/\t=w++32::r/\(32:UInt8) ∉ w:=by
 induction t with
 |nil=>exact .inl ⟨rfl,rfl⟩
 |cons b t ih =>
  by_cases a:b=32
  ·subst a;exact .inr ⟨[],t,by simp[dd],by simp[Lib.index],rfl,o5⟩
  ·have g:([32]:BL).isPrefixOf (b::t)=false:=by simp[List.isPrefixOf];exact fun e=>a e.symm
   rcases ih with⟨c,d⟩|⟨w,r,c,d,h,i⟩
   ·exact .inl ⟨by simp[dd,a,c],by simp[Lib.index,g,d]⟩
   ·refine .inr ⟨b::w,r,by simp[dd,a,c],?_,by rw[h];rfl,by simp[i,Ne.symm a]⟩;have f:¬((w.length:Int) == -1)=true:=o5;simp only[Lib.index,g,d,AP];rw[Ag o5,Ag f];omega
def qx {t w r:BL} (h:dd t=some (w,r)):t=w++32::r/\(32:UInt8) ∉ w:=by
 rcases index_one t with⟨a,_⟩|⟨w',d,a,_,b,c⟩
 ·rw[a] at h;cases h
 ·rw[a] at h;cases h;exact⟨b,c⟩
def vx {w:BL} (r:BL) (h:(32:UInt8) ∉ w):dd (w++32::r)=some (w,r):=by
 induction w with
 |nil=>simp[dd]
 |cons b w ih =>
  have a:b≠32:=fun e=>h (by simp[e]);simp[dd,a,ih (fun e=>h (by simp[e]))]
def xU (t:BL):Lib.cut t [32]=match dd t with
  |some (w,r)=>(w,r,true)
  |none=>(t,[],false):=by
 unfold Lib.cut;rcases index_one t with⟨a,b⟩|⟨w,r,a,b,c,d⟩
 ·rw[a,b];rfl
 ·rw[a,b,Ah d9];simp only[Int.toNat_natCast,Ad];subst c;simp
def pw (t:BL):Option (ByteArray×BL):=match dd t with
 |some (w,r)=>if w=[] then none else some (⟨w.toArray⟩,r)
 |none=>none
def ck (s:ByteArray):Prop:=s.data.toList≠[]/\(32:UInt8) ∉ s.data.toList
def iy {t:BL} {s:ByteArray} {r:BL} (h:pw t=some (s,r)):t=V8 s++r/\ck s:=by
 unfold pw at h;split at h
 ·rename_i w e c;split at h
  ·cases h
  ·rename_i d;cases h;obtain⟨a,b⟩:=qx c;exact⟨by rw[a];simp[V8],d,b⟩
 ·cases h
def hF {s:ByteArray} (r:BL) (h:ck s):pw (V8 s++r)=some (s,r):=by
 have e:V8 s++r=s.data.toList++32::r:=by simp[V8]
 unfold pw;rw[e,vx r h.2];simp only[h.1,if_false]
def pn (t:BL):Option (Int×BL):=(pw t).bind fun p=>match Lib.atoiAll p.1.data.toList with
 |.ok n=>if Lib.itoa n=p.1.data.toList then some (n,p.2) else none
 |_=>none
def Z7 {t:BL} {n:Int} {r:BL} (h:pn t=some (n,r)):t=bQ n++r/\D8 n:=by
 unfold pn at h;cases a:pw t with
 |none=>rw[a] at h;cases h
 |some p =>
  rw[a] at h;simp only[A0] at h;split at h
  ·rename_i m c;split at h
   ·rename_i b;cases h;have:=(iy (s:=p.1) (r:=p.2) a).1;exact⟨by rw[this,V8,<-b];rfl,Lib.atoiAll_bounds c⟩
   ·cases h
  ·cases h
def da {n:Int} (r:BL) (h:D8 n):pn (bQ n++r)=some (n,r):=by
 have a:ck ⟨(Lib.itoa n).toArray⟩:=qu n;have e:bQ n=V8 ⟨(Lib.itoa n).toArray⟩:=rfl;unfold pn;rw[e,hF r a];simp only[A0];rw[ur h];simp
def pc (a:Int) (t:BL):Option (Int×BL):=(pn t).bind fun p=>if p.1<0\/a<p.1 then none else some p
def V6 {a:Type} (p:BL->Option (a×BL)):Nat->BL->Option (List a×BL)
 |0,t=>some ([],t)
 |n+1,t=>(p t).bind fun x=>(V6 p n x.2).bind fun l=>some (x.1::l.1,l.2)
def fq (t:BL):Option (Ins×BL):=(pn t).bind fun a=>(pn a.2).bind fun b=>if a.1=14 then(pw b.2).bind fun s=>some (⟨a.1,b.1,0,0,s.1⟩,s.2) else some (⟨a.1,b.1,0,0,AE⟩,b.2)
def gI (t:BL):Option (Me×BL):=(pw t).bind fun s=>(pn s.2).bind fun a=>(pn a.2).bind fun b=>(pn b.2).bind fun c=>(pc 60 c.2).bind fun n=>(V6 fq n.1.toNat n.2).bind fun l=>some (⟨s.1,a.1,b.1,c.1,l.1⟩,l.2)
def gH (t:BL):Option (Cl×BL):=(pw t).bind fun s=>(pn s.2).bind fun a=>(pn a.2).bind fun b=>(pc 8 b.2).bind fun n=>(V6 gI n.1.toNat n.2).bind fun l=>some (⟨s.1,a.1,b.1,l.1⟩,l.2)
def pV (t:BL):Option (V×BL):=(pn t).bind fun a=>(pn a.2).bind fun b=>some (⟨a.1,b.1⟩,b.2)
def gJ (t:BL):Option (Ob×BL):=(pn t).bind fun a=>(pc 6 a.2).bind fun n=>(V6 pV n.1.toNat n.2).bind fun l=>some (⟨a.1,l.1⟩,l.2)
def er (t:BL):Option (Wd×BL):=(pn t).bind fun e=>(pc 12 e.2).bind fun n=>(V6 gH n.1.toNat n.2).bind fun l=>(pc 60 l.2).bind fun m=>(V6 gJ m.1.toNat m.2).bind fun h=>some (⟨l.1,h.1,e.1⟩,h.2)
structure p9 {α:Type} (tx:α->BL) (p:BL->Option (α×BL)) (W:α->Prop):Prop where
 there:∀x r,W x->p (tx x++r)=some (x,r)
 back:∀t x r,p t=some (x,r)->t=tx x++r/\W x
theorem p9.word : p9 V8 pw ck:=⟨fun x r h=>hF r h,fun t x r h=>iy h⟩
theorem p9.num : p9 bQ pn D8:=⟨fun x r h=>da r h,fun t x r h=>Z7 h⟩
theorem p9.count (a:Int):p9 bQ (pc a) fun n=>D8 n/\0<=n/\n<=a:=by
 refine⟨fun n r h=>?_,fun t n r h=>?_⟩
 ·unfold pc;rw[da r h.1];simp only[A0];rw[Ag d9]
 ·unfold pc at h;cases b:pn t with
  |none=>rw[b] at h;cases h
  |some p =>
   rw[b] at h;simp only[A0] at h;split at h
   ·cases h
   ·cases h;obtain⟨c,d⟩:=Z7 b;exact⟨c,d,d9,d9⟩
theorem p9.rep {c:Type} {tx:c->BL} {p:BL->Option (c×BL)} {W:c->Prop} (h:p9 tx p W):∀n:Nat,p9 (fun l=>(l.map tx).flatten) (V6 p n) fun l=>l.length=n/\∀x∈l,W x
 |0=>⟨fun l r a=>by
   have:l=[]:=AX a.1;subst this;rfl,fun t l r a=>by cases a;exact⟨rfl,rfl,o5⟩⟩
 |n+1=>by
  have ih:=p9.rep h n;refine⟨fun l r a=>?_,fun t l r a=>?_⟩
  ·cases l with
   |nil=>simp at a
   |cons x l =>
    simp only[AQ,List.flatten_cons,AK,V6];rw[h.there x _ (a.2 x o5)];simp only[A0];rw[ih.there l r ⟨by simpa using a.1,fun y b=>a.2 y (by simp[b])⟩];rfl
  ·simp only[V6,Option.bind_eq_some_iff] at a;obtain⟨x,o,m,k,e⟩:=a;cases e;obtain⟨d,f⟩:=h.back t x.1 x.2 o;obtain⟨g,i,j⟩:=ih.back x.2 m.1 m.2 k;refine⟨by rw[d,g];simp,by simp[i],fun y b=>?_⟩;rcases AJ.1 b with rfl|b
   ·exact f
   ·exact j y b
def oO (i:Ins):Prop:=D8 i.op/\D8 i.a/\i.b=0/\i.c=0/\(i.op=14->ck i.name)/\(i.op≠14->i.name=AE)
def od (m:Me):Prop:=ck m.name/\D8 m.args/\D8 m.aJ/\D8 m.aO/\m.code.length<=60/\∀i∈m.code,oO i
def oe (c:Cl):Prop:=ck c.name/\D8 c.aH/\D8 c.aC/\c.aB.length<=8/\∀m∈c.aB,od m
def ot (v:V):Prop:=D8 v.k/\D8 v.n
def rm (o:Ob):Prop:=D8 o.cls/\o.aC.length<=6/\∀v∈o.aC,ot v
def ia (w:Wd):Prop:=D8 w.aN/\w.a7.length<=12/\w.heap.length<=60/\(∀c∈w.a7,oe c)/\∀o∈w.heap,rm o
def dc (a b:Int):N8 [a,b]=bQ a++bQ b:=by simp[N8]
def oT (a b c:Int):N8 [a,b,c]=bQ a++(bQ b++bQ c):=by simp[N8]
def oJ (a b c d:Int):N8 [a,b,c,d]=bQ a++(bQ b++(bQ c++bQ d)):=by simp[N8]
def oP (a:Int):N8 [a]=bQ a:=by simp[N8]
def j7 {n:Nat} {m:Int} (h:(n:Int)<=m) (a:m<=1000):D8 (n:Int)/\(0:Int)<=(n:Int)/\(n:Int)<=m:=ino
theorem p9.ins : p9 bW fq oO:=by
 refine⟨fun i r h=>?_,fun t i r h=>?_⟩
 ·obtain⟨l,m,o,p,q,u⟩:=h;obtain⟨op,a,b,c,nm⟩:=i;simp only at l m o p q u;subst o p;unfold bW fq;simp only[dc,AK];rw[da _ l];simp only[A0];rw[da _ m];simp only[A0];by_cases d:op=14
  ·subst d;simp only[if_true];rw[hF r (q rfl)];rfl
  ·simp only[d,if_false,u d,List.nil_append]
 ·unfold fq at h;simp only[Option.bind_eq_some_iff] at h;obtain⟨a,v,b,w,h⟩:=h;obtain⟨f,g⟩:=Z7 (n:=a.1) (r:=a.2) v;obtain⟨j,k⟩:=Z7 (n:=b.1) (r:=b.2) w;split at h
  ·rename_i d;simp only[Option.bind_eq_some_iff] at h;obtain⟨s,x,e⟩:=h;cases e;obtain⟨y,z⟩:=iy (s:=s.1) (r:=s.2) x;refine⟨?_,g,k,rfl,rfl,fun _=>z,fun h=>absurd d h⟩;rw[f,j,y];simp only[bW,dc,d,if_true,AK]
  ·rename_i d;cases h;refine⟨?_,g,k,rfl,rfl,fun h=>absurd h d,fun _=>rfl⟩;rw[f,j];simp only[bW,dc,d,if_false,AK,List.nil_append]
theorem p9.me : p9 bn gI od:=by
 refine⟨fun m r h=>?_,fun t m r h=>?_⟩
 ·obtain⟨o,p,q,u,H,v⟩:=h;unfold bn gI;simp only[oJ,AK];rw[hF _ o];simp only[A0];rw[da _ p];simp only[A0];rw[da _ q];simp only[A0];rw[da _ u];simp only[A0];rw[(p9.count 60).there _ _ (j7 d9 G7)];simp only[A0,Int.toNat_natCast];rw[(p9.rep p9.ins m.code.length).there m.code r ⟨rfl,v⟩];rfl
 ·unfold gI at h;simp only[Option.bind_eq_some_iff] at h;obtain⟨s,B,a,w,b,x,c,y,n,A,l,z,e⟩:=h;cases e;obtain⟨F,G⟩:=iy (s:=s.1) (r:=s.2) B;obtain⟨d,f⟩:=Z7 (n:=a.1) (r:=a.2) w;obtain⟨g,i⟩:=Z7 (n:=b.1) (r:=b.2) x;obtain⟨j,k⟩:=Z7 (n:=c.1) (r:=c.2) y;obtain⟨E,I,J,K⟩:=(p9.count 60).back _ n.1 n.2 A;obtain⟨C,l2,D⟩:=(p9.rep p9.ins n.1.toNat).back _ l.1 l.2 z;refine⟨?_,G,f,i,k,by show l.1.length<=60;omega,D⟩;have e:((l.1.length:Nat):Int)=n.1:=d9;simp only[bn,oJ,e,AK];rw[F,d,g,j,E,C]
theorem p9.cl : p9 bq gH oe:=by
 refine⟨fun m r h=>?_,fun t m r h=>?_⟩
 ·obtain⟨i,j,k,C,o⟩:=h;unfold bq gH;simp only[oT,AK];rw[hF _ i];simp only[A0];rw[da _ j];simp only[A0];rw[da _ k];simp only[A0];rw[(p9.count 8).there _ _ (j7 d9 G7)];simp only[A0,Int.toNat_natCast];rw[(p9.rep p9.me m.aB.length).there m.aB r ⟨rfl,o⟩];rfl
 ·unfold gH at h;simp only[Option.bind_eq_some_iff] at h;obtain⟨s,w,a,p,b,q,n,v,l,u,e⟩:=h;cases e;obtain⟨A,B⟩:=iy (s:=s.1) (r:=s.2) w;obtain⟨c,d⟩:=Z7 (n:=a.1) (r:=a.2) p;obtain⟨f,g⟩:=Z7 (n:=b.1) (r:=b.2) q;obtain⟨z,D,E,F⟩:=(p9.count 8).back _ n.1 n.2 v;obtain⟨x,l2,y⟩:=(p9.rep p9.me n.1.toNat).back _ l.1 l.2 u;refine⟨?_,B,d,g,by show l.1.length<=8;omega,y⟩;have e:((l.1.length:Nat):Int)=n.1:=d9;simp only[bq,oT,e,AK];rw[A,c,f,z,x]
theorem p9.v : p9 vT pV ot:=by
 refine⟨fun v r h=>?_,fun t v r h=>?_⟩
 ·unfold vT pV;simp only[dc,AK];rw[da _ h.1];simp only[A0];rw[da _ h.2];rfl
 ·unfold pV at h;simp only[Option.bind_eq_some_iff] at h;obtain⟨a,i,b,j,e⟩:=h;cases e;obtain⟨c,d⟩:=Z7 (n:=a.1) (r:=a.2) i;obtain⟨f,g⟩:=Z7 (n:=b.1) (r:=b.2) j;refine⟨?_,d,g⟩;simp only[vT,dc,AK];rw[c,f]
theorem p9.ob : p9 bu gJ rm:=by
 refine⟨fun m r h=>?_,fun t m r h=>?_⟩
 ·obtain⟨d,q,f⟩:=h;unfold bu gJ;simp only[dc,AK];rw[da _ d];simp only[A0];rw[(p9.count 6).there _ _ (j7 d9 G7)];simp only[A0,Int.toNat_natCast];rw[(p9.rep p9.v m.aC.length).there m.aC r ⟨rfl,f⟩];rfl
 ·unfold gJ at h;simp only[Option.bind_eq_some_iff] at h;obtain⟨a,g,n,j,l,i,e⟩:=h;cases e;obtain⟨b,c⟩:=Z7 (n:=a.1) (r:=a.2) g;obtain⟨p,s,u,w⟩:=(p9.count 6).back _ n.1 n.2 j;obtain⟨k,l2,o⟩:=(p9.rep p9.v n.1.toNat).back _ l.1 l.2 i;refine⟨?_,c,by show l.1.length<=6;omega,o⟩;have e:((l.1.length:Nat):Int)=n.1:=d9;simp only[bu,dc,e,AK];rw[b,p,k]
theorem p9.wo : p9 bh er ia:=by
 refine⟨fun m r h=>?_,fun t m r h=>?_⟩
 ·obtain⟨f,B,C,g,i⟩:=h;unfold bh er;simp only[dc,oP,AK];rw[da _ f];simp only[A0];rw[(p9.count 12).there _ _ (j7 d9 G7)];simp only[A0,Int.toNat_natCast];rw[(p9.rep p9.cl m.a7.length).there m.a7 _ ⟨rfl,g⟩];simp only[A0];rw[(p9.count 60).there _ _ (j7 d9 G7)];simp only[A0,Int.toNat_natCast];rw[(p9.rep p9.ob m.heap.length).there m.heap r ⟨rfl,i⟩];rfl
 ·unfold er at h;simp only[Option.bind_eq_some_iff] at h;obtain⟨a,j,n,s,l,q,k,p,o,u,e⟩:=h;cases e;obtain⟨b,c⟩:=Z7 (n:=a.1) (r:=a.2) j;obtain⟨y,G,H,I⟩:=(p9.count 12).back _ n.1 n.2 s;obtain⟨w,l2,x⟩:=(p9.rep p9.cl n.1.toNat).back _ l.1 l.2 q;obtain⟨v,D,E,F⟩:=(p9.count 60).back _ k.1 k.2 p;obtain⟨z,J,A⟩:=(p9.rep p9.ob k.1.toNat).back _ o.1 o.2 u;refine⟨?_,c,by show l.1.length<=12;omega,by show o.1.length<=60;omega,x,A⟩;have e:((l.1.length:Nat):Int)=n.1:=d9;have d:((o.1.length:Nat):Int)=k.1:=d9;simp only[bh,dc,oP,e,d,AK];rw[b,y,w,v,z]
def o8 {α:Type} (f:l9->Option (α×l9)) (p:BL->Option (α×BL)) (A:α->Prop):Prop :=
 ∀r:l9,r.s.size<4294967281->∃a b,f r=some (a,b)/\A a/\b.s.size<=r.s.size/\(r.cH=false->b.cH=false) /\
  (r.cH=true->match p r.s.data.toList with
   |some (x,t)=>a=x/\b.cH=true/\b.s.data.toList=t
   |none=>b.cH=false)
section
variable {α β:Type}
theorem o8.pure {a:α} {A:α->Prop} (h:A a):o8 (fun r=>some (a,r)) (fun t=>some (a,t)) A :=
 fun r _=>⟨a,r,rfl,h,AA _,fun h=>h,fun h=>⟨rfl,h,rfl⟩⟩
theorem o8.bind {f:l9->Option (α×l9)} {p:BL->Option (α×BL)} {A:α->Prop} (u:o8 f p A) {k:α×l9->Option (β×l9)} {q:α×BL->Option (β×BL)} {B:β->Prop}
  (v:∀a,A a->o8 (fun r=>k (a,r)) (fun t=>q (a,t)) B):o8 (fun r=>(f r).bind k) (fun t=>(p t).bind q) B:=by
 intro r w;obtain⟨a,y,l,m,D,n,c⟩:=u r w;obtain⟨b,z,g,i,C,d,j⟩:=v a m y d9;refine⟨b,z,by simp only[l,A0,g],i,d9,fun h=>d (n h),fun h=>?_⟩;have c:=c h;dsimp only;cases e:p r.s.data.toList with
 |none =>
  rw[e] at c;exact d c
 |some x =>
  rw[e] at c;obtain⟨x,t⟩:=x;obtain⟨rfl,o,rfl⟩:=c;exact j o
theorem o8.az {L:l9->Option (l9×α)} {p:BL->Option (α×BL)} {A:α->Prop} (f:o8 (fun r=>(L r).map fun y=>(y.2,y.1)) p A) {k:l9×α->Option (β×l9)} {q:α×BL->Option (β×BL)} {B:β->Prop}
  (h:∀a,A a->o8 (fun r=>k (r,a)) (fun t=>q (a,t)) B):o8 (fun r=>(L r).bind k) (fun t=>(p t).bind q) B:=by
 have:=o8.bind f (k:=fun y=>k (y.2,y.1)) h;intro r i;obtain⟨b,c,d,g⟩:=this r i;refine⟨b,c,?_,g⟩;have e:((L r).map fun y=>(y.2,y.1)).bind (fun y=>k (y.2,y.1))=some (b,c):=d;show(L r).bind k=some (b,c);rw[<-e];cases L r<;>rfl
theorem o8.loop {p:BL->Option (α×BL)} {step:l9->Option (α×l9)} (q:o8 step p fun _=>True) {L:Nat->Nat->l9->List α->Option (l9×List α)} (o:∀k r l,L 0 k r l=some (r,l))
  (u:∀n k r l,l.length<=1000->L (n+1) k r l=(step r).bind fun y=>L n (k+1) y.2 (l++[y.1])) :
  ∀(n k:Nat) (l:List α),l.length+n<=1000->o8 (fun r=>(L n k r l).map fun y=>(y.2,y.1)) (fun t=>(V6 p n t).map fun y=>(l++y.1,y.2)) fun _=>True
 |0,k,l,_=>fun r e=>⟨l,r,by simp[o],trivial,AA _,fun h=>h,fun h=>by simp[V6,h]⟩
 |n+1,k,l,E=>by
  intro r e;obtain⟨a,i,v,C,D,w,d⟩:=q r e;obtain⟨b,j,g,A,B,m,c⟩:=o8.loop q o u n (k+1) (l++[a]) bG i d9;have g:(L n (k+1) i (l++[a])).map (fun y=>(y.2,y.1))=some (b,j):=g;refine⟨b,j,?_,trivial,d9,fun h=>m (w h),fun h=>?_⟩
  ·show(L (n+1) k r l).map (fun y=>(y.2,y.1))=some (b,j);rw[u n k r l d9,v,<-g];rfl
  have d:=d h;dsimp only;cases f:p r.s.data.toList with
  |none =>
   rw[f] at d;simp only[V6,f,Option.bind_none,Option.map_none];exact m d
  |some x =>
   rw[f] at d;obtain⟨x,t⟩:=x;obtain⟨rfl,z,rfl⟩:=d;have c:=c z;dsimp only at c;simp only[V6,f,A0];cases e:V6 p n i.s.data.toList with
   |none=>rw[e] at c;exact c
   |some y =>
    rw[e] at c;simp only[Ab,AK,List.singleton_append] at c;exact c
theorem o8.rep {p:BL->Option (α×BL)} {step:l9->Option (α×l9)} (c:o8 step p fun _=>True) {L:Nat->Nat->l9->List α->Option (l9×List α)} (a:∀k r l,L 0 k r l=some (r,l))
  (d:∀n k r l,l.length<=1000->L (n+1) k r l=(step r).bind fun y=>L n (k+1) y.2 (l++[y.1])) (n:Nat) (b:n<=1000):o8 (fun r=>(L n 0 r []).map fun y=>(y.2,y.1)) (V6 p n) fun _=>True:=by
 have:=o8.loop c a d n 0 [] (by simpa using b);have e:(fun t=>(V6 p n t).map fun y=>(([]:List α)++y.1,y.2))=V6 p n:=by
  funext t;cases V6 p n t<;>rfl
 rwa [e] at this
end
theorem o8.word (N:Nat):o8 (G8 N) pw fun w=>w.size<4294967281:=by
 intro r i;obtain⟨s,o⟩:=r;simp only at i;have m:=Z9 s;have c:=xU s.data.toList;unfold G8 strings_Cut;have d:(⟨#[32]⟩:ByteArray).data.toList=[32]:=rfl;rw[Al (show(s.size<4294967281) from i),d];simp only[Ae,A0];cases a:dd s.data.toList with
 |none =>
  rw[a] at c;rw[c];simp only[AN,Ae,A0];refine⟨_,_,rfl,by show 0<_;omega,AA _,fun _=>rfl,fun h=>?_⟩;simp[pw,a]
 |some y =>
  obtain⟨w,t⟩:=y;rw[a] at c;obtain⟨j,l⟩:=qx a;have k:=congrArg List.length j;simp only[A6,AP] at k;rw[c];simp only[AI,Af,A0];by_cases g:w=[]
  ·subst g;have:(⟨([]:BL).toArray⟩:ByteArray)=⟨#[]⟩:=rfl;rw[this];simp only[Ai,Ae];refine⟨_,_,rfl,by show 0<_;omega,AA _,fun _=>rfl,fun h=>?_⟩;simp[pw,a]
  ·have f:¬(⟨w.toArray⟩:ByteArray)=⟨#[]⟩:=fun e=>g (by
    have:=congrArg (fun b:ByteArray=>b.data.toList) e;simpa using this)
   rw[Ak f];simp only[Af];refine⟨_,_,rfl,?_,?_,fun h=>h,fun h=>?_⟩
   ·show w.toArray.size<_;rw[List.size_toArray];omega
   ·show t.toArray.size<=s.size;rw[List.size_toArray];omega
   ·simp[pw,a,g,h]
theorem o8.num (N:Nat):o8 (j6 N) pn fun _=>True:=by
 unfold j6 pn;refine o8.bind (o8.word N) fun w d=>?_;intro r c;obtain⟨s,o⟩:=r;simp only;have f:=Z9 w;unfold strconv_Atoi strconv_Itoa;rw[Al (show(w.size<=281474976710656) by omega)];simp only[Ae,A0];cases b:Lib.atoiAll w.data.toList with
 |ok n =>
  simp only[AI,Af,A0];by_cases a:Lib.itoa n=w.data.toList
  ·have e:(⟨(Lib.itoa n).toArray⟩:ByteArray)=w:=fL a;rw[Al e];simp only[AI,Af,A0];exact⟨_,_,rfl,trivial,AA _,fun h=>h,fun h=>by simp[a,h]⟩
  ·have e:¬(⟨(Lib.itoa n).toArray⟩:ByteArray)=w:=fun e=>a (by rw[<-e]);rw[Ak e];simp only[AN,Ae,A0];exact⟨_,_,rfl,trivial,AA _,fun _=>rfl,fun _=>by simp[a]⟩
 |_ =>
  simp only[AN,Ae,A0];exact⟨_,_,rfl,trivial,AA _,fun _=>rfl,fun _=>rfl⟩
theorem o8.count (N:Nat) (a:Int) (d:0<=a):o8 (fun r=>D9 N r a) (pc a) fun n=>0<=n/\n<=a:=by
 unfold D9 pc;refine o8.bind (o8.num N) fun n _=>?_;intro r e;obtain⟨s,o⟩:=r;simp only;by_cases b:n<0
 ·simp only[b,Ai,Ae,A0];exact⟨_,_,rfl,⟨Int.le_refl _,d⟩,AA _,fun _=>rfl,fun _=>by simp[b]⟩
 ·by_cases c:a<n
  ·simp only[b,c,Ai,Aj,Ae,Af,A0];exact⟨_,_,rfl,⟨Int.le_refl _,d⟩,AA _,fun _=>rfl,fun _=>by simp[c]⟩
  ·simp only[b,c,Aj,Af,A0];exact⟨_,_,rfl,⟨d9,d9⟩,AA _,fun h=>h,fun h=>by simp[b,c,h]⟩
def fw (a:Int):(a-((0:Nat):Int)).toNat=a.toNat:=o5
def dp {α:Type} {l:List α} {x:α} {B:Nat} (h:l.length<=1000) (a:B<=1000):AD ((l.length+[x].length)*B) 140737488355328=true:=by
 refine Nat.ble_eq_true_of_le ?_;have:(l.length+[x].length)*B<=1001*1000:=Nat.mul_le_mul (by simp only[Ad];omega) a;omega
def lK (N:Nat) (r:l9):Option (Ins×l9):=(j6 N r).bind fun a=>(j6 N a.2).bind fun b=>bif decide (a.1=14) then(G8 N b.2).bind fun s=>some (⟨a.1,b.1,0,0,s.1⟩,s.2) else some (⟨a.1,b.1,0,0,AE⟩,b.2)
theorem o8.ins (N:Nat):o8 (lK N) fq fun _=>True:=by
 unfold lK fq;refine o8.bind (o8.num N) fun a _=>?_;dsimp only;by_cases h:a=14
 ·simp only[h,Ai,Ae,if_true];refine o8.bind (o8.num N) fun b _=>?_;dsimp only;exact o8.bind (o8.word N) fun s _=>by dsimp only;exact o8.pure trivial
 ·simp only[h,Aj,Af,if_false];exact o8.bind (o8.num N) fun b _=>by dsimp only;exact o8.pure trivial
def tZ (N:Nat) (n k:Nat) (r:l9) (l:List Ins) (c:l.length<=1000):E9 N (n+1) k r l=(lK N r).bind fun y=>E9 N n (k+1) y.2 (l++[y.1]):=by
 rw[E9];unfold lK;cases e:j6 N r with
 |none=>rfl
 |some a =>
  simp only[A0];cases f:j6 N a.2 with
  |none=>rfl
  |some b =>
   simp only[A0];by_cases d:a.1=14
   ·simp only[d,Ai,Ae];cases g:G8 N b.2 with
    |none=>rfl
    |some s=>simp only[A0,dp c (show 48<=1000 by decide),Ae]
   ·simp only[d,Aj,Af,A0,dp c (show 48<=1000 by decide),Ae]
theorem o8.me (N:Nat):o8 (Q5 N) gI fun _=>True:=by
 unfold Q5 gI;refine o8.bind (o8.word N) fun w _=>?_;dsimp only;refine o8.bind (o8.num N) fun a _=>?_;dsimp only;refine o8.bind (o8.num N) fun b _=>?_;dsimp only;refine o8.bind (o8.num N) fun c _=>?_;dsimp only;refine o8.bind (o8.count N 60 G7) fun n d=>?_;dsimp only;simp only[fw];exact o8.az (o8.rep (o8.ins N) (L:=E9 N) (fun k r l=>rfl) (tZ N) n.toNat d9) fun l _=>by dsimp only;exact o8.pure trivial
def tf (N:Nat) (n k:Nat) (r:l9) (l:List Me) (b:l.length<=1000):x9 N (n+1) k r l=(Q5 N r).bind fun y=>x9 N n (k+1) y.2 (l++[y.1]):=by
 rw[x9];cases c:Q5 N r with
 |none=>rfl
 |some a=>simp only[A0,dp b (show 64<=1000 by decide),Ae]
def lS (N:Nat) (r:l9):Option (Cl×l9):=(G8 N r).bind fun s=>(j6 N s.2).bind fun a=>(j6 N a.2).bind fun b=>(D9 N b.2 8).bind fun n=>(x9 N n.1.toNat 0 n.2 []).bind fun l=>some (⟨s.1,a.1,b.1,l.2⟩,l.1)
theorem o8.cl (N:Nat):o8 (lS N) gH fun _=>True:=by
 unfold lS gH;refine o8.bind (o8.word N) fun w _=>?_;dsimp only;refine o8.bind (o8.num N) fun a _=>?_;dsimp only;refine o8.bind (o8.num N) fun b _=>?_;dsimp only;refine o8.bind (o8.count N 8 G7) fun n c=>?_;dsimp only;exact o8.az (o8.rep (o8.me N) (L:=x9 N) (fun k r l=>rfl) (tf N) n.toNat d9) fun l _=>by dsimp only;exact o8.pure trivial
def u5 (N:Nat) (n k:Nat) (r:l9) (l:List Cl) (e:l.length<=1000):F6 N (n+1) k r l=(lS N r).bind fun y=>F6 N n (k+1) y.2 (l++[y.1]):=by
 rw[F6];unfold lS;cases f:G8 N r with
 |none=>rfl
 |some s =>
  simp only[A0];cases g:j6 N s.2 with
  |none=>rfl
  |some a =>
   simp only[A0];cases h:j6 N a.2 with
   |none=>rfl
   |some b =>
    simp only[A0];cases i:D9 N b.2 8 with
    |none=>rfl
    |some c =>
     simp only[A0,fw];cases j:x9 N c.1.toNat 0 c.2 [] with
     |none=>rfl
     |some d=>simp only[A0,dp e (show 56<=1000 by decide),Ae]
def lj (N:Nat) (r:l9):Option (V×l9):=(j6 N r).bind fun a=>(j6 N a.2).bind fun b=>some (⟨a.1,b.1⟩,b.2)
theorem o8.v (N:Nat):o8 (lj N) pV fun _=>True:=by
 unfold lj pV;refine o8.bind (o8.num N) fun a _=>?_;dsimp only;exact o8.bind (o8.num N) fun b _=>by dsimp only;exact o8.pure trivial
def tm (N:Nat) (n k:Nat) (r:l9) (l:List V) (c:l.length<=1000):y8 N (n+1) k r l=(lj N r).bind fun y=>y8 N n (k+1) y.2 (l++[y.1]):=by
 rw[y8];unfold lj;cases d:j6 N r with
 |none=>rfl
 |some a =>
  simp only[A0];cases e:j6 N a.2 with
  |none=>rfl
  |some b=>simp only[A0,dp c (show 16<=1000 by decide),Ae]
def lU (N:Nat) (r:l9):Option (Ob×l9):=(j6 N r).bind fun a=>(D9 N a.2 6).bind fun n=>(y8 N n.1.toNat 0 n.2 []).bind fun l=>some (⟨a.1,l.2⟩,l.1)
theorem o8.ob (N:Nat):o8 (lU N) gJ fun _=>True:=by
 unfold lU gJ;refine o8.bind (o8.num N) fun a _=>?_;dsimp only;refine o8.bind (o8.count N 6 G7) fun n b=>?_;dsimp only;exact o8.az (o8.rep (o8.v N) (L:=y8 N) (fun k r l=>rfl) (tm N) n.toNat d9) fun l _=>by dsimp only;exact o8.pure trivial
def tj (N:Nat) (n k:Nat) (r:l9) (l:List Ob) (c:l.length<=1000):F5 N (n+1) k r l=(lU N r).bind fun y=>F5 N n (k+1) y.2 (l++[y.1]):=by
 rw[F5];unfold lU;cases e:j6 N r with
 |none=>rfl
 |some a =>
  simp only[A0];cases f:D9 N a.2 6 with
  |none=>rfl
  |some b =>
   simp only[A0,fw];cases g:y8 N b.1.toNat 0 b.2 [] with
   |none=>rfl
   |some d=>simp only[A0,dp c (show 32<=1000 by decide),Ae]
theorem o8.wo (N:Nat):o8 (k9 N) er fun _=>True:=by
 unfold k9 er;refine o8.bind (o8.num N) fun e _=>?_;dsimp only;refine o8.bind (o8.count N 12 G7) fun n b=>?_;dsimp only;simp only[fw];refine o8.az (o8.rep (o8.cl N) (L:=F6 N) (fun k r l=>rfl) (u5 N) n.toNat d9) fun l _=>?_;dsimp only;refine o8.bind (o8.count N 60 G7) fun m a=>?_;dsimp only;exact o8.az (o8.rep (o8.ob N) (L:=F5 N) (fun k r l=>rfl) (tj N) m.toNat d9) fun l _=>by dsimp only;exact o8.pure trivial
def fD (t:BL):Option Wd:=match er t with
 |some (w,[])=>some w
 |_=>none
def r5 {t:BL} {w:Wd} (h:fD t=some w):t=bh w/\ia w:=by
 unfold fD at h;split at h
 ·rename_i w' a;cases h;have:=p9.wo.back t w [] a;simpa using this
 ·cases h
def vf (N:Nat) (b:List Int) (i:b.length<4294967281):kV N b=match fD (strOfNums b).data.toList with
  |none=>some (⟨[],[],0⟩,2)
  |some w=>(hZ N w).bind fun r=>bif (!decide (r=0)) then some (⟨[],[],0⟩,r) else some (w,0):=by
 unfold kV;obtain⟨w,r,g,_,_,_,c⟩:=o8.wo N ⟨strOfNums b,true⟩ (by rw[strOfNums_size];exact i);have c:=c rfl;rw[g];simp only[A0];simp only at c;unfold fD;cases f:er (strOfNums b).data.toList with
 |none =>
  rw[f] at c;simp only[c,AN,Ae,A0]
 |some x =>
  obtain⟨x,t⟩:=x;rw[f] at c;obtain⟨rfl,h,d⟩:=c;simp only[h,AI,Af,A0];cases t with
  |nil =>
   have:r.s=⟨#[]⟩:=fL d;simp only[this,Ai,AI,Af]
  |cons a t =>
   have:¬r.s=⟨#[]⟩:=fun e=>by rw[e] at d;cases d
   simp only[this,Aj,AN,Ae]
def eL (a:List Cl) (s:ByteArray):Bool:=a.any fun d=>decide (d.name=s)
def jZ (k:Nat) (c:Cl):Bool:=match O5.a7[k]? with
 |some f=>!decide (c.name=f.name)
 |none=>false
def iY (k:Nat) (c:Cl):Bool:=(match O5.a7[k]? with
 |some f=>!decide (c.aH=f.aH) || !decide (c.aC=0)
 |none=>decide (c.aH<0) || (decide ((k:Int)<=c.aH) || (!decide (c.aH=0) && decide (c.aH<4)))) || (decide (c.aC<0) || decide (6<c.aC))
def fO (a:List Cl) (k:Nat) (c:Cl):Int:=bif !V9 c.name || (eL a c.name || jZ k c) then 7 else bif iY k c then 3 else 0
def eD (w:Wd):List Cl->Nat->F8 Int Unit
 |[],_=>.next ()
 |c::l,k=>bif decide (fO (w.a7.take k) k c=0) then eD w l (k+1) else .ret (fO (w.a7.take k) k c)
def fU (k:Nat) (m:Me):Bool:=decide (k=3) && (M6.any (fun p=>decide (p.name=m.name) && decide (p.aO=m.aO)) && (decide (m.args=1) && (decide (m.aJ=0) && decide (m.code=[]))))
def fQ (p:Option Me) (m:Me):Bool:=match p with
 |some q=>!V7 q.name m.name
 |none=>false
def fo (N:Nat) (w:Wd) (k:Nat) (p:Option Me) (m:Me):Option Int:=bif fQ p m then some 7 else bif fU k m then some 0 else(al N w (k:Int) m).map (·.err)
def eG (N:Nat) (w:Wd) (k:Nat) (a:List Me):List Me->Nat->Option (F8 Int Unit)
 |[],_=>some (.next ())
 |m::l,j=>(fo N w k (if j=0 then none else a[j-1]?) m).bind fun e=>bif decide (e=0) then eG N w k a l (j+1) else some (.ret e)
def ed (N:Nat) (w:Wd):List Cl->Nat->Option (F8 Int Unit)
 |[],_=>some (.next ())
 |c::l,k=>bif decide (6<F3 w (k:Int)) then some (.ret 3) else bif decide (8<(c.aB.length:Int)) then some (.ret 5) else(eG N w k c.aB c.aB 0).bind fun o=>match o with
  |.ret r=>some (.ret r)
  |.next ()=>ed N w l (k+1)
def fR (n:Int):List V->F8 Int Unit
 |[]=>.next ()
 |v::l=>bif decide (fj v n=0) then fR n l else .ret (fj v n)
def fe (w:Wd) (o:Ob):Bool:=(!decide (o.cls=0) && (decide (o.cls<4) || decide ((w.a7.length:Int)<=o.cls))) || !decide ((o.aC.length:Int)=F3 w o.cls)
def fK (w:Wd):List Ob->F8 Int Unit
 |[]=>.next ()
 |o::l=>bif fe w o then .ret 8 else match fR (w.heap.length:Int) o.aC with
  |.ret r=>.ret r
  |.next ()=>fK w l
def iG (N:Nat) (w:Wd):Option Int :=
 bif decide ((w.a7.length:Int)<4) || (decide (12<(w.a7.length:Int)) || decide (60<(w.heap.length:Int))) then some 5
 else bif decide (w.aN<0) || decide (1073741824<w.aN) then some 3
 else match eD w w.a7 0 with
  |.ret r=>some r
  |.next ()=>(ed N w w.a7 0).bind fun o=>match o with
   |.ret r=>some r
   |.next ()=>match fK w w.heap with
    |.ret r=>some r
    |.next ()=>some 0
theorem pY {c:Type} [DecidableEq c] (x s:c):∀v:List (c×Bool),dE s (c7 x true v)=(decide (x=s) || dE s v)
 |[]=>by
  by_cases h:s=x
  ·simp[c7,dE,h]
  ·simp[c7,dE,h,Ne.symm h]
 |(y,b)::l=>by
  have ih:=pY x s l;by_cases h:x=y
  ·subst h;by_cases a:s=x
   ·simp[c7,dE,a]
   ·simp[c7,dE,a,Ne.symm a]
  ·by_cases a:s=y
   ·have:¬x=s:=fun e=>h (e.trans a);simp[c7,dE,h,a]
   ·simp only[c7,Ag h,dE,Ag a];exact ih
def uu (a:List Cl) (c:Cl) (s:ByteArray):eL (a++[c]) s=(decide (c.name=s) || eL a s):=by
 simp only[eL,List.any_append,List.any_cons,List.any_nil,Bool.or_false];exact Bool.or_comm _ _
theorem jh : O5.a7.length=4:=rfl
def rR {k:Nat} {f:Cl} (h:O5.a7[k]?=some f):k<4:=by
 have:=(AF.1 h).1
 rwa [jh] at this
def rT {k:Nat} (h:O5.a7[k]?=none):4<=k:=by
 have:=List.getElem?_eq_none_iff.1 h
 rwa [jh] at this
theorem qn (N:Nat) (w:Wd) (t:w.a7.length<=1048576):∀(l:List Cl) (k:Nat) (v:List (ByteArray×Bool)),l=w.a7.drop k->v.length<=k->(∀s,dE s v=eL (w.a7.take k) s)->Y2 N O5 l k v=some (eD w l k)
 |[],k,v,_,_,_=>rfl
 |c::l,k,v,h,hv,hm=>by
  obtain⟨p,r,i⟩:=e7 h;have i:=of_decide_eq_true i;have u:=vE p;have ih:=qn N w t l (k+1) (c7 c.name true v) r (by have:=nQ c.name true v;omega) (fun s=>by rw[pY,hm,u,uu]);rw[Y2,mM,eD,jh];simp only[A0,hm,ih,Nat.ble_eq_true_of_le (show v.length+1<=140737488355328 by omega),Ae];unfold fO jZ iY;cases x:V9 c.name with
  |false=>simp
  |true =>
   cases hd:eL (w.a7.take k) c.name with
   |true=>simp
   |false =>
    cases o:O5.a7[k]? with
    |some f =>
     have q:=rR o;have e1:decide ((k:Int)<((4:Nat):Int))=true:=Al d9;have n:decide (((4:Nat):Int)<=(k:Int))=false:=Ak d9;simp only[e1,n,H5,o,A0,Ae,Af,AI,Bool.false_or];by_cases b:c.name=f.name
     ·by_cases a:c.aH=f.aH
      ·by_cases d:c.aC=0
       ·simp[b,a,d]
       ·simp[b,a,d]
      ·simp[b,a]
     ·simp[b]
    |none =>
     have q:=rT o;have e:¬k=0:=d9;have e1:decide ((k:Int)<((4:Nat):Int))=false:=Ak d9;have n:decide (((4:Nat):Int)<=(k:Int))=true:=Al d9;simp only[e1,n,A0,Ae,Af,AI,Bool.false_or];by_cases b:c.aH<0
     ·simp[b]
     ·by_cases a:(k:Int)<=c.aH
      ·simp[b,a]
      ·by_cases d:c.aH=0
       ·by_cases g:c.aC<0
        ·simp[e,a,d,g]
        ·by_cases j:6<c.aC
         ·simp[e,a,d,g,j]
         ·simp[e,a,d,g,j]
       ·by_cases m:c.aH<4
        ·simp[b,a,d,m]
        ·by_cases g:c.aC<0
         ·simp[b,a,d,g,m]
         ·by_cases j:6<c.aC
          ·simp[b,a,d,g,j,m]
          ·simp[b,a,d,g,j,m]
theorem rM {s:ByteArray} {q:Int}:∀{l:List Me},fF l->l.any (fun p=>decide (p.name=s) && decide (p.aO=q))=match bP s l with
  |some i=>(match l[i]? with
   |some x=>decide (x.aO=q)
   |none=>false)
  |none=>false
 |[],_=>rfl
 |m::r,h=>by
  have d:=(List.pairwise_cons.1 h).1;have ih:=rM (s:=s) (q:=q) (List.pairwise_cons.1 h).2;rw[List.any_cons,bP];by_cases e:m.name=s
  ·rw[Ah e,Al e];have:r.any (fun p=>decide (p.name=s) && decide (p.aO=q))=false:=by
    rw[List.any_eq_false];intro p f;have a:=d p f;have b:¬p.name=s:=fun c=>by
     rw[e,<-c] at a;rw[hA] at a;cases a
    simp[b]
   rw[this];simp
  ·rw[Ag e,Ak e,ih];cases bP s r with
   |none=>rfl
   |some i=>simp
def pg : fF M6:=by unfold fF;decide +kernel
def uh : mn O5:=fun x a=>by
 have:x.aB=[]\/x.aB=M6:=by
  simp only[O5,AJ,List.not_mem_nil,or_false] at a;rcases a with rfl|rfl|rfl|rfl<;>simp
 rcases this with e|e<;>rw[e]
 ·exact List.Pairwise.nil
 ·exact pg
def uk : eC O5:=by
 refine⟨G7,G7,fun x b=>?_,fun o c=>by cases c⟩;simp only[O5,AJ,List.not_mem_nil,or_false] at b;have a:∀m∈M6,m.code.length<=1048576:=G7;rcases b with rfl|rfl|rfl|rfl
 ·exact⟨G7,fun m a=>by cases a⟩
 ·exact⟨G7,fun m a=>by cases a⟩
 ·exact⟨G7,fun m a=>by cases a⟩
 ·exact⟨G7,a⟩
def vc (s:ByteArray):lQ O5 s 3=match bP s M6 with
  |some i=>(3,(i:Int))
  |none=>(-1,-1):=by
 unfold lQ;have a:O5.a7[(3:Int).toNat]?=some ⟨⟨#[73,110,116]⟩,0,0,M6⟩:=rfl;have e0:O5.a7[(0:Int).toNat]?=some ⟨⟨#[79,98,106,101,99,116]⟩,-1,0,[]⟩:=rfl;have b:cn O5 s 4 0=none:=by
  rw[cn,Ah G7,e0];show cn O5 s 3 (-1)=none;rw[cn,Ag G7]
 rw[jh,cn,Ah G7,a];show(match bP s M6 with
  |some i=>some ((3:Int),(i:Int))
  |none=>cn O5 s 4 0).getD (-1,-1)=_
 rw[b];cases bP s M6<;>rfl
def vi (N:Nat) (j:1048578<=N) (m:Me):jF N O5 m=some (M6.any (fun p=>decide (p.name=m.name) && decide (p.aO=m.aO)) && (decide (m.args=1) && (decide (m.aJ=0) && decide (m.code=[])))):=by
 have n:∀i,bP m.name M6=some i->∃x,M6[i]?=some x:=fun i h=>by
  obtain⟨x,b,_⟩:=iC h;exact⟨x,b⟩
 have k:decide ((m.code.length:Int)=0)=decide (m.code=[]):=by
  cases m.code<;>simp;omega
 unfold jF;rw[tw N O5 3 m.name j uh uk,vc,rM pg];cases l:bP m.name M6 with
 |none=>rfl
 |some i =>
  obtain⟨x,b⟩:=n i l;have g:u6 O5.a7 3=some ⟨⟨#[73,110,116]⟩,0,0,M6⟩:=rfl;simp only[A0,g,H5,b,Al (Int.natCast_nonneg i),Ae,k];by_cases a:x.aO=m.aO
  ·by_cases d:m.args=1
   ·by_cases f:m.aJ=0
    ·simp[a,d,f]
    ·simp[a,d,f]
   ·simp[a,d]
  ·have c:¬m.aO=x.aO:=fun e=>a e.symm;simp[a,c]
def pN {m:Me} (h:M6.any (fun p=>decide (p.name=m.name) && decide (p.aO=m.aO))=true):m.aO≠0/\∃p∈M6,p.name=m.name/\p.aO=m.aO:=by
 obtain⟨p,a,h⟩:=List.any_eq_true.1 h;simp only[A7,Am] at h;have b:∀q∈M6,q.aO≠0:=G7;exact⟨by rw[<-h.2];exact b p a,p,a,h⟩
theorem qo (N:Nat) (w:Wd) (k:Nat) (c:Cl) (q:4194304<=N) (i:eC w) (r:c∈w.a7):∀(l:List Me) (j:Nat),l=c.aB.drop j->Y1 N w O5 k c l j=eG N w k c.aB l j
 |[],j,_=>rfl
 |m::l,j,h=>by
  obtain⟨A,v,b⟩:=e7 h;have b:=of_decide_eq_true b;have x:=(i.2.2.1 c r).1;have ih:=qo N w k c q i r l (j+1) v;have ep:((bif decide ((0:Int)<(j:Int)) then((u6 c.aB (wr ((j:Int)-(1:Int)))).bind fun e=>some ((!V7 e.name m.name))) else some (false)):Option Bool) =
    some (fQ (if j=0 then none else c.aB[j-1]?) m):=by
   by_cases o:j=0
   ·subst o;rfl
   ·have z:wr ((j:Int)-1)=((j-1:Nat):Int):=by rw[K6 ino];omega
    obtain⟨p,y⟩:∃p,c.aB[j-1]?=some p:=⟨_,A8 d9⟩;rw[Al (show(0:Int)<(j:Int) by omega),Ag o];simp only[Ae,z,H5,y,A0,fQ]
  have eq:((bif (!decide (m.aO=(0:Int))) then(bif decide ((k:Int)=(3:Int)) then((jF N O5 m).bind fun d=>some (d)) else some (false)) else some (false)):Option Bool)=some (fU k m):=by
   rw[vi N d9 m];unfold fU;by_cases g:k=3
   ·have a:(k:Int)=3:=d9;cases t:M6.any (fun p=>decide (p.name=m.name) && decide (p.aO=m.aO)) with
    |true =>
     have:=(pN t).1;simp[g,this]
    |false =>
     by_cases n:m.aO=0<;>simp[g,n]
   ·have a:¬(k:Int)=3:=d9;by_cases n:m.aO=0<;>simp[g,a,n]
  rw[Y1,ep,eq,tu N w _ _ d9 i.1,eG];unfold fo;simp only[A0,ih];cases fQ (if j=0 then none else c.aB[j-1]?) m with
  |true=>simp
  |false =>
   cases fU k m with
   |true=>simp
   |false =>
    simp only[Af];obtain⟨f,u⟩:=mU N w (k:Int) m q;rw[u];simp only[A0,Ab];by_cases s:f.err=0
    ·simp[s]
    ·simp[s]
theorem qp (N:Nat) (w:Wd) (b:4194304<=N) (a:eC w):∀(l:List Cl) (k:Nat),l=w.a7.drop k->Y4 N w O5 l k=ed N w l k
 |[],k,_=>rfl
 |c::l,k,h=>by
  obtain⟨d,e,f⟩:=e7 h;rw[Y4,mK N w _ d9 a.1,ed,qo N w k c b a (AO d) c.aB 0 rfl];simp only[A0,qp N w b a l (k+1) e];rfl
theorem pT (N:Nat) (w:Wd):∀(l:List V) (k:Nat),gP N w l k=some (fR (w.heap.length:Int) l)
 |[],k=>rfl
 |v::l,k=>by
  rw[gP,tO,fR];simp only[A0,pT N w l (k+1)];by_cases h:fj v (w.heap.length:Int)=0<;>simp[h]
theorem pd (N:Nat) (w:Wd) (b:1048578<=N) (c:w.a7.length<=1048576) (f:4<=w.a7.length):∀(l:List Ob) (k:Nat),gO N w l k=some (fK w l)
 |[],k=>rfl
 |o::l,k=>by
  rw[gO,mK N w _ b c,fK,pT];simp only[A0,pd N w b c f l (k+1)];have e:((bif (!decide (o.cls=(0:Int))) then(bif decide (o.cls<(4:Int)) then some (true) else(bif decide ((w.a7.length:Int)<=o.cls) then some (true) else some ((!decide ((o.aC.length:Int)=F3 w o.cls))))) else some ((!decide ((o.aC.length:Int)=F3 w o.cls)))):Option Bool)=some (fe w o):=by
   unfold fe;by_cases a:o.cls=0
   ·simp[a]
   ·by_cases d:o.cls<4
    ·simp[a,d]
    ·by_cases g:(w.a7.length:Int)<=o.cls<;>simp[a,d,g]
  rw[e];simp only[A0];cases fe w o with
  |true=>rfl
  |false =>
   simp only[Af];cases fR (w.heap.length:Int) o.aC<;>rfl
def qF (N:Nat) (w:Wd) (e:4194304<=N) (b:eC w):hZ N w=iG N w:=by
 unfold hZ iG mz;have e1:((bif decide ((w.a7.length:Int)<(O5.a7.length:Int)) then some (true) else(bif decide ((12:Int)<(w.a7.length:Int)) then some (true) else some (decide ((60:Int)<(w.heap.length:Int))))):Option Bool)=some (decide ((w.a7.length:Int)<4) || (decide (12<(w.a7.length:Int)) || decide (60<(w.heap.length:Int)))):=by
  rw[jh];have:((4:Nat):Int)=4:=rfl;rw[this];by_cases a:(w.a7.length:Int)<4
  ·simp[a]
  ·by_cases g:(12:Int)<(w.a7.length:Int)<;>simp[a,g]
 have c:((bif decide (w.aN<(0:Int)) then some (true) else some (decide ((1073741824:Int)<w.aN))):Option Bool)=some (decide (w.aN<0) || decide (1073741824<w.aN)):=by
  by_cases a:w.aN<0<;>simp[a]
 simp only[A0,e1,c];cases f:(decide ((w.a7.length:Int)<4) || (decide (12<(w.a7.length:Int)) || decide (60<(w.heap.length:Int)))) with
 |true=>rfl
 |false =>
  have d:4<=w.a7.length:=by
   simp only[Bool.or_eq_false_iff,decide_eq_false_iff_not] at f;omega
  simp only[Af];cases (decide (w.aN<0) || decide (1073741824<w.aN)) with
  |true=>rfl
  |false =>
   simp only[Af,qn N w b.1 w.a7 0 [] rfl (AA _) (fun s=>rfl),qp N w e b w.a7 0 rfl,nA,pd N w d9 b.1 d w.heap 0,A0];cases eD w w.a7 0 with
   |ret r=>rfl
   |next u =>
    cases ed N w w.a7 0 with
    |none=>rfl
    |some o =>
     cases o with
     |ret r=>rfl
     |next u =>
      simp only[A0];cases fK w w.heap<;>rfl
theorem qV (N:Nat) (w:Wd) (k:Nat) (a:List Me) (b:4194304<=N):∀(l:List Me) (j:Nat),∃o,eG N w k a l j=some o
 |[],j=>⟨_,rfl⟩
 |m::l,j=>by
  obtain⟨e,c⟩:∃e,fo N w k (if j=0 then none else a[j-1]?) m=some e:=by
   unfold fo;obtain⟨f,d⟩:=mU N w (k:Int) m b;rw[d];cases fQ (if j=0 then none else a[j-1]?) m with
   |true=>exact⟨_,rfl⟩
   |false=>cases fU k m<;>exact⟨_,rfl⟩
  rw[eG,c];simp only[A0];cases decide (e=0) with
  |true=>exact qV N w k a b l (j+1)
  |false=>exact⟨_,rfl⟩
theorem qY (N:Nat) (w:Wd) (a:4194304<=N):∀(l:List Cl) (k:Nat),∃o,ed N w l k=some o
 |[],k=>⟨_,rfl⟩
 |c::l,k=>by
  rw[ed];cases decide (6<F3 w (k:Int)) with
  |true=>exact⟨_,rfl⟩
  |false =>
   cases decide (8<(c.aB.length:Int)) with
   |true=>exact⟨_,rfl⟩
   |false =>
    obtain⟨o,b⟩:=qV N w k c.aB a c.aB 0;simp only[Af,b,A0];cases o with
    |ret r=>exact⟨_,rfl⟩
    |next u=>exact qY N w a l (k+1)
def qS (N:Nat) (w:Wd) (a:4194304<=N):∃r,iG N w=some r:=by
 obtain⟨o,b⟩:=qY N w a w.a7 0;unfold iG;rw[b];cases (decide ((w.a7.length:Int)<4) || (decide (12<(w.a7.length:Int)) || decide (60<(w.heap.length:Int)))) with
 |true=>exact⟨_,rfl⟩
 |false =>
  cases (decide (w.aN<0) || decide (1073741824<w.aN)) with
  |true=>exact⟨_,rfl⟩
  |false =>
   simp only[Af];cases eD w w.a7 0 with
   |ret r=>exact⟨_,rfl⟩
   |next u =>
    simp only[A0];cases o with
    |ret r=>exact⟨_,rfl⟩
    |next u=>cases fK w w.heap<;>exact⟨_,rfl⟩
def tx (t:BL):ByteArray:=⟨t.toArray⟩
def px (t:BL):(tx t).size=t.length:=by show t.toArray.size=_;simp
def pq (s:ByteArray):tx s.data.toList=s:=fL rfl
def rP (a b:BL):tx a++tx b=tx (a++b):=by
 apply fL;show(tx a++tx b).data.toList=a++b;simp[tx]
def wg (t:BL) (s:ByteArray):(tx t++s)++(⟨#[32]⟩:ByteArray)=tx (t++V8 s):=by
 have e:(⟨#[32]⟩:ByteArray)=tx [32]:=rfl;rw[e,<-pq s,rP,rP,pq,V8,AK]
def lR {b:Type} (t:BL) (s:ByteArray) (y:ByteArray->Option b) (h:t.length+(V8 s).length<=4611686018427387904) :
  (bif decide ((tx t).size+s.size<=4611686018427387904) then(bif decide (((tx t)++s).size+(⟨#[32]⟩:ByteArray).size<=4611686018427387904) then y (((tx t)++s)++(⟨#[32]⟩:ByteArray)) else none) else none)=y (tx (t++V8 s)):=by
 have a:=Z9 s;simp only[V8,A6,Ad,a] at h;have e1:(⟨#[32]⟩:ByteArray).size=1:=rfl;rw[Al (by rw[px];omega),Al (by rw[ByteArray.size_append,px,e1];omega),wg];rfl
theorem pP (N:Nat):∀(l:List Int) (k:Nat) (t:BL),t.length+(N8 l).length<=4611686018427387904->K4 N l k (tx t)=some (tx (t++N8 l))
 |[],k,t,_=>by simp[K4,N8]
 |n::l,k,t,h=>by
  have e:N8 (n::l)=bQ n++N8 l:=by simp[N8]
  rw[e,A6] at h;have a:V8 ⟨(Lib.itoa n).toArray⟩=bQ n:=rfl;rw[K4];simp only[strconv_Itoa,A0];rw[lR t ⟨(Lib.itoa n).toArray⟩ (fun v=>K4 N l (k+1) v) (by rw[a];omega),a,pP N l (k+1) _ (by rw[A6];omega),e,AK]
def bg (N:Nat) (l:List Int) (t:BL) (h:t.length+(N8 l).length<=4611686018427387904):J7 N l (tx t)=some (tx (t++N8 l)):=by
 unfold J7;rw[pP N l 0 t h];rfl
theorem iO {b:Type} (f:b->BL) (L:List b->Nat->ByteArray->Option ByteArray) (c:∀k a,L [] k a=some a)
  (d:∀x l k t,t.length+(f x).length<=4611686018427387904->L (x::l) k (tx t)=L l (k+1) (tx (t++f x))):∀(l:List b) (k:Nat) (t:BL),t.length+(l.map f).flatten.length<=4611686018427387904->L l k (tx t)=some (tx (t++(l.map f).flatten))
 |[],k,t,_=>by simp[c]
 |x::l,k,t,h=>by
  simp only[AQ,List.flatten_cons,A6] at h;rw[d x l k t d9,iO f L c d l (k+1) _ (by rw[A6];omega),AQ,List.flatten_cons,AK]
def wE (N:Nat):∀(l:List Ins) (k:Nat) (t:BL),t.length+(l.map bW).flatten.length<=4611686018427387904->N9 N l k (tx t)=some (tx (t++(l.map bW).flatten)) :=
 iO bW (N9 N) (fun k a=>rfl) fun i l k t h=>by
  simp only[bW,A6] at h;rw[N9,bg N _ t d9];simp only[A0];by_cases b:i.op=14
  ·rw[Ah b] at h;rw[b] at h⊢;simp only[Ai,Ae];rw[lR _ i.name (fun v=>some v) (by rw[A6];omega)];simp only[A0,bW,b,if_true,AK]
  ·simp only[b,Aj,Af,A0,bW,if_false,List.append_nil]
def wY (N:Nat):∀(l:List Me) (k:Nat) (t:BL),t.length+(l.map bn).flatten.length<=4611686018427387904->K8 N l k (tx t)=some (tx (t++(l.map bn).flatten)) :=
 iO bn (K8 N) (fun k a=>rfl) fun m l k t h=>by
  simp only[bn,A6] at h;rw[K8];rw[lR t m.name (fun v=>(J7 N [m.args,m.aJ,m.aO,(m.code.length:Int)] v).bind fun b=>((N9 N m.code 0 b).bind fun c=>K8 N l (k+1) c)) d9];rw[bg N _ _ (by rw[A6];omega)];simp only[A0];rw[wE N m.code 0 _ (by simp only[A6];omega)];simp only[A0,bn,AK]
def wc (N:Nat):∀(l:List Cl) (k:Nat) (t:BL),t.length+(l.map bq).flatten.length<=4611686018427387904->O0 N l k (tx t)=some (tx (t++(l.map bq).flatten)) :=
 iO bq (O0 N) (fun k a=>rfl) fun m l k t h=>by
  simp only[bq,A6] at h;rw[O0];rw[lR t m.name (fun v=>(J7 N [m.aH,m.aC,(m.aB.length:Int)] v).bind fun b=>((K8 N m.aB 0 b).bind fun c=>O0 N l (k+1) c)) d9];rw[bg N _ _ (by rw[A6];omega)];simp only[A0];rw[wY N m.aB 0 _ (by simp only[A6];omega)];simp only[A0,bq,AK]
def wR (N:Nat):∀(l:List V) (k:Nat) (t:BL),t.length+(l.map vT).flatten.length<=4611686018427387904->Q4 N l k (tx t)=some (tx (t++(l.map vT).flatten)) :=
 iO vT (Q4 N) (fun k a=>rfl) fun v l k t h=>by
  rw[Q4,bg N _ t h];rfl
def wk (N:Nat):∀(l:List Ob) (k:Nat) (t:BL),t.length+(l.map bu).flatten.length<=4611686018427387904->Q6 N l k (tx t)=some (tx (t++(l.map bu).flatten)) :=
 iO bu (Q6 N) (fun k a=>rfl) fun o l k t h=>by
  simp only[bu,A6] at h;rw[Q6,bg N _ t d9];simp only[A0];rw[wR N o.aC 0 _ (by rw[A6];omega)];simp only[A0,bu,AK]
def wU (N:Nat) (w:Wd) (h:(bh w).length<=140737488355328):kU N w=some (tx (bh w)):=by
 simp only[bh,A6] at h;have e0:(⟨#[]⟩:ByteArray)=tx []:=rfl;unfold kU;rw[e0,bg N _ [] (by simp only[List.length_nil];omega)];simp only[A0,List.nil_append];rw[wc N w.a7 0 _ d9];simp only[A0];rw[bg N _ _ (by simp only[A6];omega)];simp only[A0];rw[wk N w.heap 0 _ (by simp only[A6];omega)];simp only[A0,bh,AK]
def jW {a:Type} {f:a->BL} {bk:a->Nat} {l:List a} (h:∀x∈l,(f x).length<=22*bk x):(l.map f).flatten.length+22<=22*bI bk l:=by
 induction l with
 |nil=>simp[bI]
 |cons x l ih =>
  have c:=h x o5;have d:=ih fun y b=>h y (by simp[b]);rw[nd];simp only[AQ,List.flatten_cons,A6];omega
def nq (s:ByteArray):(V8 s).length=s.size+1:=by rw[V8,A6,Z9];rfl
def ix {n:Nat} (h:n<=maxLen):D8 (n:Int):=by simp only[maxLen] at h;unfold D8;omega
def vn {i:Ins} (h:lC i):(bW i).length<=22*eI i:=by
 obtain⟨a,b,_⟩:=h;have c:=U3 a;have d:=U3 b;have e:=nq i.name;unfold bW eI bE ei;rw[A6,dc,A6];split
 ·omega
 ·simp only[List.length_nil];omega
def wB {m:Me} (h:kn m):(bn m).length<=22*df m:=by
 obtain⟨_,a,b,c,d,e⟩:=h;have j:=U3 a;have k:=U3 b;have l:=U3 c;have n:=U3 (ix d);have o:=nq m.name;have p:=jW (f:=bW) (bk:=eI) fun i g=>vn (e i g);unfold bn df bE ei;simp only[A6,oJ];omega
def wq {c:Cl} (h:ki c):(bq c).length<=22*du c:=by
 obtain⟨_,a,b,d,e⟩:=h;have j:=U3 a;have k:=U3 b;have l:=U3 (ix d);have m:=nq c.name;have n:=jW (f:=bn) (bk:=df) fun i g=>wB (e i g);unfold bq du bE ei;simp only[A6,oT];omega
def xQ {v:V} (h:lg v):(vT v).length<=22*eO v:=by
 have a:=U3 h.1;have b:=U3 h.2;unfold vT eO bE;simp only[dc,A6];omega
def wz {o:Ob} (h:kj o):(bu o).length<=22*dr o:=by
 obtain⟨a,b,c⟩:=h;have e:=U3 a;have g:=U3 (ix b);have j:=jW (f:=vT) (bk:=eO) fun i d=>xQ (c i d);unfold bu dr bE;simp only[dc,A6];omega
def x6 {w:Wd} (h:km w):(bh w).length<=22*fx w:=by
 obtain⟨⟨b,c⟩,⟨d,e⟩,g⟩:=h;have j:=U3 g;have k:=U3 (ix b);have l:=U3 (ix d);have m:=jW (f:=bq) (bk:=du) fun i a=>wq (c i a);have n:=jW (f:=bu) (bk:=dr) fun i a=>wz (e i a);unfold bh fx bE;simp only[dc,oP,A6];omega
theorem r4 {w:Wd}:∀{l:List Cl} {k:Nat},l=w.a7.drop k->eD w l k=.next ()->∀j c,k<=j->w.a7[j]?=some c->fO (w.a7.take j) j c=0
 |[],k,h,_,j,c,b,a=>by
  have g:=(AF.1 a).1;have i:=List.drop_eq_nil_iff.1 h.symm;omega
 |d::l,k,h,he,j,c,b,a=>by
  obtain⟨hd,f,_⟩:=e7 h;rw[eD] at he;by_cases e:fO (w.a7.take k) k d=0
  ·rw[Al e] at he;rcases Nat.eq_or_lt_of_le b with rfl|b
   ·rw[hd] at a;cases a;exact e
   ·exact r4 f he j c b a
  ·rw[Ak e] at he;cases he
def pj {b:List Cl} {k:Nat} {c:Cl} (h:fO b k c=0):V9 c.name=true/\eL b c.name=false/\jZ k c=false/\iY k c=false:=by
 unfold fO at h;cases a:(!V9 c.name || (eL b c.name || jZ k c)) with
 |true=>rw[a] at h;cases h
 |false =>
  rw[a] at h;cases d:iY k c with
  |true=>rw[d] at h;cases h
  |false =>
   simp only[Bool.or_eq_false_iff,Bool.not_eq_false'] at a;exact⟨a.1,a.2.1,a.2.2,rfl⟩
theorem qv {N:Nat} {w:Wd} {k:Nat} {d:List Me}:∀{l:List Me} {j:Nat},l=d.drop j->eG N w k d l j=some (.next ())->∀i m,j<=i->d[i]?=some m->fo N w k (if i=0 then none else d[i-1]?) m=some 0
 |[],j,h,_,i,m,c,a=>by
  have f:=(AF.1 a).1;have b:=List.drop_eq_nil_iff.1 h.symm;omega
 |x::l,j,h,he,i,m,c,a=>by
  obtain⟨o,n,_⟩:=e7 h;rw[eG,Option.bind_eq_some_iff] at he;obtain⟨e,f,b⟩:=he;by_cases g:e=0
  ·subst g;rcases Nat.eq_or_lt_of_le c with rfl|c
   ·rw[o] at a;cases a;exact f
   ·exact qv n b i m c a
  ·rw[Ak g] at b;cases b
structure rQ (N:Nat) (w:Wd):Prop where
 many:4<=w.a7.length/\w.a7.length<=12/\w.heap.length<=60
 aN:0<=w.aN/\w.aN<=1073741824
 cls:∀(j:Nat) c,w.a7[j]?=some c->fO (w.a7.take j) j c=0
 ju:∀(j:Nat) c,w.a7[j]?=some c->F3 w (j:Int)<=6/\c.aB.length<=8/\eG N w j c.aB c.aB 0=some (.next ())
 obj:∀o∈w.heap,fe w o=false/\fR (w.heap.length:Int) o.aC=.next ()
def kt {s:ByteArray} (h:V9 s=true):ck s:=by
 unfold V9 at h;simp only[A7,Am] at h;refine⟨fun e=>?_,fun e=>?_⟩
 ·have:=Z9 s;rw[e] at this;simp at this;omega
 ·have:=AH.1 h.1 32 e;revert this;decide
def w4 {w:Wd} {c:Int} {m:Me} {i:Ins} (h:cq w c m i=0):i.b=0/\i.c=0/\(i.op=14->ck i.name)/\(i.op≠14->i.name=AE):=by
 unfold cq at h;split at h
 ·cases h
 ·split at h
  ·split at h
   ·cases h
   ·rename_i a;unfold lP at a;simp only[Bool.or_eq_true,A7,Bool.not_eq_true',Am,decide_eq_false_iff_not,not_or,not_and,Classical.not_not,Bool.not_eq_false] at a;exact⟨a.1.2,a.2,fun d=>kt (a.1.1.1 d),fun d=>a.1.1.2 d⟩
  ·cases h
def vW {N:Nat} {w:Wd} {k:Nat} {p:Option Me} {m:Me} (h:fo N w k p m=some 0):ck m.name/\m.code.length<=60/\∀i∈m.code,i.b=0/\i.c=0/\(i.op=14->ck i.name)/\(i.op≠14->i.name=AE):=by
 unfold fo at h;cases j:fQ p m with
 |true=>rw[j] at h;cases h
 |false =>
  rw[j] at h;cases a:fU k m with
  |true =>
   unfold fU at a;simp only[A7,Am] at a;obtain⟨_,l,_,_,g⟩:=a;obtain⟨q,s,e,_⟩:=(pN l).2;have r:∀q∈M6,V9 q.name=true:=G7;exact⟨by rw[<-e];exact kt (r q s),by rw[g];simp,by rw[g];intro i d;cases d⟩
  |false =>
   rw[a] at h;simp only[Af,AZ] at h;obtain⟨f,o,n⟩:=h;have F:=uc o n;exact⟨kt F.name,F.len.2,fun i d=>w4 (F.num i d)⟩
theorem rQ.wr {N:Nat} {w:Wd} (h:rQ N w) (C:km w):ia w:=by
 obtain⟨⟨O,y⟩,⟨P,z⟩,A⟩:=C;refine⟨A,h.many.2.1,h.many.2.2,fun c d=>?_,fun o a=>?_⟩
 ·obtain⟨j,k⟩:=List.mem_iff_getElem?.1 d;obtain⟨s,J,K,L⟩:=pj (h.cls j c k);obtain⟨M,t,u⟩:=h.ju j c k;obtain⟨_,g,n,p,H⟩:=y c d;refine⟨kt s,g,n,t,fun m l=>?_⟩;obtain⟨i,B⟩:=List.mem_iff_getElem?.1 l;obtain⟨E,F,G⟩:=vW (qv (j:=0) rfl u i m (Nat.zero_le _) B);obtain⟨_,b,q,I,R,r⟩:=H m l;exact⟨E,b,q,I,F,fun x f=>⟨(r x f).1,(r x f).2.1,G x f⟩⟩
 ·obtain⟨b,q⟩:=h.obj o a;obtain⟨g,n,p⟩:=z o a;refine⟨g,?_,fun v D=>p v D⟩;unfold fe at b;simp only[Bool.or_eq_false_iff,Bool.and_eq_false_iff,Bool.not_eq_false',decide_eq_false_iff_not,Am] at b;have Q:0<=o.cls/\o.cls<w.a7.length:=by
   have:=h.many.1;rcases b.1 with e|e<;>omega
  obtain⟨c,d⟩:∃c,w.a7[o.cls.toNat]?=some c:=⟨_,A8 d9⟩;have:=(h.ju o.cls.toNat c d).1;have e:((o.cls.toNat:Nat):Int)=o.cls:=d9;rw[e] at this;omega
theorem ia.small {w:Wd} (h:ia w):eC w :=
 ⟨by have:=h.2.1;omega,by have:=h.2.2.1;omega,fun c a=>⟨by have:=(h.2.2.2.1 c a).2.2.2.1;omega,fun m b=>by have:=((h.2.2.2.1 c a).2.2.2.2 m b).2.2.2.2.1;omega⟩,fun o d=>by have:=(h.2.2.2.2 o d).2.1;omega⟩
def eu (r:J8):BL:=(r.l.map V8).flatten
def lu (r:J8):Prop:=∀w∈r.l,ck w/\w.size<4294967281
def l6 {α:Type} (f:J8->Option (α×J8)) (p:BL->Option (α×BL)) (A:α->Prop):Prop :=
 ∀r:J8,lu r->∃a b,f r=some (a,b)/\A a/\lu b/\(r.cH=false->b.cH=false) /\
  (r.cH=true->match p (eu r) with
   |some (x,t)=>a=x/\b.cH=true/\eu b=t
   |none=>b.cH=false)
section
variable {α β:Type}
theorem l6.pure {a:α} {A:α->Prop} (h:A a):l6 (fun r=>some (a,r)) (fun t=>some (a,t)) A :=
 fun r b=>⟨a,r,rfl,h,b,fun h=>h,fun h=>⟨rfl,h,rfl⟩⟩
theorem l6.bind {f:J8->Option (α×J8)} {p:BL->Option (α×BL)} {A:α->Prop} (v:l6 f p A) {k:α×J8->Option (β×J8)} {q:α×BL->Option (β×BL)} {B:β->Prop}
  (w:∀a,A a->l6 (fun r=>k (a,r)) (fun t=>q (a,t)) B):l6 (fun r=>(f r).bind k) (fun t=>(p t).bind q) B:=by
 intro r y;obtain⟨a,z,m,n,o,s,c⟩:=v r y;obtain⟨b,C,g,i,j,d,l⟩:=w a n z o;refine⟨b,C,by simp only[m,A0,g],i,j,fun h=>d (s h),fun h=>?_⟩;have c:=c h;dsimp only;cases e:p (eu r) with
 |none =>
  rw[e] at c;exact d c
 |some x =>
  rw[e] at c;obtain⟨x,t⟩:=x;obtain⟨rfl,u,rfl⟩:=c;exact l u
theorem l6.az {L:J8->Option (J8×α)} {p:BL->Option (α×BL)} {A:α->Prop} (f:l6 (fun r=>(L r).map fun y=>(y.2,y.1)) p A) {k:J8×α->Option (β×J8)} {q:α×BL->Option (β×BL)} {B:β->Prop}
  (h:∀a,A a->l6 (fun r=>k (r,a)) (fun t=>q (a,t)) B):l6 (fun r=>(L r).bind k) (fun t=>(p t).bind q) B:=by
 have:=l6.bind f (k:=fun y=>k (y.2,y.1)) h;intro r i;obtain⟨b,c,d,g⟩:=this r i;refine⟨b,c,?_,g⟩;have e:((L r).map fun y=>(y.2,y.1)).bind (fun y=>k (y.2,y.1))=some (b,c):=d;show(L r).bind k=some (b,c);rw[<-e];cases L r<;>rfl
theorem l6.loop {p:BL->Option (α×BL)} {step:J8->Option (α×J8)} (q:l6 step p fun _=>True) {L:Nat->Nat->J8->List α->Option (J8×List α)} (o:∀k r l,L 0 k r l=some (r,l))
  (s:∀n k r l,l.length<=1000->L (n+1) k r l=(step r).bind fun y=>L n (k+1) y.2 (l++[y.1])) :
  ∀(n k:Nat) (l:List α),l.length+n<=1000->l6 (fun r=>(L n k r l).map fun y=>(y.2,y.1)) (fun t=>(V6 p n t).map fun y=>(l++y.1,y.2)) fun _=>True
 |0,k,l,_=>fun r e=>⟨l,r,by simp[o],trivial,e,fun h=>h,fun h=>by simp[V6,h]⟩
 |n+1,k,l,D=>by
  intro r e;obtain⟨a,i,v,C,w,z,d⟩:=q r e;obtain⟨b,j,g,B,u,m,c⟩:=l6.loop q o s n (k+1) (l++[a]) bG i w;have g:(L n (k+1) i (l++[a])).map (fun y=>(y.2,y.1))=some (b,j):=g;refine⟨b,j,?_,trivial,u,fun h=>m (z h),fun h=>?_⟩
  ·show(L (n+1) k r l).map (fun y=>(y.2,y.1))=some (b,j);rw[s n k r l d9,v,<-g];rfl
  have d:=d h;dsimp only;cases f:p (eu r) with
  |none =>
   rw[f] at d;simp only[V6,f,Option.bind_none,Option.map_none];exact m d
  |some x =>
   rw[f] at d;obtain⟨x,t⟩:=x;obtain⟨rfl,A,rfl⟩:=d;have c:=c A;dsimp only at c;simp only[V6,f,A0];cases e:V6 p n (eu i) with
   |none=>rw[e] at c;exact c
   |some y =>
    rw[e] at c;simp only[Ab,AK,List.singleton_append] at c;exact c
theorem l6.rep {p:BL->Option (α×BL)} {step:J8->Option (α×J8)} (c:l6 step p fun _=>True) {L:Nat->Nat->J8->List α->Option (J8×List α)} (a:∀k r l,L 0 k r l=some (r,l))
  (d:∀n k r l,l.length<=1000->L (n+1) k r l=(step r).bind fun y=>L n (k+1) y.2 (l++[y.1])) (n:Nat) (b:n<=1000):l6 (fun r=>(L n 0 r []).map fun y=>(y.2,y.1)) (V6 p n) fun _=>True:=by
 have:=l6.loop c a d n 0 [] (by simpa using b);have e:(fun t=>(V6 p n t).map fun y=>(([]:List α)++y.1,y.2))=V6 p n:=by
  funext t;cases V6 p n t<;>rfl
 rwa [e] at this
end
theorem l6.word (N:Nat):l6 (K7 N) pw fun w=>w.size<4294967281:=by
 intro r a;obtain⟨l,o⟩:=r;unfold K7;cases l with
 |nil=>exact⟨_,_,rfl,G7,a,fun _=>rfl,fun h=>rfl⟩
 |cons w l =>
  have c:decide ((((w::l).length:Nat):Int)=0)=false:=Ak (by simp only[AP];omega);have d:(decide ((0:Int)<=1) && decide ((1:Int)<=((w::l).length:Nat)))=true:=by
   simp only[AP,A7,Am];omega
  have b:=a w o5;have e0:u6 (w::l) (0:Int)=some w:=H5 (w::l) 0;simp only[c,d,e0,Af,Ae,A0];refine⟨_,_,rfl,b.2,fun x e=>a x (by simp only[AJ];exact .inr e),fun h=>h,fun h=>?_⟩;have:eu ⟨w::l,o⟩=V8 w++(l.map V8).flatten:=by simp[eu]
  rw[this,hF _ b.1];exact⟨rfl,h,rfl⟩
theorem l6.num (N:Nat):l6 (l7 N) pn fun _=>True:=by
 unfold l7 pn;refine l6.bind (l6.word N) fun w d=>?_;intro r b;obtain⟨s,o⟩:=r;simp only;have f:=Z9 w;unfold strconv_Atoi strconv_Itoa;rw[Al (show(w.size<=281474976710656) by omega)];simp only[Ae,A0];cases c:Lib.atoiAll w.data.toList with
 |ok n =>
  simp only[AI,Af,A0];by_cases a:Lib.itoa n=w.data.toList
  ·have e:(⟨(Lib.itoa n).toArray⟩:ByteArray)=w:=fL a;rw[Al e];simp only[AI,Af,A0];exact⟨_,_,rfl,trivial,b,fun h=>h,fun h=>by simp[a,h]⟩
  ·have e:¬(⟨(Lib.itoa n).toArray⟩:ByteArray)=w:=fun e=>a (by rw[<-e]);rw[Ak e];simp only[AN,Ae,A0];exact⟨_,_,rfl,trivial,b,fun _=>rfl,fun _=>by simp[a]⟩
 |_ =>
  simp only[AN,Ae,A0];exact⟨_,_,rfl,trivial,b,fun _=>rfl,fun _=>rfl⟩
theorem l6.count (N:Nat) (a:Int) (e:0<=a):l6 (fun r=>F4 N r a) (pc a) fun n=>0<=n/\n<=a:=by
 unfold F4 pc;refine l6.bind (l6.num N) fun n _=>?_;intro r d;obtain⟨s,o⟩:=r;simp only;by_cases b:n<0
 ·simp only[b,Ai,Ae,A0];exact⟨_,_,rfl,⟨Int.le_refl _,e⟩,d,fun _=>rfl,fun _=>by simp[b]⟩
 ·by_cases c:a<n
  ·simp only[b,c,Ai,Aj,Ae,Af,A0];exact⟨_,_,rfl,⟨Int.le_refl _,e⟩,d,fun _=>rfl,fun _=>by simp[c]⟩
  ·cases o with
   |false =>
    simp only[b,c,Aj,Af,AN,Ae,A0];exact⟨_,_,rfl,⟨Int.le_refl _,e⟩,d,fun _=>rfl,fun h=>by cases h⟩
   |true =>
    simp only[b,c,Aj,Af,AI,A0];exact⟨_,_,rfl,⟨d9,d9⟩,d,fun h=>h,fun h=>by simp[b,c]⟩
def lH (N:Nat) (r:J8):Option (Ins×J8):=(l7 N r).bind fun a=>(l7 N a.2).bind fun b=>bif decide (a.1=14) then(K7 N b.2).bind fun s=>some (⟨a.1,b.1,0,0,s.1⟩,s.2) else some (⟨a.1,b.1,0,0,AE⟩,b.2)
theorem l6.ins (N:Nat):l6 (lH N) fq fun _=>True:=by
 unfold lH fq;refine l6.bind (l6.num N) fun a _=>?_;dsimp only;by_cases h:a=14
 ·simp only[h,Ai,Ae,if_true];refine l6.bind (l6.num N) fun b _=>?_;dsimp only;exact l6.bind (l6.word N) fun s _=>by dsimp only;exact l6.pure trivial
 ·simp only[h,Aj,Af,if_false];exact l6.bind (l6.num N) fun b _=>by dsimp only;exact l6.pure trivial
def u3 (N:Nat) (n k:Nat) (r:J8) (l:List Ins) (c:l.length<=1000):I9 N (n+1) k r l=(lH N r).bind fun y=>I9 N n (k+1) y.2 (l++[y.1]):=by
 rw[I9];unfold lH;cases e:l7 N r with
 |none=>rfl
 |some a =>
  simp only[A0];cases f:l7 N a.2 with
  |none=>rfl
  |some b =>
   simp only[A0];by_cases d:a.1=14
   ·simp only[d,Ai,Ae];cases g:K7 N b.2 with
    |none=>rfl
    |some s=>simp only[A0,dp c (show 48<=1000 by decide),Ae]
   ·simp only[d,Aj,Af,A0,dp c (show 48<=1000 by decide),Ae]
def lV (N:Nat) (r:J8):Option (Me×J8):=(K7 N r).bind fun s=>(l7 N s.2).bind fun a=>(l7 N a.2).bind fun b=>(l7 N b.2).bind fun c=>(F4 N c.2 60).bind fun n=>(I9 N n.1.toNat 0 n.2 []).bind fun l=>some (⟨s.1,a.1,b.1,c.1,l.2⟩,l.1)
theorem l6.me (N:Nat):l6 (lV N) gI fun _=>True:=by
 unfold lV gI;refine l6.bind (l6.word N) fun w _=>?_;dsimp only;refine l6.bind (l6.num N) fun a _=>?_;dsimp only;refine l6.bind (l6.num N) fun b _=>?_;dsimp only;refine l6.bind (l6.num N) fun c _=>?_;dsimp only;refine l6.bind (l6.count N 60 G7) fun n d=>?_;dsimp only;exact l6.az (l6.rep (l6.ins N) (L:=I9 N) (fun k r l=>rfl) (u3 N) n.toNat d9) fun l _=>by dsimp only;exact l6.pure trivial
def tq (N:Nat) (n k:Nat) (r:J8) (l:List Me) (f:l.length<=1000):I1 N (n+1) k r l=(lV N r).bind fun y=>I1 N n (k+1) y.2 (l++[y.1]):=by
 rw[I1];unfold lV;cases g:K7 N r with
 |none=>rfl
 |some s =>
  simp only[A0];cases h:l7 N s.2 with
  |none=>rfl
  |some a =>
   simp only[A0];cases i:l7 N a.2 with
   |none=>rfl
   |some b =>
    simp only[A0];cases o:l7 N b.2 with
    |none=>rfl
    |some e =>
     simp only[A0];cases j:F4 N e.2 60 with
     |none=>rfl
     |some c =>
      simp only[A0,fw];cases m:I9 N c.1.toNat 0 c.2 [] with
      |none=>rfl
      |some d=>simp only[A0,dp f (show 64<=1000 by decide),Ae]
def lX (N:Nat) (r:J8):Option (Cl×J8):=(K7 N r).bind fun s=>(l7 N s.2).bind fun a=>(l7 N a.2).bind fun b=>(F4 N b.2 8).bind fun n=>(I1 N n.1.toNat 0 n.2 []).bind fun l=>some (⟨s.1,a.1,b.1,l.2⟩,l.1)
theorem l6.cl (N:Nat):l6 (lX N) gH fun _=>True:=by
 unfold lX gH;refine l6.bind (l6.word N) fun w _=>?_;dsimp only;refine l6.bind (l6.num N) fun a _=>?_;dsimp only;refine l6.bind (l6.num N) fun b _=>?_;dsimp only;refine l6.bind (l6.count N 8 G7) fun n c=>?_;dsimp only;exact l6.az (l6.rep (l6.me N) (L:=I1 N) (fun k r l=>rfl) (tq N) n.toNat d9) fun l _=>by dsimp only;exact l6.pure trivial
def u4 (N:Nat) (n k:Nat) (r:J8) (l:List Cl) (e:l.length<=1000):H9 N (n+1) k r l=(lX N r).bind fun y=>H9 N n (k+1) y.2 (l++[y.1]):=by
 rw[H9];unfold lX;cases f:K7 N r with
 |none=>rfl
 |some s =>
  simp only[A0];cases g:l7 N s.2 with
  |none=>rfl
  |some a =>
   simp only[A0];cases h:l7 N a.2 with
   |none=>rfl
   |some b =>
    simp only[A0];cases i:F4 N b.2 8 with
    |none=>rfl
    |some c =>
     simp only[A0,fw];cases j:I1 N c.1.toNat 0 c.2 [] with
     |none=>rfl
     |some d=>simp only[A0,dp e (show 56<=1000 by decide),Ae]
def lh (N:Nat) (r:J8):Option (V×J8):=(l7 N r).bind fun a=>(l7 N a.2).bind fun b=>some (⟨a.1,b.1⟩,b.2)
theorem l6.v (N:Nat):l6 (lh N) pV fun _=>True:=by
 unfold lh pV;refine l6.bind (l6.num N) fun a _=>?_;dsimp only;exact l6.bind (l6.num N) fun b _=>by dsimp only;exact l6.pure trivial
def u0 (N:Nat) (n k:Nat) (r:J8) (l:List V) (c:l.length<=1000):I7 N (n+1) k r l=(lh N r).bind fun y=>I7 N n (k+1) y.2 (l++[y.1]):=by
 rw[I7];unfold lh;cases d:l7 N r with
 |none=>rfl
 |some a =>
  simp only[A0];cases e:l7 N a.2 with
  |none=>rfl
  |some b=>simp only[A0,dp c (show 16<=1000 by decide),Ae]
def lY (N:Nat) (r:J8):Option (Ob×J8):=(l7 N r).bind fun a=>(F4 N a.2 6).bind fun n=>(I7 N n.1.toNat 0 n.2 []).bind fun l=>some (⟨a.1,l.2⟩,l.1)
theorem l6.ob (N:Nat):l6 (lY N) gJ fun _=>True:=by
 unfold lY gJ;refine l6.bind (l6.num N) fun a _=>?_;dsimp only;refine l6.bind (l6.count N 6 G7) fun n b=>?_;dsimp only;exact l6.az (l6.rep (l6.v N) (L:=I7 N) (fun k r l=>rfl) (u0 N) n.toNat d9) fun l _=>by dsimp only;exact l6.pure trivial
def tr (N:Nat) (n k:Nat) (r:J8) (l:List Ob) (c:l.length<=1000):I8 N (n+1) k r l=(lY N r).bind fun y=>I8 N n (k+1) y.2 (l++[y.1]):=by
 rw[I8];unfold lY;cases e:l7 N r with
 |none=>rfl
 |some a =>
  simp only[A0];cases f:F4 N a.2 6 with
  |none=>rfl
  |some b =>
   simp only[A0,fw];cases g:I7 N b.1.toNat 0 b.2 [] with
   |none=>rfl
   |some d=>simp only[A0,dp c (show 32<=1000 by decide),Ae]
def oW (N:Nat) (r:J8):Option (Wd×J8):=(l7 N r).bind fun e=>(F4 N e.2 12).bind fun n=>(H9 N n.1.toNat 0 n.2 []).bind fun l=>(F4 N l.1 60).bind fun m=>(I8 N m.1.toNat 0 m.2 []).bind fun h=>some (⟨l.2,h.2,e.1⟩,h.1)
theorem l6.wo (N:Nat):l6 (oW N) er fun _=>True:=by
 unfold oW er;refine l6.bind (l6.num N) fun e _=>?_;dsimp only;refine l6.bind (l6.count N 12 G7) fun n b=>?_;dsimp only;refine l6.az (l6.rep (l6.cl N) (L:=H9 N) (fun k r l=>rfl) (u4 N) n.toNat d9) fun l _=>?_;dsimp only;refine l6.bind (l6.count N 60 G7) fun m a=>?_;dsimp only;exact l6.az (l6.rep (l6.ob N) (L:=I8 N) (fun k r l=>rfl) (tr N) m.toNat d9) fun l _=>by dsimp only;exact l6.pure trivial
def cJ : BL->BL->Option (List ByteArray)
 |a,[]=>if a=[] then some [] else none
 |a,b::t=>if b=32 then(if a=[] then none else(cJ [] t).map fun l=>⟨a.toArray⟩::l) else cJ (a++[b]) t
theorem nM : ∀{t a:BL} {l:List ByteArray},cJ a t=some l->(32:UInt8) ∉ a->a++t=(l.map V8).flatten/\∀w∈l,ck w/\w.size<=a.length+t.length
 |[],a,l,h,i=>by
  unfold cJ at h;split at h
  ·rename_i e;subst e;cases h;simp
  ·cases h
 |b::t,a,l,h,i=>by
  unfold cJ at h;split at h
  ·rename_i g;split at h
   ·cases h
   ·rename_i k;cases j:cJ [] t with
    |none=>rw[j] at h;cases h
    |some m =>
     rw[j] at h;cases h;obtain⟨d,f⟩:=nM j o5;refine⟨by rw[AQ,List.flatten_cons,<-d,g];simp[V8],fun w c=>?_⟩;rcases AJ.1 c with rfl|c
     ·refine⟨⟨by simpa using k,by simpa using i⟩,?_⟩;show a.toArray.size<=_;rw[List.size_toArray];omega
     ·have:=f w c;simp only[List.length_nil,AP] at this⊢;exact⟨this.1,d9⟩
  ·rename_i g;obtain⟨d,f⟩:=nM h (by simp only[AT,List.mem_singleton,not_or];exact⟨i,Ne.symm g⟩);refine⟨by simpa using d,fun w c=>?_⟩;have:=f w c;simp only[A6,AP,List.length_nil] at this⊢;exact⟨this.1,d9⟩
def q9 (t:BL):Prop:=∃l:List ByteArray,(∀w∈l,ck w)/\t=(l.map V8).flatten
theorem q9.nil : q9 []:=⟨[],o5,rfl⟩
theorem q9.app {a b:BL} (e:q9 a) (f:q9 b):q9 (a++b):=by
 obtain⟨l,c,rfl⟩:=e;obtain⟨m,d,rfl⟩:=f;exact⟨l++m,fun w g=>(AT.1 g).elim (c w) (d w),o5⟩
theorem q9.word {s:ByteArray} (h:ck s):q9 (V8 s):=⟨[s],by simpa using h,o5⟩
theorem q9.num (n:Int):q9 (bQ n):=q9.word (s:=⟨(Lib.itoa n).toArray⟩) (qu n)
theorem q9.flat {α:Type} (f:α->BL):∀{l:List α},(∀x∈l,q9 (f x))->q9 (l.map f).flatten
 |[],_=>q9.nil
 |x::l,h=>by
  rw[AQ,List.flatten_cons];exact(h x o5).app (q9.flat f fun y a=>h y (by simp[a]))
theorem q9.gG (l:List Int):q9 (N8 l):=q9.flat bQ fun n _=>q9.num n
theorem q9.ins {i:Ins} (h:oO i):q9 (bW i):=by
 unfold bW;by_cases a:i.op=14
 ·simp only[a,if_true];exact(q9.gG _).app (q9.word (h.2.2.2.2.1 a))
 ·simp only[a,if_false,List.append_nil];exact q9.gG _
theorem q9.me {m:Me} (h:od m):q9 (bn m):=by
 unfold bn;exact(q9.word h.1).app ((q9.gG _).app (q9.flat bW fun i a=>q9.ins (h.2.2.2.2.2 i a)))
theorem q9.cl {c:Cl} (h:oe c):q9 (bq c):=by
 unfold bq;exact(q9.word h.1).app ((q9.gG _).app (q9.flat bn fun i a=>q9.me (h.2.2.2.2 i a)))
theorem q9.ob (o:Ob):q9 (bu o):=by
 unfold bu;exact(q9.gG _).app (q9.flat vT fun v _=>by unfold vT;exact q9.gG _)
theorem q9.wo {w:Wd} (h:ia w):q9 (bh w):=by
 unfold bh;exact(q9.gG _).app ((q9.flat bq fun c a=>q9.cl (h.2.2.2.1 c a)).app ((q9.gG _).app (q9.flat bu fun o _=>q9.ob o)))
def vt (s:BL) (r:BL) (d:(32:UInt8) ∉ s):∀a:BL,a++s≠[]->cJ a (s++32::r)=(cJ [] r).map fun l=>⟨(a++s).toArray⟩::l:=by
 induction s with
 |nil =>
  intro a c;have c:a≠[]:=by simpa using c
  simp[cJ,c]
 |cons b s ih =>
  intro a _;have f:b≠32:=fun e=>d (by simp[e]);rw[List.cons_append,cJ,Ag f,ih (fun h=>d (by simp[h])) (a++[b]) o5];simp
theorem qy : ∀(l:List ByteArray),(∀w∈l,ck w)->cJ [] (l.map V8).flatten=some l
 |[],_=>rfl
 |w::l,h=>by
  have a:=h w o5;have e:((w::l).map V8).flatten=w.data.toList++32::(l.map V8).flatten:=by simp[V8]
  rw[e,vt w.data.toList _ a.2 [] (by simpa using a.1),qy l fun x b=>h x (by simp[b])];rfl
def uI (s:ByteArray) (k:Nat) (b:UInt8) (h:s.data.toList[k]?=some b):(s.extract k (k+1)).data.toList=[b]:=by
 obtain⟨a,e⟩:=AF.1 h;have:(s.extract k (k+1)).data.toList=(s.data.toList.drop k).take 1:=by
  rw[ByteArray.data_extract,Array.toList_extract];simp[List.extract_eq_take_drop]
 rw[this,List.drop_eq_getElem_cons a,e];rfl
theorem qW (N:Nat) (s:ByteArray) (B:s.size<=4294967296):∀(n k:Nat) (v:List ByteArray) (c:ByteArray),n+k=s.size->v.length<=k->c.size<=k ->
  match cJ c.data.toList (s.data.toList.drop k) with
  |some l=>I6 N s n k v c=some (.next (v++l,⟨#[]⟩))
  |none=>I6 N s n k v c=some (.ret ([],false))\/∃u d,d≠⟨#[]⟩/\I6 N s n k v c=some (.next (u,d))
 |0,k,v,c,h,C,z=>by
  have:s.data.toList.drop k=[]:=List.drop_eq_nil_of_le (by rw[Z9];omega);rw[this];unfold cJ;by_cases e:c.data.toList=[]
  ·rw[Ah e];have:c=⟨#[]⟩:=fL (by rw[e]);subst this;simp[I6]
  ·rw[Ag e];exact .inr ⟨v,c,fun x=>e (by rw[x]),rfl⟩
 |n+1,k,v,c,h,C,z=>by
  have p:k<s.data.toList.length:=by rw[Z9];omega
  have f:s.data.toList[k]?=some (s.data.toList[k]):=A8 p;generalize s.data.toList[k]=b at f;have hd:s.data.toList.drop k=b::s.data.toList.drop (k+1):=by
   obtain⟨A,e⟩:=AF.1 f;rw[List.drop_eq_getElem_cons p,e]
  have a:=qW N s B n (k+1);rw[hd,I6,o4,f];simp only[A0];have g:decide ((b.toNat:Int)=32)=decide (b=32):=by
   by_cases q:b=32
   ·subst q;rfl
   ·have:¬(b.toNat:Int)=32:=fun e=>q (UInt8.toNat_inj.1 (by have:(32:UInt8).toNat=32:=rfl;omega));rw[Ak q,Ak this]
  rw[g];by_cases q:b=32
  ·subst q;simp only[Ai,AI,Af];unfold cJ;rw[Ah rfl];by_cases e:c.data.toList=[]
   ·rw[Ah e];have:c=⟨#[]⟩:=fL (by rw[e]);subst this;simp
   ·have j:¬c=⟨#[]⟩:=fun x=>e (by rw[x]);rw[Ag e,Ak j];simp only[Af,Nat.ble_eq_true_of_le (show(v.length+[c].length)*16<=140737488355328 by simp only[Ad];omega),Ae,A0];have:=a (v++[c]) ⟨#[]⟩ d9 bG (by show 0<=_;omega);have e0:(⟨#[]⟩:ByteArray).data.toList=[]:=rfl;rw[e0] at this;cases r:cJ [] (s.data.toList.drop (k+1)) with
    |none=>rw[r] at this;exact this
    |some l =>
     rw[r] at this;simp only[Ab];have y:(⟨c.data.toList.toArray⟩:ByteArray)=c:=fL o5;rw[y];simpa using this
  ·have i:(decide ((0:Int)<=(k:Int)) && (decide ((k:Int)<=(k:Int)+1) && decide ((k:Int)+1<=(s.size:Int))))=true:=by
    have:k+1<=s.size:=d9;simp only[A7,Am];omega
   have e1:((k:Int)).toNat=k:=d9;have w:((k:Int)+1).toNat=k+1:=d9;have t:=uI s k b f;have m:(s.extract k (k+1)).size=1:=by rw[<-Z9,t];rfl
   simp only[Ak q,AN,Ae,i,e1,w,m,Al (show c.size+1<=4611686018427387904 by omega),A0];have o:(c++s.extract k (k+1)).data.toList=c.data.toList++[b]:=by
    rw[ByteArray.data_append,Array.toList_append,t]
   have:=a v (c++s.extract k (k+1)) d9 d9 (by rw[<-Z9,o,A6,Z9];simp;omega);rw[o] at this;unfold cJ;rw[Ag q];exact this
def vw (N:Nat) (s:ByteArray) (b:s.size<=4294967296):match cJ [] s.data.toList with
  |some l=>hU N s=some (l,true)
  |none=>∃u,hU N s=some (u,false):=by
 have h:=qW N s b s.size 0 [] ⟨#[]⟩ d9 o5 (by show 0<=0;omega);have e0:(⟨#[]⟩:ByteArray).data.toList=[]:=rfl;have e1:(((s.size:Int)-((0:Nat):Int)).toNat)=s.size:=o5;rw[e0,List.drop_zero] at h;unfold hU;rw[e1];cases a:cJ [] s.data.toList with
 |some l =>
  rw[a] at h;have h:I6 N s s.size 0 [] ⟨#[]⟩=some (.next ([]++l,⟨#[]⟩)):=h;rw[h];simp
 |none =>
  rw[a] at h;rcases h with h|⟨u,d,hd,h⟩
  ·rw[h];exact⟨_,rfl⟩
  ·rw[h];refine⟨u,?_⟩;simp[hd]
def sW (N:Nat) (b:List Int) (K:b.length<4294967281):kK N b=match fD (strOfNums b).data.toList with
  |none=>some (⟨[],[],0⟩,2)
  |some w=>(gN N w).bind fun r=>bif (!decide (r=0)) then some (⟨[],[],0⟩,r) else some (w,0):=by
 have H:(strOfNums b).size<=4294967296:=by rw[strOfNums_size];omega
 have h:=vw N (strOfNums b) H;unfold kK;cases g:cJ [] (strOfNums b).data.toList with
 |none =>
  rw[g] at h;obtain⟨u,h⟩:=h;rw[h];have:fD (strOfNums b).data.toList=none:=by
   cases i:fD (strOfNums b).data.toList with
   |none=>rfl
   |some w =>
    obtain⟨j,k⟩:=r5 i;obtain⟨l,B,C⟩:=q9.wo k;rw[j,C,qy l B] at g;cases g
  rw[this];rfl
 |some l =>
  rw[g] at h;have h:hU N (strOfNums b)=some (l,true):=h;rw[h];obtain⟨j,k⟩:=nM g o5;have E:lu ⟨l,true⟩:=fun w G=>by
   have:=k w G;refine⟨this.1,?_⟩;have e:=Z9 (strOfNums b);have J:=strOfNums_size b;have:=this.2;simp only[List.length_nil] at this;omega
  have F:eu ⟨l,true⟩=(strOfNums b).data.toList:=j.symm;obtain⟨w,r,c,_,_,_,d⟩:=l6.wo N ⟨l,true⟩ E;have d:=d rfl;rw[F] at d;simp only[A0,AI,Af,fw];unfold oW at c;cases p:l7 N ⟨l,true⟩ with
  |none=>rw[p] at c;cases c
  |some e =>
  rw[p] at c;simp only[A0] at c⊢;cases q:F4 N e.2 12 with
  |none=>rw[q] at c;cases c
  |some n =>
  rw[q] at c;simp only[A0] at c⊢;cases s:H9 N n.1.toNat 0 n.2 [] with
  |none=>rw[s] at c;cases c
  |some A =>
  rw[s] at c;simp only[A0] at c⊢;cases v:F4 N A.1 60 with
  |none=>rw[v] at c;cases c
  |some m =>
  rw[v] at c;simp only[A0] at c⊢;cases z:I8 N m.1.toNat 0 m.2 [] with
  |none=>rw[z] at c;cases c
  |some os =>
  rw[z] at c;simp only[A0,Option.some.injEq,Prod.mk.injEq] at c⊢;obtain⟨rfl,rfl⟩:=c;unfold fD;cases i:er (strOfNums b).data.toList with
  |none =>
   rw[i] at d;have d:os.1.cH=false:=d;simp only[d,AN,Ae,A0]
  |some x =>
   obtain⟨x,t⟩:=x;rw[i] at d;obtain⟨rfl,D,f⟩:=d;simp only[D,AI,Af,A0];cases o:os.1.l with
   |nil =>
    have:t=[]:=by rw[<-f];unfold eu;rw[o];rfl
    subst this;simp
   |cons y I =>
    have:t≠[]:=fun e=>by
     have f:=f;unfold eu at f;rw[o,e] at f;simp[V8] at f
    cases t with
    |nil=>exact absurd rfl this
    |cons a t =>
     have:decide ((0:Int)<(((y::I).length:Nat):Int))=true:=Al (by simp only[AP];omega);simp only[this,Ae]
theorem qa (N:Nat) (x:Cl):∀(l:List Cl) (k:Nat),U2 N x l k=some (bif eL l x.name then .ret 7 else .next ())
 |[],k=>rfl
 |d::l,k=>by
  rw[U2,qa N x l (k+1)];unfold eL;rw[List.any_cons];by_cases h:d.name=x.name<;>simp[h]
theorem qb (N:Nat) (w:Wd):∀(l:List Cl) (k:Nat),l=w.a7.drop k->R5 N w O5 l k=some (eD w l k)
 |[],k,_=>rfl
 |c::l,k,h=>by
  obtain⟨u,t,j⟩:=e7 h;have j:=of_decide_eq_true j;have ih:=qb N w l (k+1) t;have r:(decide ((0:Int)<=(k:Int)) && decide ((k:Int)<=(w.a7.length:Int)))=true:=by
   simp only[A7,Am];omega
  have q:((k:Int)).toNat=k:=d9;rw[R5,mJ,eD];simp only[r,q,qa,ih,A0,Ae];unfold fO jZ iY;generalize eL (w.a7.take k) c.name=g;cases v:V9 c.name with
  |false=>simp
  |true =>
   cases o:O5.a7[k]? with
   |some f =>
    have s:=rR o;have e1:decide ((k:Int)<(4:Int))=true:=Al d9;simp only[e1,H5,o,A0,Ae,Af,AI,Bool.false_or];by_cases a:c.name=f.name
    ·cases g with
     |true=>simp[a]
     |false =>
      by_cases b:c.aH=f.aH
      ·by_cases d:c.aC<0
       ·have:¬c.aC=0:=d9;simp[a,b,d,this]
       ·by_cases n:0<c.aC
        ·have:¬c.aC=0:=d9;simp[a,b,d,n,this]
        ·have:c.aC=0:=d9;simp[a,b,this]
      ·simp[a,b]
    ·simp[a]
   |none =>
    have s:=rT o;have e1:decide ((k:Int)<(4:Int))=false:=Ak d9;simp only[e1,A0,Ae,Af,AI,Bool.false_or];cases g with
    |true=>simp
    |false =>
     by_cases a:c.aH<0
     ·simp[a]
     ·by_cases b:(k:Int)<=c.aH
      ·simp[a,b]
      ·by_cases m:c.aH=0
       ·have i:¬k=0:=d9;by_cases d:c.aC<0
        ·simp[i,b,m,d]
        ·by_cases n:6<c.aC<;>simp[i,b,m,d,n]
       ·have e:0<c.aH:=d9;by_cases p:c.aH<4
        ·simp[a,b,m,e,p]
        ·by_cases d:c.aC<0
         ·simp[a,b,m,e,d,p]
         ·by_cases n:6<c.aC<;>simp[a,b,m,e,d,n,p]
theorem qR (N:Nat) (k:Nat) (m:Me):∀(l:List Me) (j:Nat) (b:Bool),M5 N k m l j b=some (b || (decide (k=3) && (l.any (fun p=>decide (p.name=m.name) && decide (p.aO=m.aO)) && (decide (m.args=1) && (decide (m.aJ=0) && decide (m.code=[]))))))
 |[],j,b=>by simp[M5]
 |x::l,j,b=>by
  have n:decide ((m.code.length:Int)=0)=decide (m.code=[]):=by
   cases m.code<;>simp;omega
  have o:decide ((k:Int)=3)=decide (k=3):=by
   by_cases h:k=3
   ·subst h;rfl
   ·rw[Ak h,Ak d9]
  rw[M5,n,o,List.any_cons];simp only[qR N k m l (j+1)];generalize decide (k=3)=a;generalize decide (x.name=m.name)=c;generalize decide (x.aO=m.aO)=d;generalize decide (m.args=1)=e;generalize decide (m.aJ=0)=f;generalize decide (m.code=[])=g;generalize (l.any fun p=>decide (p.name=m.name) && decide (p.aO=m.aO))=i;cases b<;>cases a<;>cases c<;>cases d<;>cases e<;>cases f<;>cases g<;>cases i<;>rfl
theorem qU (N:Nat) (w:Wd) (k:Nat) (c:Cl) (i:4194304<=N) (d:eC w) (n:c∈w.a7) (b:0<=F3 w (k:Int)/\F3 w (k:Int)<=1000000000):∀(l:List Me) (j:Nat),l=c.aB.drop j->U1 N w O5 k c l j=eG N w k c.aB l j
 |[],j,_=>rfl
 |m::l,j,h=>by
  obtain⟨y,t,a⟩:=e7 h;have a:=of_decide_eq_true a;have u:=(d.2.2.1 c n).1;have ih:=qU N w k c i d n b l (j+1) t;have ep:((bif decide ((0:Int)<(j:Int)) then((u6 c.aB (wr ((j:Int)-(1:Int)))).bind fun e=>some ((!V7 e.name m.name))) else some (false)):Option Bool) =
    some (fQ (if j=0 then none else c.aB[j-1]?) m):=by
   by_cases g:j=0
   ·subst g;rfl
   ·have x:wr ((j:Int)-1)=((j-1:Nat):Int):=by rw[K6 ino];omega
    obtain⟨p,v⟩:∃p,c.aB[j-1]?=some p:=⟨_,A8 d9⟩;rw[Al (show(0:Int)<(j:Int) by omega),Ag g];simp only[Ae,x,H5,v,A0,fQ]
  have q:u6 O5.a7 (3:Int)=some ⟨⟨#[73,110,116]⟩,0,0,M6⟩:=rfl;have r:M5 N k m M6 0 false=some (fU k m):=by rw[qR];rfl
  obtain⟨f,o⟩:=mU N w (k:Int) m i;rw[U1,ep,q,tD N w _ _ d9 d.1 b,o,eG];unfold fo;simp only[A0,ih,r,o,Ab];cases fQ (if j=0 then none else c.aB[j-1]?) m with
  |true=>simp
  |false =>
   cases fU k m with
   |true=>simp
   |false=>by_cases s:f.err=0<;>simp[s]
theorem qZ (N:Nat) (w:Wd) (d:4194304<=N) (b:eC w) (a:∀c:Int,0<=F3 w c/\F3 w c<=1000000000):∀(l:List Cl) (k:Nat),l=w.a7.drop k->R7 N w O5 l k=ed N w l k
 |[],k,_=>rfl
 |c::l,k,h=>by
  obtain⟨e,f,g⟩:=e7 h;rw[R7,mH N w _ d9 b.1,ed,qU N w k c d b (AO e) (a _) c.aB 0 rfl];simp only[A0,qZ N w d b a l (k+1) f];rfl
theorem qc (N:Nat) (w:Wd):∀(l:List V) (k:Nat),T9 N w l k=some (fR (w.heap.length:Int) l)
 |[],k=>rfl
 |v::l,k=>by
  rw[T9,sy,fR];simp only[A0,qc N w l (k+1)];by_cases h:fj v (w.heap.length:Int)=0<;>simp[h]
theorem qd (N:Nat) (w:Wd) (c:1048578<=N) (d:w.a7.length<=1048576) (i:4<=w.a7.length):∀(l:List Ob) (k:Nat),R8 N w l k=some (fK w l)
 |[],k=>rfl
 |o::l,k=>by
  rw[R8,mH N w _ c d,fK,qc];simp only[A0,qd N w c d i l (k+1)];have e:((bif decide (o.cls<(0:Int)) then some (true) else(bif decide ((0:Int)<o.cls) then(bif decide (o.cls<(4:Int)) then some (true) else(bif decide ((w.a7.length:Int)<=o.cls) then some (true) else some ((!decide ((o.aC.length:Int)=F3 w o.cls))))) else(bif decide ((w.a7.length:Int)<=o.cls) then some (true) else some ((!decide ((o.aC.length:Int)=F3 w o.cls)))))):Option Bool)=some (fe w o):=by
   unfold fe;by_cases b:o.cls<0
   ·have:¬o.cls=0:=d9;have h:o.cls<4:=d9;simp[b,this,h]
   ·by_cases f:o.cls=0
    ·have:¬(w.a7.length:Int)<=o.cls:=d9;have a:¬(0:Int)<o.cls:=d9;rw[Ak b,Ak a,Ak this,Al f];rfl
    ·have a:(0:Int)<o.cls:=d9;rw[Ak b,Al a,Ak f];by_cases g:o.cls<4
     ·simp[g]
     ·by_cases j:(w.a7.length:Int)<=o.cls<;>simp[g,j]
  rw[e];simp only[A0];cases fe w o with
  |true=>rfl
  |false =>
   simp only[Af];cases fR (w.heap.length:Int) o.aC<;>rfl
def qe (N:Nat) (w:Wd) (i:4194304<=N) (d:eC w):gN N w=iG N w:=by
 unfold gN iG lz;have e1:((bif decide ((w.a7.length:Int)<(4:Int)) then some (true) else(bif decide ((12:Int)<(w.a7.length:Int)) then some (true) else some (decide ((60:Int)<(w.heap.length:Int))))):Option Bool)=some (decide ((w.a7.length:Int)<4) || (decide (12<(w.a7.length:Int)) || decide (60<(w.heap.length:Int)))):=by
  by_cases a:(w.a7.length:Int)<4
  ·simp[a]
  ·by_cases p:(12:Int)<(w.a7.length:Int)<;>simp[a,p]
 have g:((bif decide (w.aN<(0:Int)) then some (true) else some (decide ((1073741824:Int)<w.aN))):Option Bool)=some (decide (w.aN<0) || decide (1073741824<w.aN)):=by
  by_cases a:w.aN<0<;>simp[a]
 simp only[A0,e1,g];cases m:(decide ((w.a7.length:Int)<4) || (decide (12<(w.a7.length:Int)) || decide (60<(w.heap.length:Int)))) with
 |true=>rfl
 |false =>
  have h:4<=w.a7.length:=by
   simp only[Bool.or_eq_false_iff,decide_eq_false_iff_not] at m;omega
  simp only[Af];cases (decide (w.aN<0) || decide (1073741824<w.aN)) with
  |true=>rfl
  |false =>
   simp only[Af,qb N w w.a7 0 rfl,qd N w d9 d.1 h w.heap 0,A0];cases b:eD w w.a7 0 with
   |ret r=>rfl
   |next u =>
    have e:∀c:Int,0<=F3 w c/\F3 w c<=1000000000:=uq (fun x n=>by
     obtain⟨j,l⟩:=List.mem_iff_getElem?.1 n;obtain⟨_,_,_,f⟩:=pj (r4 (k:=0) rfl b j x (Nat.zero_le _) l);unfold iY at f;simp only[Bool.or_eq_false_iff,decide_eq_false_iff_not] at f;omega) d.1
    simp only[qZ N w i d e w.a7 0 rfl];cases ed N w w.a7 0 with
    |none=>rfl
    |some o =>
     cases o with
     |ret r=>rfl
     |next u =>
      simp only[A0];cases fK w w.heap<;>rfl
def tv (b:Wd) (c:List Int) (g:km b) (n:(di cf) c) (o:fx b+(bI bE) c<=1048576):∃N,mF N b c=some true:=by
 obtain⟨N,i⟩:∃N:Nat,N=4194304:=⟨_,rfl⟩;have d:4194304<=N:=d9;refine⟨N,?_⟩;have e:=vJ (w:=b) d9;have p:=x6 g;have j:=iE (bk:=bE) (fun a=>AA _) c;unfold mF;rw[qF N b d e,qe N b d e,ve N b d9,wU N b d9,vf N c d9,sW N c d9];obtain⟨r,m⟩:=qS N b d;have e0:strOfNums (U (bh b))=tx (bh b):=fL (by rw[rZ];rfl);simp only[A0,m,Ai,AI,Af,e0];have e1:((bif decide (r=(0:Int)) then some false else some false):Option Bool)=some false:=by cases decide (r=0)<;>rfl
 simp only[e1,A0,Af];cases k:fD (strOfNums c).data.toList with
 |none=>simp[mN]
 |some x =>
  obtain⟨s,f⟩:=r5 k;obtain⟨q,l⟩:=qS N x d;simp only[qF N x d f.small,qe N x d f.small,l,A0];by_cases h:q=0
  ·simp[h,mN]
  ·simp[h,mN]
end Go.Proofs.YtibjcppjfkamhaaGreatDoor
