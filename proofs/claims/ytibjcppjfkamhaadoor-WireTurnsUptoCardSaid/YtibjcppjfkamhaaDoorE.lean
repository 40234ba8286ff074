import Derived.Test.YtibjcppjfkamhaaDoorC
set_option linter.unusedVariables false
set_option linter.defProp false
set_option linter.unusedSimpArgs false
namespace Go.Proofs.YtibjcppjfkamhaaDoor
open Go.RowKit
open _root_.Bool renaming and_eq_true->A7,not_true->AL,not_false->AR
open _root_.ByteArray renaming empty->AK
open _root_.List renaming length_append->A6,getElem?_eq_getElem->A8,getElem?_eq_some_iff->AB,all_eq_true->AD,mem_cons->AF,append_assoc->AG,mem_map->AI,replicate->AJ,getElem?_set->AM,length_map->AN,map_cons->AO,mem_of_getElem?->AP,mem_append->AS,getElem?_eq_none->AT,eq_nil_of_length_eq_zero->AU,length_cons->AY,length_singleton->Ac
open _root_.Nat renaming le_refl->AA,ble->AE
open _root_.Option renaming bind_some->A0,map_eq_some_iff->AX,bind_eq_some_iff->Ab
def iv (a b:V):bu (eV a) (eV b)=decide (a=b):=vy a b
def ig (a b:St):bu (qJ a) (qJ b)=decide (a=b):=vv a b
def im (a b:Ln):bu (qI a) (qI b)=decide (a=b):=vj a b
def iV (a b:Ins):bu (dU a) (dU b)=decide (a=b):=vV a b
def iW {b:Type} {l:List b} {k n:Nat} (h:n+1=(l.drop k).length):∃y,l[k]?=some y/\l.drop k=y::l.drop (k+1)/\n=(l.drop (k+1)).length:=by
 rw[List.length_drop] at h;have a:k<l.length:=d9;refine⟨l[k],A8 a,List.drop_eq_getElem_cons a,by rw[List.length_drop];omega⟩
def iU {a:Type} {l:List a} {k:Nat} (h:0=(l.drop k).length):l.drop k=[]:=AU h.symm
theorem oE (N:Nat) (b:List Ins):∀(l:List Ins) (k:Nat),l.length=(b.drop k).length->J6 N b l k=some (if l=b.drop k then .next () else .ret false)
 |[],k,h=>by rw[iU h];rfl
 |x::l,k,h=>by
  obtain⟨y,c,hd,a⟩:=iW h;rw[hd,J6];simp only[A0,Option.bind_none,Ad,Ae,Bool.cond_decide,iv,ig,im,iV,AL,AR,K9,c,oE N b l (k+1) a];by_cases e:x=y<;>simp[e]
def sd (N:Nat) (a b:List Ins):jQ N a b=some (decide (a=b)):=by
 unfold jQ;by_cases h:a.length=b.length
 ·rw[oE N b a 0 (by simpa using h)];by_cases e:a=b<;>simp[h,e]
 ·have:a≠b:=fun e=>h (by rw[e]);have c:¬((a.length:Int)=b.length):=d9;simp[this,c]
theorem nN (N:Nat) (b:Wd) (i:Nat) (o:Ob) (a:b.heap[i]?=some o):∀(l:List V) (k:Nat),l.length=(o.aD.drop k).length->I5 N b i l k=some (if l=o.aD.drop k then .next () else .ret false)
 |[],k,h=>by rw[iU h];rfl
 |x::l,k,h=>by
  obtain⟨y,d,hd,c⟩:=iW h;rw[hd,I5];simp only[A0,Option.bind_none,Ad,Ae,Bool.cond_decide,iv,ig,im,iV,AL,AR,K9,d,a,nN N b i o a l (k+1) c];by_cases e:x=y<;>simp[e]
theorem ni (N:Nat) (b:Wd):∀(l:List Ob) (k:Nat),l.length=(b.heap.drop k).length->I6 N b l k=some (if l=b.heap.drop k then .next () else .ret false)
 |[],k,h=>by rw[iU h];rfl
 |x::l,k,h=>by
  obtain⟨y,i,hd,m⟩:=iW h;rw[hd,I6];simp only[A0,Option.bind_none,Ad,Ae,Bool.cond_decide,iv,ig,im,iV,AL,AR,K9,i,ni N b l (k+1) m];obtain⟨n,a⟩:=x;obtain⟨j,c⟩:=y;by_cases e1:n=j
  ·by_cases f:a.length=c.length
   ·have:=nN N b k ⟨j,c⟩ i a 0 (by simpa using f);simp only[List.drop_zero] at this;by_cases d:a=c
    ·subst d;simp[e1,this]
    ·simp[e1,f,d,this]
   ·have d:a≠c:=fun e=>f (by rw[e]);have g:¬((a.length:Int)=c.length):=d9;simp[e1,g,d]
  ·simp[e1]
theorem nk (N:Nat) (c:Cl):∀(l:List Me) (k:Nat),l.length=(c.a8.drop k).length->I9 N c l k=some (if l=c.a8.drop k then .next () else .ret false)
 |[],k,h=>by rw[iU h];rfl
 |x::l,k,h=>by
  obtain⟨y,g,hd,f⟩:=iW h;rw[hd,I9];simp only[A0,Option.bind_none,Ad,Ae,Bool.cond_decide,iv,ig,im,iV,AL,AR,K9,g,nk N c l (k+1) f,sd];obtain⟨i,j,m,n,o⟩:=x;obtain⟨p,q,r,s,t⟩:=y;by_cases e1:i=p
  ·by_cases a:j=q
   ·by_cases b:m=r
    ·by_cases d:n=s
     ·by_cases e:o=t<;>simp[e1,a,b,d,e]
     ·simp[e1,a,b,d]
    ·simp[e1,a,b]
   ·simp[e1,a]
  ·simp[e1]
theorem nj (N:Nat) (b:Wd):∀(l:List Cl) (k:Nat),l.length=(b.a7.drop k).length->I8 N b l k=some (if l=b.a7.drop k then .next () else .ret false)
 |[],k,h=>by rw[iU h];rfl
 |x::l,k,h=>by
  obtain⟨y,q,hd,p⟩:=iW h;rw[hd,I8];simp only[A0,Option.bind_none,Ad,Ae,Bool.cond_decide,iv,ig,im,iV,AL,AR,K9,q,nj N b l (k+1) p];obtain⟨r,s,t,c⟩:=x;obtain⟨m,n,o,d⟩:=y;by_cases e1:r=m
  ·by_cases a:s=n
   ·by_cases f:t=o
    ·by_cases i:c.length=d.length
     ·have:=nk N ⟨m,n,o,d⟩ c 0 (by simpa using i);simp only[List.drop_zero] at this;by_cases g:c=d
      ·subst g;simp[e1,a,f,this]
      ·simp[e1,a,f,i,g,this]
     ·have g:c≠d:=fun e=>i (by rw[e]);have j:¬((c.length:Int)=d.length):=d9;simp[e1,a,f,j,g]
    ·simp[e1,a,f]
   ·simp[e1,a]
  ·simp[e1]
def sa (N:Nat) (a b:Wd):V7 N a b=some (decide (a=b)):=by
 unfold V7;obtain⟨g,h,q⟩:=a;obtain⟨c,d,m⟩:=b;by_cases f:q=m
 ·by_cases j:g.length=c.length
  ·by_cases k:h.length=d.length
   ·have l:=nj N ⟨c,d,m⟩ g 0 (by simpa using j);have p:=ni N ⟨c,d,m⟩ h 0 (by simpa using k);simp only[List.drop_zero] at l p;by_cases e1:g=c
    ·subst e1;by_cases i:h=d
     ·subst i;simp[f,l,p]
     ·simp[i,f,k,l,p]
    ·simp[e1,f,j,k,l]
   ·have i:h≠d:=fun e=>k (by rw[e]);have o:¬((h.length:Int)=d.length):=d9;simp[i,f,j,o]
  ·have e1:g≠c:=fun e=>j (by rw[e]);have n:¬((g.length:Int)=c.length):=d9;simp[e1,f,n]
 ·simp[f]
def oq {a b:Nat} (h:a<=b):AE a b=true:=by rw[Nat.ble_eq];exact h
def oo {a:Type} {l:List a} {i:Int} (h:¬(i<l.length)):l[i.toNat]?=none:=AT d9
def lh {a:Type} {l:List a} {i:Int} (h:0<=i):H7 l i=l[i.toNat]?:=by
 unfold H7;rw[Ak h];rfl
def pb {b:Type} {l:List b} {i:Int} (h:0<=i) (c:i<l.length):∃x,l[i.toNat]?=some x/\H7 l i=some x:=by
 have a:i.toNat<l.length:=d9;exact⟨l[i.toNat],A8 a,by rw[lh h,A8 a]⟩
def gi (v:V) (n:Int):Int :=
 if v.k=0\/v.k=1\/v.k=2 then(if v.n=0 then 0 else 2)
 else if v.k=3 then(if v.n < -1073741824\/1073741824<v.n then 3 else 0)
 else if v.k=4 then(if v.n<0\/n<=v.n then 6 else 0) else 1
def s9 (N:Nat) (v:V) (n:Int):jc N v n=some (gi v n):=by
 unfold jc gi;by_cases b:v.k=0
 ·by_cases h:v.n=0<;>simp[b,h]
 by_cases c:v.k=1
 ·by_cases h:v.n=0<;>simp[c,h]
 by_cases d:v.k=2
 ·by_cases h:v.n=0<;>simp[d,h]
 by_cases e:v.k=3
 ·by_cases h:v.n < -1073741824<;>by_cases a:1073741824<v.n<;>simp[e,h,a]
 by_cases f:v.k=4
 ·by_cases h:v.n<0<;>by_cases a:n<=v.n<;>simp[f,h,a]
 simp[b,c,d,e,f]
theorem o3 : ∀a:List UInt8,Op.bytesLess a a=false
 |[]=>rfl
 |a::x=>by simp[Op.bytesLess,o3 x]
theorem pN : ∀a b c:List UInt8,Op.bytesLess a b=true->Op.bytesLess b c=true->Op.bytesLess a c=true
 |_,[],_,h,_=>by simp[Op.bytesLess] at h
 |_,_::_,[],_,h=>by simp[Op.bytesLess] at h
 |[],_::_,_::_,_,_=>rfl
 |a::x,b::y,c::z,h,d=>by
  simp only[Op.bytesLess,Bool.or_eq_true,A7,Al,beq_iff_eq] at h d⊢;rcases h with h|⟨rfl,h⟩
  ·rcases d with d|⟨rfl,_⟩
   ·exact Or.inl (UInt8.lt_trans h d)
   ·exact Or.inl h
  ·rcases d with d|⟨rfl,d⟩
   ·exact Or.inl d
   ·exact Or.inr ⟨rfl,pN x y z h d⟩
def oW (b:ByteArray):b.toList=b.data.toList:=by
 have:∀(n i:Nat) (r:List UInt8),n=b.size-i->ByteArray.toList.loop b i r=r.reverse++b.data.toList.drop i:=by
  intro n
  induction n with
  |zero =>
   intro i r h;unfold ByteArray.toList.loop;rw[Af d9];have:b.data.toList.length<=i:=by simpa using(show b.size<=i by omega)
   rw[List.drop_eq_nil_of_le this];simp
  |succ n ih =>
   intro i r h;have a:i<b.size:=d9;have c:i<b.data.toList.length:=by simpa using a
   unfold ByteArray.toList.loop;rw[Ag a,ih (i+1) _ d9,List.drop_eq_getElem_cons c];have e:b.get! i=b.data.toList[i]:=by
    show b.data[i]! = _;rw[getElem!_pos b.data i a,Array.getElem_toList]
   simp[e]
 have:=this b.size 0 [] d9;simpa[ByteArray.toList] using this
def toList_inj {a b:ByteArray} (h:a.toList=b.toList):a=b:=by
 rw[oW,oW] at h;cases a;cases b;congr;exact Array.toList_inj.1 h
def gk (a:ByteArray):Q6 a a=false:=o3 _
def lt_trans {a b c:ByteArray} (h:Q6 a b=true) (d:Q6 b c=true):Q6 a c=true:=pN _ _ _ h d
def eX (c:List Me):Prop:=c.Pairwise fun a b=>Q6 a.name b.name=true
def bK (s:ByteArray):List Me->Option Nat
 |[]=>none
 |m::r=>if m.name=s then some 0 else(bK s r).map (·+1)
theorem gT {s:ByteArray}:∀{b:List Me} {i:Nat},bK s b=some i->∃m,b[i]?=some m/\m.name=s
 |m::r,i,h=>by
  unfold bK at h;by_cases e:m.name=s
  ·rw[Ag e] at h;cases h;exact⟨m,rfl,e⟩
  ·rw[Af e] at h;cases a:bK s r with
   |none=>rw[a] at h;cases h
   |some j=>rw[a] at h;cases h;obtain⟨f,c,d⟩:=gT a;exact⟨f,c,d⟩
theorem pE {s:ByteArray}:∀{c:List Me},bK s c=none->∀m∈c,m.name≠s
 |[],_=>fun m d=>by cases d
 |m::r,h=>by
  unfold bK at h;by_cases e:m.name=s
  ·rw[Ag e] at h;cases h
  ·rw[Af e] at h;cases b:bK s r with
   |some j=>rw[b] at h;cases h
   |none =>
    intro x a;rcases AF.1 a with rfl|a
    ·exact e
    ·exact pE b x a
def gV {f:List Me} (h:eX f) {i j:Nat} {a b:Me} (g:f[i]?=some a) (k:f[j]?=some b) (d:i<j):Q6 a.name b.name=true:=by
 obtain⟨c,rfl⟩:=AB.1 g;obtain⟨e,rfl⟩:=AB.1 k;exact List.pairwise_iff_getElem.1 h i j c e d
def uL {b:List Me} (h:eX b) {i:Nat} {m:Me} (c:b[i]?=some m):bK m.name b=some i:=by
 cases f:bK m.name b with
 |none=>exact absurd rfl (pE f m (AP c))
 |some j =>
  obtain⟨g,d,e⟩:=gT f;rcases Nat.lt_trichotomy i j with a|a|a
  ·have:=gV h c d a;rw[e,gk] at this;cases this
  ·rw[a]
  ·have:=gV h d c a;rw[e,gk] at this;cases this
def nZ (N:Nat) (m:Me) (s:ByteArray):T9 N m s=some (if Q6 m.name s=true then -1 else if m.name=s then 0 else 1):=by
 unfold T9 kf cmp_isNaN_string;cases h:Q6 m.name s
 ·by_cases e:m.name=s<;>simp[e]
 ·simp
theorem lD (N:Nat) (c:List Me) (s:ByteArray) (u:c.length<=1048576) (o:eX c):∀(n:Nat) (a b:Nat),a<=b->b<=c.length->b-a<n ->
  (∀i m,i<a->c[i]?=some m->Q6 m.name s=true)->(∀i m,b<=i->c[i]?=some m->Q6 m.name s=false) ->
  ∃v:Nat,l5 N c s (fun p q=>T9 N p q) n (a:Int) (b:Int)=some (v:Int)/\v<=c.length /\
   (∀i m,i<v->c[i]?=some m->Q6 m.name s=true)/\(∀i m,v<=i->c[i]?=some m->Q6 m.name s=false)
 |0,a,b,_,_,h,_,_=>d9
 |n+1,a,b,w,t,G,r,g=>by
  rw[l5];by_cases z:a<b
  ·have d:(a:Int)<(b:Int):=d9;have D:wr ((a:Int)+(b:Int))=((a+b:Nat):Int):=by rw[O7 ino];omega
   have E:((a+b:Nat):Int) / 2=(((a+b) / 2:Nat):Int):=d9;have w3:decide (C9 ((((a+b) / 2:Nat):Int)))=true:=Ak ino;have F:wr ((((a+b) / 2:Nat):Int)+1)=(((a+b) / 2+1:Nat):Int):=by rw[O7 ino];omega
   have j:(a+b) / 2<c.length:=d9;obtain⟨x,k⟩:∃x,c[(a+b) / 2]?=some x:=⟨_,A8 j⟩;have w5:(0:Int)<=((a+b:Nat):Int):=d9;have A:=nZ N x s;simp only[D,E,w3,F,w5,d,K9,k,A,Ah,Ad,A0];cases l:Q6 x.name s with
   |true =>
    simp only[if_true,show((-1:Int)<0)=True by simp,Ah,Ad,A0];refine lD N c s u o n _ b d9 t d9 (fun i m y f=>?_) g;rcases Nat.lt_or_ge i ((a+b) / 2) with h|h
    ·exact lt_trans (gV o f k h) l
    ·have e:i=(a+b) / 2:=d9;subst e;rw[k] at f;cases f;exact l
   |false =>
    have hd:∀i m,(a+b) / 2<=i->c[i]?=some m->Q6 m.name s=false:=by
     intro i m y f;rcases Nat.lt_or_ge ((a+b) / 2) i with h|h
     ·cases B:Q6 m.name s with
      |false=>rfl
      |true=>have:=lt_trans (gV o k f h) B;rw[l] at this;cases this
     ·have e:i=(a+b) / 2:=d9;subst e;rw[k] at f;cases f;exact l
    have C:decide ((if false=true then(-1:Int) else if x.name=s then 0 else 1)<0)=false:=by
     by_cases e:x.name=s<;>simp[e]
    rw[C];simp only[Ae,A0];exact lD N c s u o n a _ d9 d9 d9 r hd
  ·have d:¬(a:Int)<(b:Int):=d9;simp only[d,Ai,Ae];have e:a=b:=d9;subst e;exact⟨a,rfl,t,r,g⟩
def qy (N:Nat) (b:List Me) (s:ByteArray) (B:1048577<=N) (y:b.length<=1048576) (o:eX b) :
  ∃v:Nat,o6 N b s (fun g j=>T9 N g j)=some ((v:Int),(bK s b).isSome)/\(∀i:Nat,bK s b=some i->(v:Int)=i)/\v<=b.length /\
   (∀i m,i<v->b[i]?=some m->Q6 m.name s=true)/\(∀i m,v<=i->b[i]?=some m->Q6 m.name s=false):=by
 obtain⟨v,A,q,n,p⟩:=lD N b s y o N 0 b.length d9 d9 d9 (fun i m h=>absurd h d9) (fun i m h z=>by
  have:=(AB.1 z).1;omega)
 refine⟨v,?_,?_,q,n,p⟩
 ·unfold o6;have t:l5 N b s (fun g j=>T9 N g j) N (0:Int) (b.length:Int)=some (v:Int):=A;rw[t];simp only[A0];by_cases r:v<b.length
  ·have d:(v:Int)<(b.length:Int):=d9;obtain⟨x,f⟩:∃x,b[v]?=some x:=⟨_,A8 r⟩;have u:=p v x (AA _) f;simp only[d,Ah,Ad,K9,f,A0,nZ,u];by_cases e:x.name=s
   ·have:=uL o f;rw[e] at this;simp[e,this]
   ·cases k:bK s b with
    |none=>simp[e]
    |some i =>
     obtain⟨l,a,c⟩:=gT k;rcases Nat.lt_trichotomy i v with h|h|h
     ·have:=n i l h a;rw[c,gk] at this;cases this
     ·subst h;rw[f] at a;cases a;exact absurd c e
     ·have:=gV o f a h;rw[c] at this;rw[u] at this;cases this
  ·have d:¬(v:Int)<(b.length:Int):=d9;simp only[d,Ai,Ae,A0];cases k:bK s b with
   |none=>rfl
   |some i =>
    obtain⟨l,a,c⟩:=gT k;have:=(AB.1 a).1;have:=n i l d9 a;rw[c,gk] at this;cases this
 ·intro i k;obtain⟨l,a,c⟩:=gT k;have w:=(AB.1 a).1;rcases Nat.lt_trichotomy i v with h|h|h
  ·have:=n i l h a;rw[c,gk] at this;cases this
  ·rw[h]
  ·obtain⟨x,f⟩:∃x,b[v]?=some x:=⟨b[v]' d9,A8 d9⟩;have:=gV o f a h;rw[c] at this;rw[p v x (AA _) f] at this;cases this
def ca (N:Nat) (a:List Me) (s:ByteArray) (f:1048577<=N) (g:a.length<=1048576) (h:eX a) :
  ∃v:Int,o6 N a s (fun b c=>T9 N b c)=some (v,(bK s a).isSome)/\∀i:Nat,bK s a=some i->v=i:=by
 obtain⟨v,d,e,_⟩:=qy N a s f g h;exact⟨_,d,e⟩
def Y9 (w:Wd) (s:ByteArray):Nat->Int->Option (Int×Int)
 |0,_=>none
 |n+1,c=>if 0<=c then(match w.a7[c.toNat]? with
  |some x=>(match bK s x.a8 with|some i=>some (c,(i:Int))|none=>Y9 w s n x.aJ)
  |none=>none) else none
def kF (w:Wd) (s:ByteArray) (c:Int):Int×Int:=(Y9 w s (w.a7.length+1) c).getD (-1,-1)
def lM (w:Wd):Prop:=∀x∈w.a7,eX x.a8
def ew (w:Wd):Prop:=w.a7.length<=1048576/\w.heap.length<=1048576/\(∀x∈w.a7,x.a8.length<=1048576/\∀m∈x.a8,m.code.length<=1048576)/\∀o∈w.heap,o.aD.length<=1048576
def qF {a:Type} (o:Option (Int×Int)) (s:a):J4 (Int×Int) a:=match o with|some p=>.ret p|none=>.next s
theorem nX (N:Nat) (w:Wd) (s:ByteArray) (m:1048577<=N) (o:lM w) (j:ew w):∀(n:Nat) (k:Nat) (c:Int),k<=w.a7.length+1->w.a7.length+1-k<n ->
  Q9 N w s n c (k:Int)=some (qF (Y9 w s (w.a7.length+1-k) c) ())
 |0,k,c,_,h=>d9
 |n+1,k,c,y,z=>by
  rw[Q9];by_cases a:0<=c
  ·by_cases d:c<w.a7.length
   ·obtain⟨x,p,f⟩:=pb a d;by_cases u:k<=w.a7.length
    ·have b:(k:Int)<=(w.a7.length:Int):=d9;have g:=AP p;obtain⟨v,r,l⟩:=ca N x.a8 s m (j.2.2.1 x g).1 (o x g);have e:w.a7.length+1-k=(w.a7.length+1-(k+1))+1:=d9;have t:wr ((k:Int)+1)=((k+1:Nat):Int):=by rw[O7 (by have:=j.1;unfold C9;omega)];omega
     rw[e,Y9];simp only[a,d,b,Ah,Ad,A0,f,r,p,if_true,t];cases q:bK s x.a8 with
     |some i=>have:=l i q;subst this;rfl
     |none =>
      simp only[Option.isSome_none,Ae];exact nX N w s m o j n (k+1) x.aJ d9 d9
    ·have b:¬(k:Int)<=(w.a7.length:Int):=d9;have e:w.a7.length+1-k=0:=d9;simp only[a,d,b,Ah,Ai,Ad,Ae,A0,e];rfl
   ·have:Y9 w s (w.a7.length+1-k) c=none:=by
     cases w.a7.length+1-k with
     |zero=>rfl
     |succ n=>rw[Y9,Ag a,oo d]
    simp only[a,d,Ah,Ai,Ad,Ae,A0,this];rfl
  ·have:Y9 w s (w.a7.length+1-k) c=none:=by
    cases w.a7.length+1-k with
    |zero=>rfl
    |succ n=>rw[Y9,Af a]
   simp only[a,Ai,Ae,A0,this];rfl
def sR (N:Nat) (w:Wd) (c:Int) (s:ByteArray) (e:1048578<=N) (d:lM w) (a:ew w):jf N w c s=some (kF w s c):=by
 unfold jf kF;have h:=nX N w s d9 d a N 0 c d9 (by have:=a.1;omega);have b:Q9 N w s N c (0:Int)=some (qF (Y9 w s (w.a7.length+1) c) ()):=h;rw[b];cases Y9 w s (w.a7.length+1) c<;>rfl
def gv (w:Wd):Nat->Int->List Int
 |0,_=>[]
 |n+1,c=>if 0<=c then(match w.a7[c.toNat]? with|some x=>c::gv w n x.aJ|none=>[]) else[]
def Z4 (w:Wd) (c:Int):Int:=(gv w (w.a7.length+1) c).foldl (fun n k=>match w.a7[k.toNat]? with|some x=>wr (n+x.aD)|none=>n) 0

def ef (u:UInt8):Bool:=!decide ((u.toNat:Int)<33) && !decide (126<(u.toNat:Int))
def V9 (s:ByteArray):Bool:=s.data.toList.all ef && (decide (0<s.size) && decide (s.size<=12))
def uS (s:ByteArray) (k:Nat):hA s (k:Int)=s.data.toList[k]?:=by
 unfold hA;rw[Ak (Int.natCast_nonneg k)];show s[k]?=_;by_cases h:k<s.size
 ·rw[getElem?_pos s k h,A8 (by simpa using h)];rfl
 ·rw[getElem?_neg s k h,AT (by simpa using h)]
def kI (m:Me):Prop:=∀i∈m.code,i.op=14->0<=i.a/\i.a<=4
def bG (i:Ins) (p:Int):Int×Int×List Int :=
 if i.op=9\/i.op=11\/i.op=12 then(1,-1,[wr (p+1)]) else if i.op=10 then(1,1,[wr (p+1)])
 else if i.op=14 then(wr (i.a+1),-i.a,[wr (p+1)]) else if i.op=15 then(0,0,[i.a])
 else if i.op=16 then(1,-1,[wr (p+1),i.a]) else if i.op=17 then(1,-1,[]) else(0,1,[wr (p+1)])
def pS (i:Ins) (p:Int):(bG i p).2.2.length<=2:=by
 unfold bG
 (repeat' split)<;>simp
def oT {i:Ins} {p:Int} {x:Int} (m:0<=x) (l:x<=12) (c:¬x<(bG i p).1) (b:¬12<wr (x+(bG i p).2.1)) (k:i.op=14->0<=i.a/\i.a<=4) :
  0<=wr (x+(bG i p).2.1)/\wr (x+(bG i p).2.1)<=12/\wr (x+(bG i p).2.1)=x+(bG i p).2.1:=by
 unfold bG at c b⊢;split at c
 ·rename_i e;simp only[e,if_true] at b⊢;rw[O7 ino];omega
 ·rename_i e;simp only[e,if_false] at b⊢;split at c
  ·rename_i f;simp only[f,if_true] at b⊢;rw[O7 ino] at b⊢;omega
  ·rename_i f;simp only[f,if_false] at b⊢;split at c
   ·rename_i d;have k:=k d;simp only[d,if_true] at b⊢;simp only at c;rw[O7 ino] at c b⊢;omega
   ·rename_i d;simp only[d,if_false] at b⊢;split at c
    ·rename_i g;simp only[g,if_true] at b⊢;rw[O7 ino] at b⊢;omega
    ·rename_i g;simp only[g,if_false] at b⊢;split at c
     ·rename_i h;simp only[h,if_true] at b⊢;rw[O7 ino] at b⊢;omega
     ·rename_i h;simp only[h,if_false] at b⊢;split at c
      ·rename_i j;simp only[j,if_true] at b⊢;rw[O7 ino] at b⊢;omega
      ·rename_i j;simp only[j,if_false] at b⊢;rw[O7 ino] at b⊢;omega
def fB (h:List Int):Nat:=h.countP fun x=>decide (x<0)
def oV {h:List Int} {i:Nat} {x y:Int} (b:h[i]?=some x) (c:x<0) (d:0<=y):fB (h.set i y)+1=fB h:=by
 induction h generalizing i with
 |nil=>simp at b
 |cons a h ih =>
  cases i with
  |zero =>
   simp only[List.getElem?_cons_zero,Option.some.injEq] at b;subst b;have:¬y<0:=d9;simp[fB,c,this]
  |succ i =>
   have:=ih (i:=i) (by simpa using b);simp only[fB,List.set_cons_succ,List.countP_cons] at this⊢;omega
def c7 (m:Me):Nat->List Int->List (Int×Int)->Option (J4 (List Int×Y2) (List Int))
 |0,_,_=>none
 |_+1,h,[]=>some (.next h)
 |n+1,h,(p,x)::r =>
  if(m.code.length:Int)<=p\/p<0 then some (.ret ([],⟨9,m.code.length⟩)) else
  match h[p.toNat]?,m.code[p.toNat]? with
  |some y,some i =>
   if 0<=y then(if y=x then c7 m n h r else some (.ret ([],⟨8,p⟩)))
   else if x<(bG i p).1\/(i.op=17/\x≠1) then some (.ret ([],⟨8,p⟩))
   else if 12<wr (x+(bG i p).2.1) then some (.ret ([],⟨4,p⟩))
   else c7 m n (h.set p.toNat x) (r++(bG i p).2.2.map fun q=>(q,wr (x+(bG i p).2.1)))
  |_,_=>none
def jH (l:List (Int×Int)):Prop:=∀q∈l,0<=q.2/\q.2<=12
theorem mA (m:Me) (d:kI m):∀(n:Nat) (h:List Int) (l:List (Int×Int)),h.length=m.code.length->jH l->l.length+3*fB h<n->∃r,c7 m n h l=some r
 |0,h,l,_,_,s=>d9
 |n+1,h,[],_,_,_=>⟨_,rfl⟩
 |n+1,h,(p,x)::r,hh,hl,s=>by
  rw[c7];simp only[AY] at s;have e:=hl (p,x) o7;have u:jH r:=fun q a=>hl q (by simp[a]);by_cases g:(m.code.length:Int)<=p\/p<0
  ·rw[Ag g];exact⟨_,rfl⟩
  rw[Af g];have t:p.toNat<m.code.length:=d9;have e1:h[p.toNat]?=some (h[p.toNat]' d9):=A8 d9;have f:m.code[p.toNat]?=some m.code[p.toNat]:=A8 t;generalize h[p.toNat]' d9=y at e1;have o:=d _ (List.getElem_mem t);generalize m.code[p.toNat]=i at f o;rw[e1,f];simp only;by_cases j:0<=y
  ·rw[Ag j];by_cases b:y=x
   ·rw[Ag b];exact mA m d n h r hh u d9
   ·rw[Af b];exact⟨_,rfl⟩
  rw[Af j];by_cases b:x<(bG i p).1\/(i.op=17/\x≠1)
  ·rw[Ag b];exact⟨_,rfl⟩
  rw[Af b];by_cases c:12<wr (x+(bG i p).2.1)
  ·rw[Ag c];exact⟨_,rfl⟩
  rw[Af c];have k:=oT e.1 e.2 (fun h=>b (Or.inl h)) c o;have w:=oV (y:=x) e1 d9 e.1;have v:=pS i p;refine mA m d n _ _ (by simpa using hh) (fun q a=>?_) dI;rcases AS.1 a with a|a
  ·exact u q a
  ·obtain⟨z,_,rfl⟩:=AI.1 a;exact⟨k.1,k.2.1⟩
def kS (o:J4 (List Int×Y2) (List Int)):List Int×Y2:=match o with|.ret r=>r|.next h=>(h,⟨0,0⟩)
def oh (n:Nat):fB (AJ n (-1))=n:=by
 induction n with
 |zero=>rfl
 |succ n ih=>simp only[fB,List.replicate_succ,List.countP_cons] at ih⊢;rw[ih];rfl
def Good (x:Option (J4 Int Unit)) (P:Prop):Prop:=∃o,x=some o/\(∀r,o=.ret r->r≠0)/\(o=.next ()->P)
theorem Good.ret {r:Int} {P:Prop} (h:r≠0):Good (some (.ret r)) P:=⟨.ret r,rfl,(fun r e=>by cases e;exact h),fun e=>by cases e⟩
theorem Good.next {P:Prop} (h:P):Good (some (.next ())) P:=⟨.next (),rfl,(fun r e=>by cases e),fun _=>h⟩
theorem Good.bind {x:Option (J4 Int Unit)} {P Q:Prop} {y:Option (J4 Int Unit)} (h:Good x P) (c:P->Good y Q):Good (x.bind fun o=>match o with|.ret r=>some (.ret r)|.next ()=>y) Q:=by
 obtain⟨o,rfl,a,b⟩:=h;cases o with
 |ret r=>exact Good.ret (a r rfl)
 |next u=>exact c (b rfl)
theorem Good.imp {x:Option (J4 Int Unit)} {P Q:Prop} (h:Good x P) (d:P->Q):Good x Q:=by
 obtain⟨o,a,b,c⟩:=h;exact⟨o,a,b,fun e=>d (c e)⟩
def sx {w:Wd} (h:eZ w<=1048576):ew w:=by
 unfold eZ at h;have k:=gX (bk:=dQ) (fun a=>tR a) w.a7;have l:=gX (bk:=dT) (fun a=>tC a) w.heap;refine⟨d9,d9,fun c f=>?_,fun o i=>?_⟩
 ·have d:=mH (bk:=dQ) f;have b:dQ c=eI c.name+V8 c.aJ+V8 c.aD+(Y6 dD) c.a8+1:=rfl;have e:=gX (bk:=dD) (fun a=>tA a) c.a8;refine⟨d9,fun m g=>?_⟩;have n:=mH (bk:=dD) g;have j:dD m=eI m.name+V8 m.args+V8 m.aL+V8 m.aQ+(Y6 db) m.code+1:=rfl;have p:=gX (bk:=db) (fun a=>rP a) m.code;omega
 ·have d:=mH (bk:=dT) i;have b:dT o=V8 o.cls+(Y6 dj) o.aD+1:=rfl;have e:=gX (bk:=dj) (fun a=>tw a) o.aD;omega





theorem nU (N:Nat) (w:Wd) (l:w.a7.length<=1048576):∀(n:Nat) (k:Nat) (c a:Int),k<=w.a7.length+1->w.a7.length+1-k<n ->
  U0 N w n c a (k:Int)=some ((gv w (w.a7.length+1-k) c).foldl (fun n k=>match w.a7[k.toNat]? with|some x=>wr (n+x.aD)|none=>n) a)
 |0,k,c,a,_,h=>d9
 |n+1,k,c,a,q,r=>by
  rw[U0];by_cases b:0<=c
  ·by_cases f:c<w.a7.length
   ·obtain⟨x,i,g⟩:=pb b f;by_cases p:k<=w.a7.length
    ·have d:(k:Int)<=(w.a7.length:Int):=d9;have e:w.a7.length+1-k=(w.a7.length-k)+1:=d9;have o:wr ((k:Int)+1)=((k+1:Nat):Int):=by rw[O7 ino];omega
     simp only[b,f,d,Ah,Ad,A0,g,o];rw[nU N w l n (k+1) _ _ d9 d9,e,gv,Ag b,i];simp only[List.foldl_cons,i];rw[show w.a7.length+1-(k+1)=w.a7.length-k by omega]
    ·have d:¬(k:Int)<=(w.a7.length:Int):=d9;have e:w.a7.length+1-k=0:=d9;simp only[b,f,d,Ah,Ai,Ad,Ae,A0,e];rfl
   ·have i:w.a7[c.toNat]?=none:=oo f;simp only[b,f,Ah,Ai,Ad,Ae,A0];cases j:w.a7.length+1-k with
    |zero=>rfl
    |succ m=>rw[gv,Ag b,i];rfl
  ·simp only[b,Ai,Ae,A0];cases j:w.a7.length+1-k with
   |zero=>rfl
   |succ m=>rw[gv,Af b];rfl
def kj (N:Nat) (w:Wd) (c:Int) (b:1048578<=N) (a:w.a7.length<=1048576):Y4 N w c=some (Z4 w c):=by
 unfold Y4 Z4;have h:=nU N w a N 0 c 0 d9 d9;simp only[Nat.sub_zero,Int.ofNat_zero] at h;rw[h];rfl
theorem nW (N:Nat) (s:ByteArray):∀(n k:Nat),n+k=s.size->R4 N s n k=some (if(s.data.toList.drop k).all ef=true then .next () else .ret false)
 |0,k,h=>by
  rw[List.drop_eq_nil_of_le (by rw[show s.data.toList.length=s.size from rfl];omega)];rfl
 |n+1,k,h=>by
  have f:k<s.data.toList.length:=by rw[show s.data.toList.length=s.size from rfl];omega
  rw[R4,List.drop_eq_getElem_cons f,uS,A8 f,nW N s n (k+1) d9];simp only[A0,List.all_cons];generalize s.data.toList[k]=u;generalize s.data.toList.drop (k+1)=b;by_cases d:(u.toNat:Int)<=32
  ·have a:(u.toNat:Int)<33:=d9;have e:ef u=false:=by simp[ef,a]
   simp only[d,e,Ah,Ad,A0,Bool.false_and];rfl
  ·have a:¬(u.toNat:Int)<33:=d9;by_cases c:126<(u.toNat:Int)
   ·have e:ef u=false:=(by simp only[ef,a,c,Ah,Ai,AL,Bool.and_false]);simp only[d,c,e,Ah,Ai,Ad,Ae,A0,Bool.false_and];rfl
   ·have e:ef u=true:=(by simp only[ef,a,c,Ai,AR,Bool.and_true]);simp only[d,c,e,Ai,Ae,A0,Bool.true_and]
def kn (N:Nat) (s:ByteArray):gR N s=some (V9 s):=by
 unfold gR V9;have e:((s.size:Int)-((0:Nat):Int)).toNat=s.size:=d9;rw[e,nW N s s.size 0 d9,List.drop_zero];by_cases c:(s.size:Int)<1
 ·have a:¬0<s.size:=d9;simp[c,a]
 ·have a:0<s.size:=d9;by_cases d:(12:Int)<(s.size:Int)
  ·have b:¬s.size<=12:=d9;simp[c,d,b]
  ·have b:s.size<=12:=d9;cases h:s.data.toList.all ef<;>simp[c,d,a,b]
def mg (w:Wd) (c:Int) (m:Me) (i:Ins):Option Bool :=
 if i.op=1\/i.op=6\/i.op=7\/i.op=8\/i.op=9\/i.op=10\/i.op=17 then some (decide (i.a=0))
 else if i.op=2 then some (decide (0<=i.a) && decide (i.a<m.args))
 else if i.op=3\/i.op=11 then some (decide (0<=i.a) && decide (i.a<m.aL))
 else if i.op=4\/i.op=12 then some (decide (0<=i.a) && decide (i.a<Z4 w c))
 else if i.op=5 then some (decide (-1073741824<=i.a) && decide (i.a<=1073741824))
 else if i.op=13 then some (decide (i.a=0) || (decide (4<=i.a) && decide (i.a<w.a7.length)))
 else if i.op=14 then some (decide (0<=i.a) && decide (i.a<5))
 else if i.op=15\/i.op=16 then some (decide (0<=i.a) && decide (i.a<m.code.length))
 else none
def lU (i:Ins):Bool:=(decide (i.op=14) && !V9 i.name) || (!decide (i.op=14) && !decide (i.name=(⟨#[]⟩:ByteArray))) || !decide (i.b=0) || !decide (i.c=0)
def df (w:Wd) (c:Int) (m:Me) (i:Ins):Int:=match mg w c m i with
 |none=>1
 |some ok=>if ok=true then(if lU i=true then 2 else 0) else 3
def qb (N:Nat) (a b:Int):M5 N a b=some (decide (0<=a) && decide (a<b)):=by
 unfold M5;by_cases h:0<=a<;>simp[h]
def ru (N:Nat) (w:Wd) (c:Int) (m:Me) (i:Ins) (L:1048578<=N) (O:w.a7.length<=1048576):jX N w c m i=some (df w c m i):=by
 unfold jX df mg lU;simp only[kj N w c L O,kn,qb,A0];generalize decide (i.b=0)=B;generalize decide (i.c=0)=C;generalize decide (i.name=(⟨#[]⟩:ByteArray))=E;generalize decide (i.a=0)=d;generalize decide (0<=i.a)=e;generalize decide (i.a<m.args)=F;generalize decide (i.a<m.aL)=q;generalize decide (i.a<Z4 w c)=r;generalize decide (-1073741824<=i.a)=G;generalize decide (i.a<=1073741824)=H;generalize decide (4<=i.a)=I;generalize decide (i.a<(w.a7.length:Int))=J;generalize decide (i.a<5)=K;generalize decide (i.a<(m.code.length:Int))=f;generalize V9 i.name=M;by_cases s:i.op=1
 ·simp only[s];cases d<;>cases B<;>cases C<;>cases E<;>simp
 by_cases y:i.op=6
 ·simp only[y];cases d<;>cases B<;>cases C<;>cases E<;>simp
 by_cases z:i.op=7
 ·simp only[z];cases d<;>cases B<;>cases C<;>cases E<;>simp
 by_cases A:i.op=8
 ·simp only[A];cases d<;>cases B<;>cases C<;>cases E<;>simp
 by_cases D:i.op=9
 ·simp only[D];cases d<;>cases B<;>cases C<;>cases E<;>simp
 by_cases g:i.op=10
 ·simp only[g];cases d<;>cases B<;>cases C<;>cases E<;>simp
 by_cases p:i.op=17
 ·simp only[p];cases d<;>cases B<;>cases C<;>cases E<;>simp
 by_cases t:i.op=2
 ·simp only[t];cases e<;>cases F<;>cases B<;>cases C<;>cases E<;>simp
 by_cases u:i.op=3
 ·simp only[u];cases e<;>cases q<;>cases B<;>cases C<;>cases E<;>simp
 by_cases h:i.op=11
 ·simp only[h];cases e<;>cases q<;>cases B<;>cases C<;>cases E<;>simp
 by_cases v:i.op=4
 ·simp only[v];cases e<;>cases r<;>cases B<;>cases C<;>cases E<;>simp
 by_cases j:i.op=12
 ·simp only[j];cases e<;>cases r<;>cases B<;>cases C<;>cases E<;>simp
 by_cases x:i.op=5
 ·simp only[x];cases G<;>cases H<;>cases B<;>cases C<;>cases E<;>simp
 by_cases k:i.op=13
 ·simp only[k];cases d<;>cases I<;>cases J<;>cases B<;>cases C<;>cases E<;>simp
 by_cases l:i.op=14
 ·simp only[l];cases e<;>cases K<;>cases B<;>cases C<;>cases M<;>simp
 by_cases n:i.op=15
 ·simp only[n];cases e<;>cases f<;>cases B<;>cases C<;>cases E<;>simp
 by_cases o:i.op=16
 ·simp only[o];cases e<;>cases f<;>cases B<;>cases C<;>cases E<;>simp
 simp[s,y,z,A,D,g,p,t,u,h,v,j,x,k,l,n,o]
def rN (N:Nat) (i:Ins) (p:Int) (h:i.op=14->0<=i.a/\i.a<=4):∃g,jZ N i=some ((bG i p).1,g)/\wr (g-(bG i p).1)=(bG i p).2.1:=by
 unfold jZ bG;by_cases l:i.op=9
 ·exact⟨0,by simp[l],by simp[l];rw[O7 ino]⟩
 by_cases d:i.op=11
 ·exact⟨0,by simp[d],by simp[d];rw[O7 ino]⟩
 by_cases e:i.op=12
 ·exact⟨0,by simp[e],by simp[e];rw[O7 ino]⟩
 by_cases j:i.op=16
 ·exact⟨0,by simp[j],by simp[j];rw[O7 ino]⟩
 by_cases k:i.op=17
 ·exact⟨0,by simp[k],by simp[k];rw[O7 ino]⟩
 by_cases c:i.op=10
 ·exact⟨2,by simp[c],by simp[c];rw[O7 ino]⟩
 by_cases b:i.op=14
 ·have:=h b;exact⟨1,by simp[b],by simp[b];rw[O7 (show C9 (i.a+1) by unfold C9;omega),O7 ino];omega⟩
 by_cases f:i.op=15
 ·exact⟨0,by simp[f],by simp[f];rw[O7 ino]⟩
 exact⟨1,by simp[l,c,d,e,b,f,j,k],by simp[l,c,d,e,b,f,j,k];rw[O7 ino]⟩
theorem nS (N:Nat):∀(n k:Nat) (v:List Int),n+k=v.length->K4 N n k v=some (v.take k++AJ n (-1))
 |0,k,v,h=>by rw[K4,List.take_of_length_le d9];simp
 |n+1,k,v,h=>by
  have a:k<v.length:=d9;rw[K4,K9,A8 a];simp only[A0,Int.toNat_natCast];rw[nS N n (k+1) _ dI];congr 1;rw[List.take_add_one,List.take_set_of_le (AA _),List.getElem?_set_self a,List.replicate_succ];simp
def cP (a:J3):Int×Int:=(a.f0,a.f1)
def kH (i:Ins) (p h:Int) (q:List J3):List J3 :=
 let b:=if i.op=15\/i.op=17 then q else q++[⟨wr (p+1),h⟩]
 if i.op=15\/i.op=16 then b++[⟨i.a,h⟩] else b
def lr (i:Ins) (p h:Int) (q:List J3):(kH i p h q).map cP=q.map cP++(bG i p).2.2.map fun x=>(x,h):=by
 unfold kH bG;by_cases e:i.op=15
 ·simp[e,cP]
 by_cases f:i.op=16
 ·simp[f,cP]
 by_cases g:i.op=17
 ·simp[g]
 by_cases j:i.op=9
 ·simp[j,cP]
 by_cases b:i.op=11
 ·simp[b,cP]
 by_cases c:i.op=12
 ·simp[c,cP]
 by_cases a:i.op=10
 ·simp[a,cP]
 by_cases d:i.op=14
 ·simp[d,cP]
 simp[e,f,g,j,b,c,a,d,cP]
theorem kg (N:Nat) (m:Me) (C:kI m) (J:m.code.length<=1048576):∀(n:Nat) (h:List Int) (q:List J3),q.length+2*fB h<=4194304->h.length=m.code.length ->
  jH (q.map cP)->N8 N m n h q=c7 m n h (q.map cP)
 |0,_,_,_,_,_=>rfl
 |n+1,h,[],_,_,_=>by
  rw[N8];simp[c7]
 |n+1,h,⟨p,x⟩::q,hb,hh,ho=>by
  rw[N8];have E:=ho (p,x) (by simp[cP]);have K:jH (q.map cP):=fun z c=>ho z (by rw[AO];exact List.mem_cons_of_mem _ c);have l:(0:Int)<(((⟨p,x⟩:J3)::q).length:Int):=by simp only[AY];omega
  have L:(decide (0<=(1:Int)) && decide ((1:Int)<=(((⟨p,x⟩:J3)::q).length:Int)))=true:=by simp only[A7,Al,AY];omega
  have D:H7 ((⟨p,x⟩:J3)::q) (0:Int)=some ⟨p,x⟩:=rfl;have hd:((⟨p,x⟩:J3)::q).drop (1:Int).toNat=q:=rfl;simp only[AY] at hb;rw[AO,show cP ⟨p,x⟩=(p,x) from rfl,c7];simp only[l,Ah,Ad,D,A0,L,hd];by_cases a:p<0
  ·simp only[a,Ah,Ad,A0,or_true,if_true]
  by_cases F:(m.code.length:Int)<=p
  ·simp only[F,a,Ah,Ai,Ad,Ae,A0,true_or,if_true]
  simp only[F,a,Ai,Ae,A0,or_self,if_false];have r:p.toNat<m.code.length:=d9;have o:0<=p:=d9;have e1:h[p.toNat]?=some (h[p.toNat]' d9):=A8 d9;have u:m.code[p.toNat]?=some m.code[p.toNat]:=A8 r;generalize h[p.toNat]' d9=y at e1;have A:=C _ (List.getElem_mem r);generalize m.code[p.toNat]=i at u A;have P:H7 h p=some y:=by rw[lh o,e1]
  have Q:H7 m.code p=some i:=by rw[lh o,u]
  obtain⟨g,v,w⟩:=rN N i p A;simp only[P,Q,e1,u,A0,v,w];by_cases G:0<=y
  ·simp only[G,Ah,Ad,if_true];by_cases b:y=x
   ·simp only[b,Ah,AL,Ae,A0,if_true];exact kg N m C J n h q d9 hh K
   ·simp only[b,Ai,AR,Ad,A0,if_false]
  simp only[G,Ai,Ae,if_false];by_cases b:x<(bG i p).1
  ·simp only[b,Ah,Ad,A0,true_or,if_true]
  by_cases s:i.op=17/\x≠1
  ·simp only[b,s.1,s.2,Ah,Ai,Ad,Ae,A0,AR,or_true,if_true,ne_eq,not_false_eq_true,and_self]
  have O:((bif decide (i.op=(17:Int)) then some ((!decide (x=(1:Int)))) else some (false)):Option Bool)=some false:=by
   by_cases d:i.op=17
   ·by_cases I:x=1
    ·simp[I]
    ·exact absurd ⟨d,I⟩ s
   ·simp[d]
  simp only[b,s,O,Ai,Ae,A0,or_self,if_false];by_cases d:12<wr (x+(bG i p).2.1)
  ·simp only[d,Ah,Ad,A0,if_true]
  simp only[d,Ai,Ae,if_false];have k:=oT E.1 E.2 b d A;have R:=oV (y:=x) e1 d9 E.1;have M:=pS i p;have B:=congrArg List.length (lr i p (wr (x+(bG i p).2.1)) q);simp only[AN,A6] at B;have go:=kg N m C J n (h.set p.toNat x) (kH i p (wr (x+(bG i p).2.1)) q) d9 (by simpa using hh) (by
   rw[lr];intro z c;rcases AS.1 c with c|c
   ·exact K z c
   ·obtain⟨z,_,rfl⟩:=AI.1 c;exact⟨k.1,k.2.1⟩)
  rw[lr] at go;rw[<-go];generalize wr (x+(bG i p).2.1)=H;have t:AE ((q.length+1)*16) 140737488355328=true:=oq d9;have c3:AE ((q.length+1+1)*16) 140737488355328=true:=oq d9;unfold kH;by_cases e:i.op=15
  ·simp[e,t]
  by_cases f:i.op=16
  ·simp[f,t,c3]
  by_cases j:i.op=17
  ·simp[j]
  simp[e,f,j,t]
def rj (N:Nat) (m:Me) (c:kI m) (b:m.code.length<=1048576):jV N m=(c7 m N (AJ m.code.length (-1)) [(0,0)]).map kS:=by
 unfold jV;have e0:(decide (0<=(m.code.length:Int)) && decide ((m.code.length:Int)<=140737488355328) && decide ((m.code.length:Int)*8<=140737488355328))=true:=by
  simp only[A7,Al];omega
 have e1:(((AJ (m.code.length:Int).toNat (0:Int)).length:Int)-((0:Nat):Int)).toNat=m.code.length:=o7;rw[e0,e1,nS N _ 0 _ o7];simp only[Ad,A0,List.take_zero,List.nil_append];have h:=kg N m c b N (AJ m.code.length (-1)) [⟨0,0⟩] (by rw[oh];simp;omega) o7 (by
  intro q a;simp only[AO,List.map_nil,cP,AF,List.not_mem_nil,or_false] at a;subst a;decide)
 rw[h];show _=(c7 m N (AJ m.code.length (-1)) [(0,0)]).map kS;rw[show([(⟨0,0⟩:J3)].map cP)=[((0:Int),(0:Int))] from rfl];cases c7 m N (AJ m.code.length (-1)) [(0,0)] with
 |none=>rfl
 |some o=>cases o<;>rfl
theorem pg (m:Me):∀(n:Nat) (h:List Int) (q:List (Int×Int)) (r:List Int×Y2),c7 m n h q=some (.ret r)->r.2.err≠0
 |0,h,q,r,e=>by cases e
 |n+1,h,[],r,e=>by rw[c7] at e;cases e
 |n+1,h,(p,x)::l,r,e=>by
  rw[c7] at e
  (repeat' split at e)<;>first|(cases e;done)|(cases e;simp;done)|exact pg m n _ _ r e
def u9 : jH [(0,0)]:=by
 intro q a;simp only[AF,List.not_mem_nil,or_false] at a;subst a;decide
def eF (w:Wd) (c:Int) (m:Me):List Ins->Nat->J4 Y2 Unit
 |[],_=>.next ()
 |i::l,k=>if df w c m i=0 then eF w c m l (k+1) else .ret ⟨df w c m i,k⟩
theorem iG {w:Wd} {c:Int} {m:Me}:∀{l:List Ins} {k:Nat},eF w c m l k=.next ()->∀i∈l,df w c m i=0
 |[],_,_,i,a=>by cases a
 |x::l,k,h,i,a=>by
  rw[eF] at h;split at h
  ·rename_i b;rcases AF.1 a with rfl|a
   ·exact b
   ·exact iG h i a
  ·cases h
theorem pF {w:Wd} {c:Int} {m:Me}:∀{l:List Ins} {k:Nat} {r:Y2},eF w c m l k=.ret r->r.err≠0
 |[],_,_,h=>by cases h
 |x::l,k,r,h=>by
  rw[eF] at h;split at h
  ·exact pF h
  ·rename_i a;cases h;exact a
def ke {w:Wd} {c:Int} {m:Me} {i:Ins} (h:df w c m i=0) (e:i.op=14):0<=i.a/\i.a<=4:=by
 unfold df mg at h;simp only[e] at h;by_cases b:0<=i.a
 ·by_cases d:i.a<5
  ·omega
  ·simp[b,d] at h
 ·simp[b] at h
def bA (N:Nat) (w:Wd) (c:Int) (m:Me):Option Y2 :=
 if c<0\/(w.a7.length:Int)<=c then some ⟨6,0⟩ else if V9 m.name=false then some ⟨7,0⟩
 else if m.args<0\/4<m.args\/m.aL<0\/6<m.aL then some ⟨3,0⟩ else if m.aQ≠0 then some ⟨1,0⟩
 else if m.code.length<1\/60<m.code.length then some ⟨5,0⟩ else match eF w c m m.code 0 with
  |.ret r=>some r
  |.next ()=>((c7 m N (AJ m.code.length (-1)) [(0,0)]).map kS).map (·.2)
theorem nV (N:Nat) (w:Wd) (c:Int) (m:Me) (a:1048578<=N) (b:w.a7.length<=1048576):∀(l:List Ins) (k:Nat),Q8 N w c m l k=some (eF w c m l k)
 |[],k=>rfl
 |x::l,k=>by
  rw[Q8,eF,ru N w c m x a b];simp only[A0];by_cases h:df w c m x=0
  ·simp only[h,Ah,AL,Ae,if_true];exact nV N w c m a b l (k+1)
  ·simp only[h,Ai,AR,Ad,if_false]
def sL (N:Nat) (w:Wd) (c:Int) (m:Me) (p:1048578<=N) (v:w.a7.length<=1048576):jh N w c m=bA N w c m:=by
 unfold jh bA;simp only[kn,A0,nV N w c m p v];by_cases a:c<0
 ·simp[a]
 by_cases d:(w.a7.length:Int)<=c
 ·simp[a,d]
 cases x:V9 m.name with
 |false=>simp[a,d]
 |true =>
  by_cases f:m.args<0
  ·simp[a,d,f]
  by_cases g:4<m.args
  ·simp[a,d,f,g]
  by_cases h:m.aL<0
  ·simp[a,d,f,g,h]
  by_cases k:6<m.aL
  ·simp[a,d,f,g,h,k]
  by_cases l:m.aQ=0
  ·by_cases n:m.code.length<1
   ·have e:(m.code.length:Int)<1:=d9;simp only[a,d,f,g,h,k,l,n,e,Ah,Ai,Ad,Ae,A0,or_self,if_false,AL,AR,or_true,true_or,if_true,ne_eq,not_true,not_false_eq_true,Bool.true_eq_false]
   ·have e:¬(m.code.length:Int)<1:=d9;by_cases j:60<m.code.length
    ·have b:(60:Int)<(m.code.length:Int):=d9;simp only[a,d,f,g,h,k,l,n,e,j,b,Ah,Ai,Ad,Ae,A0,or_self,if_false,AL,AR,or_true,true_or,if_true,ne_eq,not_true,not_false_eq_true,Bool.true_eq_false]
    ·have b:¬(60:Int)<(m.code.length:Int):=d9;simp only[a,d,f,g,h,k,l,n,e,j,b,Ah,Ai,Ad,Ae,A0,or_self,if_false,AL,AR,ne_eq,not_true,not_false_eq_true,Bool.true_eq_false];cases q:eF w c m m.code 0 with
     |ret r=>rfl
     |next u =>
      simp only[rj N m (fun i s t=>ke (iG q i s) t) d9];generalize (c7 m N (AJ m.code.length (-1)) [(0,0)]).map kS=o;cases o<;>rfl
  ·simp[a,d,f,g,h,k,l]
structure vg (N:Nat) (w:Wd) (c:Int) (m:Me):Prop where
 cls:0<=c/\c<w.a7.length
 name:V9 m.name=true
 args:0<=m.args/\m.args<=4
 aL:0<=m.aL/\m.aL<=6
 aQ:m.aQ=0
 len:1<=m.code.length/\m.code.length<=60
 num:∀i∈m.code,df w c m i=0
 neg:kI m
 c7:∃h,c7 m N (AJ m.code.length (-1)) [(0,0)]=some (.next h)
def rK {N:Nat} {w:Wd} {c:Int} {m:Me} {f:Y2} (h:bA N w c m=some f) (a:f.err=0):vg N w c m:=by
 unfold bA at h;by_cases j:c<0\/(w.a7.length:Int)<=c
 ·rw[Ag j] at h;cases h;cases a
 rw[Af j] at h;by_cases k:V9 m.name=false
 ·rw[Ag k] at h;cases h;cases a
 rw[Af k] at h;by_cases l:m.args<0\/4<m.args\/m.aL<0\/6<m.aL
 ·rw[Ag l] at h;cases h;cases a
 rw[Af l] at h;by_cases e:m.aQ≠0
 ·rw[Ag e] at h;cases h;cases a
 rw[Af e] at h;by_cases n:m.code.length<1\/60<m.code.length
 ·rw[Ag n] at h;cases h;cases a
 rw[Af n] at h;cases b:eF w c m m.code 0 with
 |ret r=>rw[b] at h;cases h;exact absurd a (pF b)
 |next u =>
  rw[b] at h;simp only at h;refine⟨d9,by cases q:V9 m.name<;>simp_all,d9,d9,Decidable.byContradiction e,d9,fun i g=>iG b i g,fun i g d=>ke (iG b i g) d,?_⟩;cases d:Go.Proofs.YtibjcppjfkamhaaDoor.c7 m N (AJ m.code.length (-1)) [(0,0)] with
  |none=>rw[d] at h;cases h
  |some o =>
   rw[d] at h;cases o with
   |ret r=>cases h;exact absurd a (pg m _ _ _ _ d)
   |next p=>exact⟨p,rfl⟩
def oD (N:Nat) (w:Wd) (c:Int) (m:Me) (g:4194304<=N):∃f,bA N w c m=some f:=by
 unfold bA
 (repeat' split)<;>first|exact⟨_,rfl⟩|skip
 rename_i e _ _ b;obtain⟨o,a⟩:=mA m (fun i d a=>ke (iG b i d) a) N (AJ m.code.length (-1)) [(0,0)] o7 u9 (by rw[oh];simp;omega);rw[a];exact⟨_,rfl⟩
def nc : ∀(u:Nat) (b:UInt8),b∈Lib.decDigits u->48<=b.toNat/\b.toNat<=57:=by
 intro u
 induction u using Nat.strongRecOn with
 |_ u ih =>
  intro b a;have one:∀d:Nat,d<10->(UInt8.ofNat (48+d)).toNat=48+d:=fun d hd=>dI;rw[Lib.decDigits] at a;split at a
  ·simp only[List.mem_singleton] at a;subst a;rw[one u (by assumption)];omega
  ·rcases AS.1 a with a|a
   ·exact ih (u / 10) d9 b a
   ·simp only[List.mem_singleton] at a;subst a;rw[one (u % 10) d9];omega
def kq (u:Nat):Lib.decDigits u≠[]:=by
 rw[Lib.decDigits];split<;>simp
def rr : ∀(u:Nat),u<18446744073709551616->∀r,Lib.parseUint10 0 (Lib.decDigits u++r)=Lib.parseUint10 u r:=by
 intro u
 induction u using Nat.strongRecOn with
 |_ u ih =>
  intro a r;have one:∀d:Nat,d<10->(UInt8.ofNat (48+d)).toNat=48+d:=fun d hd=>dI;rw[Lib.decDigits];split
  ·rename_i h;simp only[List.cons_append,List.nil_append,Lib.parseUint10,one u h];rw[Ag d9,Af d9,Af d9];congr 1;omega
  ·rename_i h;rw[AG,ih (u / 10) d9 d9];simp only[List.cons_append,List.nil_append,Lib.parseUint10,one (u % 10) d9];rw[Ag d9,Af d9,Af d9];congr 1;omega
def nQ {u:Nat} (a:u<18446744073709551616):Lib.parseMag (Lib.decDigits u)=.ok u:=by
 unfold Lib.parseMag;rw[Af (kq u)];have:=rr u a [];simpa[Lib.parseUint10] using this
def rM {n:Int} (d:C9 n):Lib.atoiAll (Lib.itoa n)=.ok n:=by
 unfold C9 at d;unfold Lib.itoa;split
 ·rw[Lib.atoiAll_minus,nQ d9];simp only[Lib.signed];rw[Af d9];congr 1;omega
 ·have a:=nQ (u:=n.toNat) d9;have b:=nc n.toNat;cases hd:Lib.decDigits n.toNat with
  |nil=>exact absurd hd (kq _)
  |cons c r =>
   have e:=b c (by rw[hd];simp);rw[hd] at a;rw[Lib.atoiAll_plain c r d9 d9,a];simp only[Lib.signless];rw[Af d9];congr 1;omega
def r5 (n:Int):Lib.itoa n≠[]/\(32:UInt8) ∉ Lib.itoa n:=by
 have key:∀u:Nat,(32:UInt8) ∉ Lib.decDigits u:=fun u h=>by
  have:=nc u 32 h;have e:(32:UInt8).toNat=32:=rfl;omega
 unfold Lib.itoa;split
 ·refine⟨o7,fun h=>?_⟩;rcases AF.1 h with h|h
  ·cases h
  ·exact key _ h
 ·exact⟨kq _,key _⟩
abbrev BL := List UInt8
def bO (s:ByteArray):BL:=s.data.toList++[32]
def bW (n:Int):BL:=Lib.itoa n++[32]
def J8 (l:List Int):BL:=(l.map bW).flatten
def Z7 (i:Ins):BL:=J8 [i.op,i.a]++(if i.op=14 then bO i.name else[])
def bp (m:Me):BL:=bO m.name++(J8 [m.args,m.aL,m.aQ,(m.code.length:Int)]++(m.code.map Z7).flatten)
def bx (c:Cl):BL:=bO c.name++(J8 [c.aJ,c.aD,(c.a8.length:Int)]++(c.a8.map bp).flatten)
def vT (v:V):BL:=J8 [v.k,v.n]
def cB (o:Ob):BL:=J8 [o.cls,(o.aD.length:Int)]++(o.aD.map vT).flatten
def bP (w:Wd):BL:=J8 [w.aR,(w.a7.length:Int)]++((w.a7.map bx).flatten++(J8 [(w.heap.length:Int)]++(w.heap.map cB).flatten))
def U (t:BL):List Int:=t.map fun b=>(b.toNat:Int)
def eW (a b:BL):U (a++b)=U a++U b:=by simp[U]
def cm (t:BL):(U t).length=t.length:=by simp[U]
def iy (t:BL):(strOfNums (U t)).data.toList=t:=by
 rw[strOfNums_data,U,List.map_map];have:((fun n:Int=>UInt8.ofNat n.toNat)∘fun b:UInt8=>(b.toNat:Int))=id:=by
  funext b;simp
 rw[this,List.map_id]
theorem lu (s:ByteArray):O8 s=U s.data.toList:=rfl
def gf {a b:ByteArray} (h:a.data.toList=b.data.toList):a=b:=by
 apply ByteArray.ext;exact Array.toList_inj.1 h
def gW (s:ByteArray):s.data.toList.length=s.size:=by rw[Array.length_toList];rfl
def O0 {n:Int} (a:C9 n):(bW n).length<=22:=by
 have:=Lib.itoa_length_le n a.1 a.2;simp only[bW,A6,Ac];omega
def jP (N:Nat) (a:List Int) (s:ByteArray) (h:a.length+(bO s).length<=140737488355328):K8 N a s=some (a++U (bO s)):=by
 have b:=gW s;have c:(O8 s).length=s.size:=by rw[lu,cm,b]
 simp only[bO,A6,Ac,b] at h;unfold K8 P8 R9;rw[Nat.ble_eq_true_of_le (show a.length+s.size<=140737488355328 by omega)];simp only[Ad,A0];rw[Nat.ble_eq_true_of_le (show((a++O8 s).length+[(32:Int)].length)*1<=140737488355328 by simp only[A6,c,Ac];omega)];simp only[Ad,A0,bO,eW,lu];rw[AG];rfl
theorem pf (N:Nat):∀(l:List Int) (k:Nat) (a:List Int),a.length+(J8 l).length<=140737488355328->H5 N l k a=some (a++U (J8 l))
 |[],k,a,_=>by simp[H5,J8,U]
 |n::l,k,a,h=>by
  have e:J8 (n::l)=bW n++J8 l:=by simp[J8]
  rw[e,A6] at h;have b:bO ⟨(Lib.itoa n).toArray⟩=bW n:=rfl;rw[H5];simp only[strconv_Itoa,A0];rw[jP N a _ (by rw[b];omega),b];simp only[A0];rw[pf N l (k+1) _ (by rw[A6,cm];omega),e,eW,AG]
def fT (N:Nat) (a l:List Int) (h:a.length+(J8 l).length<=140737488355328):G6 N a l=some (a++U (J8 l)):=by
 unfold G6;rw[pf N l 0 a h];rfl
theorem gN {b:Type} (tx:b->BL) (L:List b->Nat->List Int->Option (List Int)) (c:∀k a,L [] k a=some a)
  (d:∀x l k a,a.length+(tx x).length<=140737488355328->L (x::l) k a=L l (k+1) (a++U (tx x))):∀(l:List b) (k:Nat) (a:List Int),a.length+(l.map tx).flatten.length<=140737488355328->L l k a=some (a++U (l.map tx).flatten)
 |[],k,a,_=>by simp[c,U]
 |x::l,k,a,h=>by
  simp only[AO,List.flatten_cons,A6] at h;rw[d x l k a d9,gN tx L c d l (k+1) _ (by rw[A6,cm];omega),AO,List.flatten_cons,eW,AG]
def sY (N:Nat):∀(l:List Ins) (k:Nat) (a:List Int),a.length+(l.map Z7).flatten.length<=140737488355328->F5 N l k a=some (a++U (l.map Z7).flatten) :=
 gN Z7 (F5 N) (fun k a=>rfl) fun i l k a h=>by
  simp only[Z7,A6] at h;rw[F5,fT N a _ d9];simp only[A0];by_cases b:i.op=14
  ·rw[Ag b] at h;simp only[b,Ah,Ad];rw[jP N _ _ (by rw[A6,cm];rw[b] at h;omega)];simp only[A0,Z7,b,if_true,eW,AG]
  ·simp only[b,Ai,Ae,A0,Z7,if_false,eW,U,List.map_nil,List.append_nil]
def qx (N:Nat) (a:List Int) (m:Me) (h:a.length+(bp m).length<=140737488355328):Y0 N a m=some (a++U (bp m)):=by
 simp only[bp,A6] at h;unfold Y0;rw[jP N a _ d9];simp only[A0];rw[fT N _ _ (by rw[A6,cm];omega)];simp only[A0];rw[sY N m.code 0 _ (by simp only[A6,cm];omega)];simp only[A0,bp,eW,AG]
def sc (N:Nat):∀(l:List Me) (k:Nat) (a:List Int),a.length+(l.map bp).flatten.length<=140737488355328->O4 N l k a=some (a++U (l.map bp).flatten) :=
 gN bp (O4 N) (fun k a=>rfl) fun m l k a h=>by
  rw[O4,qx N a m h];rfl
def se (N:Nat):∀(l:List Cl) (k:Nat) (a:List Int),a.length+(l.map bx).flatten.length<=140737488355328->O3 N l k a=some (a++U (l.map bx).flatten) :=
 gN bx (O3 N) (fun k a=>rfl) fun c l k a h=>by
  simp only[bx,A6] at h;rw[O3,jP N a _ d9];simp only[A0];rw[fT N _ _ (by rw[A6,cm];omega)];simp only[A0];rw[sc N c.a8 0 _ (by simp only[A6,cm];omega)];simp only[A0,bx,eW,AG]
def sf (N:Nat):∀(l:List V) (k:Nat) (a:List Int),a.length+(l.map vT).flatten.length<=140737488355328->O5 N l k a=some (a++U (l.map vT).flatten) :=
 gN vT (O5 N) (fun k a=>rfl) fun v l k a h=>by
  rw[O5,fT N a _ h];rfl
def sb (N:Nat):∀(l:List Ob) (k:Nat) (a:List Int),a.length+(l.map cB).flatten.length<=140737488355328->O6 N l k a=some (a++U (l.map cB).flatten) :=
 gN cB (O6 N) (fun k a=>rfl) fun o l k a h=>by
  simp only[cB,A6] at h;rw[O6,fT N a _ d9];simp only[A0];rw[sf N o.aD 0 _ (by rw[A6,cm];omega)];simp only[A0,cB,eW,AG]
def vB (w:Wd):bP w≠[]:=by
 intro h;have:=congrArg List.length h;simp only[bP,J8,AO,List.flatten_cons,bW,A6,Ac,List.length_nil] at this;omega
def ld (N:Nat) (w:Wd) (h:(bP w).length<=140737488355328):fQ N w=some (U (bP w)):=by
 have b:=vB w;simp only[bP,A6] at h;unfold fQ;rw[fT N [] _ (by simp only[List.length_nil];omega)];simp only[A0,List.nil_append];rw[se N w.a7 0 _ (by rw[cm];omega)];simp only[A0];rw[fT N _ _ (by simp only[A6,cm];omega)];simp only[A0];rw[sb N w.heap 0 _ (by simp only[A6,cm];omega)];have e:U (J8 [w.aR,(w.a7.length:Int)])++U (w.a7.map bx).flatten++U (J8 [(w.heap.length:Int)])++U (w.heap.map cB).flatten=U (bP w):=by
  simp only[bP,eW,AG]
 simp only[A0,e];have c:(U (bP w)).isEmpty=false:=by
  cases d:bP w with
  |nil=>exact absurd d b
  |cons a l=>rfl
 rw[c];simp only[AR,Ad,lu,iy]
def dE : BL->Option (BL×BL)
 |[]=>none
 |b::r=>if b=32 then some ([],r) else(dE r).map fun p=>(b::p.1,p.2)
def index_one (t:BL):(dE t=none/\Lib.index t [32]=-1)\/∃w r,dE t=some (w,r)/\Lib.index t [32]=(w.length:Int)/\t=w++32::r/\(32:UInt8) ∉ w:=by
 induction t with
 |nil=>exact .inl ⟨rfl,rfl⟩
 |cons b t ih =>
  by_cases a:b=32
  ·subst a;exact .inr ⟨[],t,by simp[dE],by simp[Lib.index],rfl,o7⟩
  ·have g:([32]:BL).isPrefixOf (b::t)=false:=by simp[List.isPrefixOf];exact fun e=>a e.symm
   rcases ih with⟨c,d⟩|⟨w,r,c,d,h,i⟩
   ·exact .inl ⟨by simp[dE,a,c],by simp[Lib.index,g,d]⟩
   ·refine .inr ⟨b::w,r,by simp[dE,a,c],?_,by rw[h];rfl,by simp[i,Ne.symm a]⟩;have f:¬((w.length:Int) == -1)=true:=o7;simp only[Lib.index,g,d,AY];rw[Af o7,Af f];omega
def oi {t w r:BL} (h:dE t=some (w,r)):t=w++32::r/\(32:UInt8) ∉ w:=by
 rcases index_one t with⟨a,_⟩|⟨w',d,a,_,b,c⟩
 ·rw[a] at h;cases h
 ·rw[a] at h;cases h;exact⟨b,c⟩
def tJ {w:BL} (r:BL) (h:(32:UInt8) ∉ w):dE (w++32::r)=some (w,r):=by
 induction w with
 |nil=>simp[dE]
 |cons b w ih =>
  have a:b≠32:=fun e=>h (by simp[e]);simp[dE,a,ih (fun e=>h (by simp[e]))]
def ue (t:BL):Lib.cut t [32]=match dE t with
  |some (w,r)=>(w,r,true)
  |none=>(t,[],false):=by
 unfold Lib.cut;rcases index_one t with⟨a,b⟩|⟨w,r,a,b,c,d⟩
 ·rw[a,b];rfl
 ·rw[a,b,Ag d9];simp only[Int.toNat_natCast,Ac];subst c;simp
def pw (t:BL):Option (ByteArray×BL):=match dE t with
 |some (w,r)=>if w=[] then none else some (⟨w.toArray⟩,r)
 |none=>none
def dL (s:ByteArray):Prop:=s.data.toList≠[]/\(32:UInt8) ∉ s.data.toList
def iY {t:BL} {s:ByteArray} {r:BL} (h:pw t=some (s,r)):t=bO s++r/\dL s:=by
 unfold pw at h;split at h
 ·rename_i w e c;split at h
  ·cases h
  ·rename_i d;cases h;obtain⟨a,b⟩:=oi c;exact⟨by rw[a];simp[bO],d,b⟩
 ·cases h
def iw {s:ByteArray} (r:BL) (h:dL s):pw (bO s++r)=some (s,r):=by
 have e:bO s++r=s.data.toList++32::r:=by simp[bO]
 unfold pw;rw[e,tJ r h.2];simp only[h.1,if_false]
def pn (t:BL):Option (Int×BL):=(pw t).bind fun p=>match Lib.atoiAll p.1.data.toList with
 |.ok n=>if Lib.itoa n=p.1.data.toList then some (n,p.2) else none
 |_=>none
def U2 {t:BL} {n:Int} {r:BL} (h:pn t=some (n,r)):t=bW n++r/\C9 n:=by
 unfold pn at h;cases a:pw t with
 |none=>rw[a] at h;cases h
 |some p =>
  rw[a] at h;simp only[A0] at h;split at h
  ·rename_i m c;split at h
   ·rename_i b;cases h;have:=(iY (s:=p.1) (r:=p.2) a).1;exact⟨by rw[this,bO,<-b];rfl,Lib.atoiAll_bounds c⟩
   ·cases h
  ·cases h
def Z8 {n:Int} (r:BL) (h:C9 n):pn (bW n++r)=some (n,r):=by
 have a:dL ⟨(Lib.itoa n).toArray⟩:=r5 n;have e:bW n=bO ⟨(Lib.itoa n).toArray⟩:=rfl;unfold pn;rw[e,iw r a];simp only[A0];rw[rM h];simp
def pc (a:Int) (t:BL):Option (Int×BL):=(pn t).bind fun p=>if p.1<0\/a<p.1 then none else some p
def bw {a:Type} (p:BL->Option (a×BL)):Nat->BL->Option (List a×BL)
 |0,t=>some ([],t)
 |n+1,t=>(p t).bind fun x=>(bw p n x.2).bind fun l=>some (x.1::l.1,l.2)
def gp (t:BL):Option (Ins×BL):=(pn t).bind fun a=>(pn a.2).bind fun b=>if a.1=14 then(pw b.2).bind fun s=>some (⟨a.1,b.1,0,0,s.1⟩,s.2) else some (⟨a.1,b.1,0,0,AK⟩,b.2)
def hW (t:BL):Option (Me×BL):=(pw t).bind fun s=>(pn s.2).bind fun a=>(pn a.2).bind fun b=>(pn b.2).bind fun c=>(pc 60 c.2).bind fun n=>(bw gp n.1.toNat n.2).bind fun l=>some (⟨s.1,a.1,b.1,c.1,l.1⟩,l.2)
def hU (t:BL):Option (Cl×BL):=(pw t).bind fun s=>(pn s.2).bind fun a=>(pn a.2).bind fun b=>(pc 8 b.2).bind fun n=>(bw hW n.1.toNat n.2).bind fun l=>some (⟨s.1,a.1,b.1,l.1⟩,l.2)
def pV (t:BL):Option (V×BL):=(pn t).bind fun a=>(pn a.2).bind fun b=>some (⟨a.1,b.1⟩,b.2)
def hX (t:BL):Option (Ob×BL):=(pn t).bind fun a=>(pc 6 a.2).bind fun n=>(bw pV n.1.toNat n.2).bind fun l=>some (⟨a.1,l.1⟩,l.2)
def gC (t:BL):Option (Wd×BL):=(pn t).bind fun e=>(pc 12 e.2).bind fun n=>(bw hU n.1.toNat n.2).bind fun l=>(pc 60 l.2).bind fun m=>(bw hX m.1.toNat m.2).bind fun h=>some (⟨l.1,h.1,e.1⟩,h.2)
structure p8 {α:Type} (tx:α->BL) (p:BL->Option (α×BL)) (W:α->Prop):Prop where
 there:∀x r,W x->p (tx x++r)=some (x,r)
 back:∀t x r,p t=some (x,r)->t=tx x++r/\W x
theorem p8.word : p8 bO pw dL:=⟨fun x r h=>iw r h,fun t x r h=>iY h⟩
theorem p8.num : p8 bW pn C9:=⟨fun x r h=>Z8 r h,fun t x r h=>U2 h⟩
theorem p8.count (a:Int):p8 bW (pc a) fun n=>C9 n/\0<=n/\n<=a:=by
 refine⟨fun n r h=>?_,fun t n r h=>?_⟩
 ·unfold pc;rw[Z8 r h.1];simp only[A0];rw[Af d9]
 ·unfold pc at h;cases b:pn t with
  |none=>rw[b] at h;cases h
  |some p =>
   rw[b] at h;simp only[A0] at h;split at h
   ·cases h
   ·cases h;obtain⟨c,d⟩:=U2 b;exact⟨c,d,d9,d9⟩
theorem p8.rep {c:Type} {tx:c->BL} {p:BL->Option (c×BL)} {W:c->Prop} (h:p8 tx p W):∀n:Nat,p8 (fun l=>(l.map tx).flatten) (bw p n) fun l=>l.length=n/\∀x∈l,W x
 |0=>⟨fun l r a=>by
   have:l=[]:=AU a.1;subst this;rfl,fun t l r a=>by cases a;exact⟨rfl,rfl,o7⟩⟩
 |n+1=>by
  have ih:=p8.rep h n;refine⟨fun l r a=>?_,fun t l r a=>?_⟩
  ·cases l with
   |nil=>simp at a
   |cons x l =>
    simp only[AO,List.flatten_cons,AG,bw];rw[h.there x _ (a.2 x o7)];simp only[A0];rw[ih.there l r ⟨by simpa using a.1,fun y b=>a.2 y (by simp[b])⟩];rfl
  ·simp only[bw,Ab] at a;obtain⟨x,o,m,k,e⟩:=a;cases e;obtain⟨d,f⟩:=h.back t x.1 x.2 o;obtain⟨g,i,j⟩:=ih.back x.2 m.1 m.2 k;refine⟨by rw[d,g];simp,by simp[i],fun y b=>?_⟩;rcases AF.1 b with rfl|b
   ·exact f
   ·exact j y b
def qB (i:Ins):Prop:=C9 i.op/\C9 i.a/\i.b=0/\i.c=0/\(i.op=14->dL i.name)/\(i.op≠14->i.name=AK)
def my (m:Me):Prop:=dL m.name/\C9 m.args/\C9 m.aL/\C9 m.aQ/\m.code.length<=60/\∀i∈m.code,qB i
def qE (c:Cl):Prop:=dL c.name/\C9 c.aJ/\C9 c.aD/\c.a8.length<=8/\∀m∈c.a8,my m
def nL (v:V):Prop:=C9 v.k/\C9 v.n
def qD (o:Ob):Prop:=C9 o.cls/\o.aD.length<=6/\∀v∈o.aD,nL v
def fo (w:Wd):Prop:=C9 w.aR/\w.a7.length<=12/\w.heap.length<=60/\(∀c∈w.a7,qE c)/\∀o∈w.heap,qD o
def dB (a b:Int):J8 [a,b]=bW a++bW b:=by simp[J8]
def mv (a b c:Int):J8 [a,b,c]=bW a++(bW b++bW c):=by simp[J8]
def lP (a b c d:Int):J8 [a,b,c,d]=bW a++(bW b++(bW c++bW d)):=by simp[J8]
def ml (a:Int):J8 [a]=bW a:=by simp[J8]
def ir {n:Nat} {m:Int} (h:(n:Int)<=m) (a:m<=1000):C9 (n:Int)/\(0:Int)<=(n:Int)/\(n:Int)<=m:=ino
theorem p8.ins : p8 Z7 gp qB:=by
 refine⟨fun i r h=>?_,fun t i r h=>?_⟩
 ·obtain⟨l,m,o,p,q,u⟩:=h;obtain⟨op,a,b,c,nm⟩:=i;simp only at l m o p q u;subst o p;unfold Z7 gp;simp only[dB,AG];rw[Z8 _ l];simp only[A0];rw[Z8 _ m];simp only[A0];by_cases d:op=14
  ·subst d;simp only[if_true];rw[iw r (q rfl)];rfl
  ·simp only[d,if_false,u d,List.nil_append]
 ·unfold gp at h;simp only[Ab] at h;obtain⟨a,v,b,w,h⟩:=h;obtain⟨f,g⟩:=U2 (n:=a.1) (r:=a.2) v;obtain⟨j,k⟩:=U2 (n:=b.1) (r:=b.2) w;split at h
  ·rename_i d;simp only[Ab] at h;obtain⟨s,x,e⟩:=h;cases e;obtain⟨y,z⟩:=iY (s:=s.1) (r:=s.2) x;refine⟨?_,g,k,rfl,rfl,fun _=>z,fun h=>absurd d h⟩;rw[f,j,y];simp only[Z7,dB,d,if_true,AG]
  ·rename_i d;cases h;refine⟨?_,g,k,rfl,rfl,fun h=>absurd h d,fun _=>rfl⟩;rw[f,j];simp only[Z7,dB,d,if_false,AG,List.nil_append]
theorem p8.me : p8 bp hW my:=by
 refine⟨fun m r h=>?_,fun t m r h=>?_⟩
 ·obtain⟨o,p,q,u,H,v⟩:=h;unfold bp hW;simp only[lP,AG];rw[iw _ o];simp only[A0];rw[Z8 _ p];simp only[A0];rw[Z8 _ q];simp only[A0];rw[Z8 _ u];simp only[A0];rw[(p8.count 60).there _ _ (ir d9 o9)];simp only[A0,Int.toNat_natCast];rw[(p8.rep p8.ins m.code.length).there m.code r ⟨rfl,v⟩];rfl
 ·unfold hW at h;simp only[Ab] at h;obtain⟨s,B,a,w,b,x,c,y,n,A,l,z,e⟩:=h;cases e;obtain⟨F,G⟩:=iY (s:=s.1) (r:=s.2) B;obtain⟨d,f⟩:=U2 (n:=a.1) (r:=a.2) w;obtain⟨g,i⟩:=U2 (n:=b.1) (r:=b.2) x;obtain⟨j,k⟩:=U2 (n:=c.1) (r:=c.2) y;obtain⟨E,I,J,K⟩:=(p8.count 60).back _ n.1 n.2 A;obtain⟨C,l2,D⟩:=(p8.rep p8.ins n.1.toNat).back _ l.1 l.2 z;refine⟨?_,G,f,i,k,by show l.1.length<=60;omega,D⟩;have e:((l.1.length:Nat):Int)=n.1:=d9;simp only[bp,lP,e,AG];rw[F,d,g,j,E,C]
theorem p8.cl : p8 bx hU qE:=by
 refine⟨fun m r h=>?_,fun t m r h=>?_⟩
 ·obtain⟨i,j,k,C,o⟩:=h;unfold bx hU;simp only[mv,AG];rw[iw _ i];simp only[A0];rw[Z8 _ j];simp only[A0];rw[Z8 _ k];simp only[A0];rw[(p8.count 8).there _ _ (ir d9 o9)];simp only[A0,Int.toNat_natCast];rw[(p8.rep p8.me m.a8.length).there m.a8 r ⟨rfl,o⟩];rfl
 ·unfold hU at h;simp only[Ab] at h;obtain⟨s,w,a,p,b,q,n,v,l,u,e⟩:=h;cases e;obtain⟨A,B⟩:=iY (s:=s.1) (r:=s.2) w;obtain⟨c,d⟩:=U2 (n:=a.1) (r:=a.2) p;obtain⟨f,g⟩:=U2 (n:=b.1) (r:=b.2) q;obtain⟨z,D,E,F⟩:=(p8.count 8).back _ n.1 n.2 v;obtain⟨x,l2,y⟩:=(p8.rep p8.me n.1.toNat).back _ l.1 l.2 u;refine⟨?_,B,d,g,by show l.1.length<=8;omega,y⟩;have e:((l.1.length:Nat):Int)=n.1:=d9;simp only[bx,mv,e,AG];rw[A,c,f,z,x]
theorem p8.v : p8 vT pV nL:=by
 refine⟨fun v r h=>?_,fun t v r h=>?_⟩
 ·unfold vT pV;simp only[dB,AG];rw[Z8 _ h.1];simp only[A0];rw[Z8 _ h.2];rfl
 ·unfold pV at h;simp only[Ab] at h;obtain⟨a,i,b,j,e⟩:=h;cases e;obtain⟨c,d⟩:=U2 (n:=a.1) (r:=a.2) i;obtain⟨f,g⟩:=U2 (n:=b.1) (r:=b.2) j;refine⟨?_,d,g⟩;simp only[vT,dB,AG];rw[c,f]
theorem p8.ob : p8 cB hX qD:=by
 refine⟨fun m r h=>?_,fun t m r h=>?_⟩
 ·obtain⟨d,q,f⟩:=h;unfold cB hX;simp only[dB,AG];rw[Z8 _ d];simp only[A0];rw[(p8.count 6).there _ _ (ir d9 o9)];simp only[A0,Int.toNat_natCast];rw[(p8.rep p8.v m.aD.length).there m.aD r ⟨rfl,f⟩];rfl
 ·unfold hX at h;simp only[Ab] at h;obtain⟨a,g,n,j,l,i,e⟩:=h;cases e;obtain⟨b,c⟩:=U2 (n:=a.1) (r:=a.2) g;obtain⟨p,s,u,w⟩:=(p8.count 6).back _ n.1 n.2 j;obtain⟨k,l2,o⟩:=(p8.rep p8.v n.1.toNat).back _ l.1 l.2 i;refine⟨?_,c,by show l.1.length<=6;omega,o⟩;have e:((l.1.length:Nat):Int)=n.1:=d9;simp only[cB,dB,e,AG];rw[b,p,k]
theorem p8.wo : p8 bP gC fo:=by
 refine⟨fun m r h=>?_,fun t m r h=>?_⟩
 ·obtain⟨f,B,C,g,i⟩:=h;unfold bP gC;simp only[dB,ml,AG];rw[Z8 _ f];simp only[A0];rw[(p8.count 12).there _ _ (ir d9 o9)];simp only[A0,Int.toNat_natCast];rw[(p8.rep p8.cl m.a7.length).there m.a7 _ ⟨rfl,g⟩];simp only[A0];rw[(p8.count 60).there _ _ (ir d9 o9)];simp only[A0,Int.toNat_natCast];rw[(p8.rep p8.ob m.heap.length).there m.heap r ⟨rfl,i⟩];rfl
 ·unfold gC at h;simp only[Ab] at h;obtain⟨a,j,n,s,l,q,k,p,o,u,e⟩:=h;cases e;obtain⟨b,c⟩:=U2 (n:=a.1) (r:=a.2) j;obtain⟨y,G,H,I⟩:=(p8.count 12).back _ n.1 n.2 s;obtain⟨w,l2,x⟩:=(p8.rep p8.cl n.1.toNat).back _ l.1 l.2 q;obtain⟨v,D,E,F⟩:=(p8.count 60).back _ k.1 k.2 p;obtain⟨z,J,A⟩:=(p8.rep p8.ob k.1.toNat).back _ o.1 o.2 u;refine⟨?_,c,by show l.1.length<=12;omega,by show o.1.length<=60;omega,x,A⟩;have e:((l.1.length:Nat):Int)=n.1:=d9;have d:((o.1.length:Nat):Int)=k.1:=d9;simp only[bP,dB,ml,e,d,AG];rw[b,y,w,v,z]
def o5 {α:Type} (f:l7->Option (α×l7)) (p:BL->Option (α×BL)) (A:α->Prop):Prop :=
 ∀r:l7,r.s.size<4294967281->∃a b,f r=some (a,b)/\A a/\b.s.size<=r.s.size/\(r.fN=false->b.fN=false) /\
  (r.fN=true->match p r.s.data.toList with
   |some (x,t)=>a=x/\b.fN=true/\b.s.data.toList=t
   |none=>b.fN=false)
section
variable {α β:Type}
theorem o5.pure {a:α} {A:α->Prop} (h:A a):o5 (fun r=>some (a,r)) (fun t=>some (a,t)) A :=
 fun r _=>⟨a,r,rfl,h,AA _,fun h=>h,fun h=>⟨rfl,h,rfl⟩⟩
theorem o5.bind {f:l7->Option (α×l7)} {p:BL->Option (α×BL)} {A:α->Prop} (u:o5 f p A) {k:α×l7->Option (β×l7)} {q:α×BL->Option (β×BL)} {B:β->Prop}
  (v:∀a,A a->o5 (fun r=>k (a,r)) (fun t=>q (a,t)) B):o5 (fun r=>(f r).bind k) (fun t=>(p t).bind q) B:=by
 intro r w;obtain⟨a,y,l,m,D,n,c⟩:=u r w;obtain⟨b,z,g,i,C,d,j⟩:=v a m y d9;refine⟨b,z,by simp only[l,A0,g],i,d9,fun h=>d (n h),fun h=>?_⟩;have c:=c h;dsimp only;cases e:p r.s.data.toList with
 |none =>
  rw[e] at c;exact d c
 |some x =>
  rw[e] at c;obtain⟨x,t⟩:=x;obtain⟨rfl,o,rfl⟩:=c;exact j o
theorem o5.cD {L:l7->Option (l7×α)} {p:BL->Option (α×BL)} {A:α->Prop} (f:o5 (fun r=>(L r).map fun y=>(y.2,y.1)) p A) {k:l7×α->Option (β×l7)} {q:α×BL->Option (β×BL)} {B:β->Prop}
  (h:∀a,A a->o5 (fun r=>k (r,a)) (fun t=>q (a,t)) B):o5 (fun r=>(L r).bind k) (fun t=>(p t).bind q) B:=by
 have:=o5.bind f (k:=fun y=>k (y.2,y.1)) h;intro r i;obtain⟨b,c,d,g⟩:=this r i;refine⟨b,c,?_,g⟩;have e:((L r).map fun y=>(y.2,y.1)).bind (fun y=>k (y.2,y.1))=some (b,c):=d;show(L r).bind k=some (b,c);rw[<-e];cases L r<;>rfl
theorem o5.loop {p:BL->Option (α×BL)} {step:l7->Option (α×l7)} (q:o5 step p fun _=>True) {L:Nat->Nat->l7->List α->Option (l7×List α)} (o:∀k r l,L 0 k r l=some (r,l))
  (u:∀n k r l,l.length<=1000->L (n+1) k r l=(step r).bind fun y=>L n (k+1) y.2 (l++[y.1])) :
  ∀(n k:Nat) (l:List α),l.length+n<=1000->o5 (fun r=>(L n k r l).map fun y=>(y.2,y.1)) (fun t=>(bw p n t).map fun y=>(l++y.1,y.2)) fun _=>True
 |0,k,l,_=>fun r e=>⟨l,r,by simp[o],trivial,AA _,fun h=>h,fun h=>by simp[bw,h]⟩
 |n+1,k,l,E=>by
  intro r e;obtain⟨a,i,v,C,D,w,d⟩:=q r e;obtain⟨b,j,g,A,B,m,c⟩:=o5.loop q o u n (k+1) (l++[a]) dI i d9;have g:(L n (k+1) i (l++[a])).map (fun y=>(y.2,y.1))=some (b,j):=g;refine⟨b,j,?_,trivial,d9,fun h=>m (w h),fun h=>?_⟩
  ·show(L (n+1) k r l).map (fun y=>(y.2,y.1))=some (b,j);rw[u n k r l d9,v,<-g];rfl
  have d:=d h;dsimp only;cases f:p r.s.data.toList with
  |none =>
   rw[f] at d;simp only[bw,f,Option.bind_none,Option.map_none];exact m d
  |some x =>
   rw[f] at d;obtain⟨x,t⟩:=x;obtain⟨rfl,z,rfl⟩:=d;have c:=c z;dsimp only at c;simp only[bw,f,A0];cases e:bw p n i.s.data.toList with
   |none=>rw[e] at c;exact c
   |some y =>
    rw[e] at c;simp only[Option.map_some,AG,List.singleton_append] at c;exact c
theorem o5.rep {p:BL->Option (α×BL)} {step:l7->Option (α×l7)} (c:o5 step p fun _=>True) {L:Nat->Nat->l7->List α->Option (l7×List α)} (a:∀k r l,L 0 k r l=some (r,l))
  (d:∀n k r l,l.length<=1000->L (n+1) k r l=(step r).bind fun y=>L n (k+1) y.2 (l++[y.1])) (n:Nat) (b:n<=1000):o5 (fun r=>(L n 0 r []).map fun y=>(y.2,y.1)) (bw p n) fun _=>True:=by
 have:=o5.loop c a d n 0 [] (by simpa using b);have e:(fun t=>(bw p n t).map fun y=>(([]:List α)++y.1,y.2))=bw p n:=by
  funext t;cases bw p n t<;>rfl
 rwa [e] at this
end
theorem o5.word (N:Nat):o5 (F3 N) pw fun w=>w.size<4294967281:=by
 intro r i;obtain⟨s,o⟩:=r;simp only at i;have m:=gW s;have c:=ue s.data.toList;unfold F3 strings_Cut;have d:(⟨#[32]⟩:ByteArray).data.toList=[32]:=rfl;rw[Ak (show(s.size<4294967281) from i),d];simp only[Ad,A0];cases a:dE s.data.toList with
 |none =>
  rw[a] at c;rw[c];simp only[AR,Ad,A0];refine⟨_,_,rfl,by show 0<_;omega,AA _,fun _=>rfl,fun h=>?_⟩;simp[pw,a]
 |some y =>
  obtain⟨w,t⟩:=y;rw[a] at c;obtain⟨j,l⟩:=oi a;have k:=congrArg List.length j;simp only[A6,AY] at k;rw[c];simp only[AL,Ae,A0];by_cases g:w=[]
  ·subst g;have:(⟨([]:BL).toArray⟩:ByteArray)=⟨#[]⟩:=rfl;rw[this];simp only[Ah,Ad];refine⟨_,_,rfl,by show 0<_;omega,AA _,fun _=>rfl,fun h=>?_⟩;simp[pw,a]
  ·have f:¬(⟨w.toArray⟩:ByteArray)=⟨#[]⟩:=fun e=>g (by
    have:=congrArg (fun b:ByteArray=>b.data.toList) e;simpa using this)
   rw[Aj f];simp only[Ae];refine⟨_,_,rfl,?_,?_,fun h=>h,fun h=>?_⟩
   ·show w.toArray.size<_;rw[List.size_toArray];omega
   ·show t.toArray.size<=s.size;rw[List.size_toArray];omega
   ·simp[pw,a,g,h]
theorem o5.num (N:Nat):o5 (j6 N) pn fun _=>True:=by
 unfold j6 pn;refine o5.bind (o5.word N) fun w d=>?_;intro r c;obtain⟨s,o⟩:=r;simp only;have f:=gW w;unfold strconv_Atoi strconv_Itoa;rw[Ak (show(w.size<=281474976710656) by omega)];simp only[Ad,A0];cases b:Lib.atoiAll w.data.toList with
 |ok n =>
  simp only[AL,Ae,A0];by_cases a:Lib.itoa n=w.data.toList
  ·have e:(⟨(Lib.itoa n).toArray⟩:ByteArray)=w:=gf a;rw[Ak e];simp only[AL,Ae,A0];exact⟨_,_,rfl,trivial,AA _,fun h=>h,fun h=>by simp[a,h]⟩
  ·have e:¬(⟨(Lib.itoa n).toArray⟩:ByteArray)=w:=fun e=>a (by rw[<-e]);rw[Aj e];simp only[AR,Ad,A0];exact⟨_,_,rfl,trivial,AA _,fun _=>rfl,fun _=>by simp[a]⟩
 |_ =>
  simp only[AR,Ad,A0];exact⟨_,_,rfl,trivial,AA _,fun _=>rfl,fun _=>rfl⟩
theorem o5.count (N:Nat) (a:Int) (d:0<=a):o5 (fun r=>D5 N r a) (pc a) fun n=>0<=n/\n<=a:=by
 unfold D5 pc;refine o5.bind (o5.num N) fun n _=>?_;intro r e;obtain⟨s,o⟩:=r;simp only;by_cases b:n<0
 ·simp only[b,Ah,Ad,A0];exact⟨_,_,rfl,⟨Int.le_refl _,d⟩,AA _,fun _=>rfl,fun _=>by simp[b]⟩
 ·by_cases c:a<n
  ·simp only[b,c,Ah,Ai,Ad,Ae,A0];exact⟨_,_,rfl,⟨Int.le_refl _,d⟩,AA _,fun _=>rfl,fun _=>by simp[c]⟩
  ·simp only[b,c,Ai,Ae,A0];exact⟨_,_,rfl,⟨d9,d9⟩,AA _,fun h=>h,fun h=>by simp[b,c,h]⟩
def jt (a:Int):(a-((0:Nat):Int)).toNat=a.toNat:=o7
def gY {α:Type} {l:List α} {x:α} {B:Nat} (h:l.length<=1000) (a:B<=1000):AE ((l.length+[x].length)*B) 140737488355328=true:=by
 refine Nat.ble_eq_true_of_le ?_;have:(l.length+[x].length)*B<=1001*1000:=Nat.mul_le_mul (by simp only[Ac];omega) a;omega
def kK (N:Nat) (r:l7):Option (Ins×l7):=(j6 N r).bind fun a=>(j6 N a.2).bind fun b=>bif decide (a.1=14) then(F3 N b.2).bind fun s=>some (⟨a.1,b.1,0,0,s.1⟩,s.2) else some (⟨a.1,b.1,0,0,AK⟩,b.2)
theorem o5.ins (N:Nat):o5 (kK N) gp fun _=>True:=by
 unfold kK gp;refine o5.bind (o5.num N) fun a _=>?_;dsimp only;by_cases h:a=14
 ·simp only[h,Ah,Ad,if_true];refine o5.bind (o5.num N) fun b _=>?_;dsimp only;exact o5.bind (o5.word N) fun s _=>by dsimp only;exact o5.pure trivial
 ·simp only[h,Ai,Ae,if_false];exact o5.bind (o5.num N) fun b _=>by dsimp only;exact o5.pure trivial
def s8 (N:Nat) (n k:Nat) (r:l7) (l:List Ins) (c:l.length<=1000):D7 N (n+1) k r l=(kK N r).bind fun y=>D7 N n (k+1) y.2 (l++[y.1]):=by
 rw[D7];unfold kK;cases e:j6 N r with
 |none=>rfl
 |some a =>
  simp only[A0];cases f:j6 N a.2 with
  |none=>rfl
  |some b =>
   simp only[A0];by_cases d:a.1=14
   ·simp only[d,Ah,Ad];cases g:F3 N b.2 with
    |none=>rfl
    |some s=>simp only[A0,gY c (show 48<=1000 by decide),Ad]
   ·simp only[d,Ai,Ae,A0,gY c (show 48<=1000 by decide),Ad]
theorem o5.me (N:Nat):o5 (M3 N) hW fun _=>True:=by
 unfold M3 hW;refine o5.bind (o5.word N) fun w _=>?_;dsimp only;refine o5.bind (o5.num N) fun a _=>?_;dsimp only;refine o5.bind (o5.num N) fun b _=>?_;dsimp only;refine o5.bind (o5.num N) fun c _=>?_;dsimp only;refine o5.bind (o5.count N 60 o9) fun n d=>?_;dsimp only;simp only[jt];exact o5.cD (o5.rep (o5.ins N) (L:=D7 N) (fun k r l=>rfl) (s8 N) n.toNat d9) fun l _=>by dsimp only;exact o5.pure trivial
def sI (N:Nat) (n k:Nat) (r:l7) (l:List Me) (b:l.length<=1000):u7 N (n+1) k r l=(M3 N r).bind fun y=>u7 N n (k+1) y.2 (l++[y.1]):=by
 rw[u7];cases c:M3 N r with
 |none=>rfl
 |some a=>simp only[A0,gY b (show 64<=1000 by decide),Ad]
def jx (N:Nat) (r:l7):Option (Cl×l7):=(F3 N r).bind fun s=>(j6 N s.2).bind fun a=>(j6 N a.2).bind fun b=>(D5 N b.2 8).bind fun n=>(u7 N n.1.toNat 0 n.2 []).bind fun l=>some (⟨s.1,a.1,b.1,l.2⟩,l.1)
theorem o5.cl (N:Nat):o5 (jx N) hU fun _=>True:=by
 unfold jx hU;refine o5.bind (o5.word N) fun w _=>?_;dsimp only;refine o5.bind (o5.num N) fun a _=>?_;dsimp only;refine o5.bind (o5.num N) fun b _=>?_;dsimp only;refine o5.bind (o5.count N 8 o9) fun n c=>?_;dsimp only;exact o5.cD (o5.rep (o5.me N) (L:=u7 N) (fun k r l=>rfl) (sI N) n.toNat d9) fun l _=>by dsimp only;exact o5.pure trivial
def sH (N:Nat) (n k:Nat) (r:l7) (l:List Cl) (e:l.length<=1000):D8 N (n+1) k r l=(jx N r).bind fun y=>D8 N n (k+1) y.2 (l++[y.1]):=by
 rw[D8];unfold jx;cases f:F3 N r with
 |none=>rfl
 |some s =>
  simp only[A0];cases g:j6 N s.2 with
  |none=>rfl
  |some a =>
   simp only[A0];cases h:j6 N a.2 with
   |none=>rfl
   |some b =>
    simp only[A0];cases i:D5 N b.2 8 with
    |none=>rfl
    |some c =>
     simp only[A0,jt];cases j:u7 N c.1.toNat 0 c.2 [] with
     |none=>rfl
     |some d=>simp only[A0,gY e (show 56<=1000 by decide),Ad]
def kX (N:Nat) (r:l7):Option (V×l7):=(j6 N r).bind fun a=>(j6 N a.2).bind fun b=>some (⟨a.1,b.1⟩,b.2)
theorem o5.v (N:Nat):o5 (kX N) pV fun _=>True:=by
 unfold kX pV;refine o5.bind (o5.num N) fun a _=>?_;dsimp only;exact o5.bind (o5.num N) fun b _=>by dsimp only;exact o5.pure trivial
def sQ (N:Nat) (n k:Nat) (r:l7) (l:List V) (c:l.length<=1000):u6 N (n+1) k r l=(kX N r).bind fun y=>u6 N n (k+1) y.2 (l++[y.1]):=by
 rw[u6];unfold kX;cases d:j6 N r with
 |none=>rfl
 |some a =>
  simp only[A0];cases e:j6 N a.2 with
  |none=>rfl
  |some b=>simp only[A0,gY c (show 16<=1000 by decide),Ad]
def js (N:Nat) (r:l7):Option (Ob×l7):=(j6 N r).bind fun a=>(D5 N a.2 6).bind fun n=>(u6 N n.1.toNat 0 n.2 []).bind fun l=>some (⟨a.1,l.2⟩,l.1)
theorem o5.ob (N:Nat):o5 (js N) hX fun _=>True:=by
 unfold js hX;refine o5.bind (o5.num N) fun a _=>?_;dsimp only;refine o5.bind (o5.count N 6 o9) fun n b=>?_;dsimp only;exact o5.cD (o5.rep (o5.v N) (L:=u6 N) (fun k r l=>rfl) (sQ N) n.toNat d9) fun l _=>by dsimp only;exact o5.pure trivial
def sK (N:Nat) (n k:Nat) (r:l7) (l:List Ob) (c:l.length<=1000):D9 N (n+1) k r l=(js N r).bind fun y=>D9 N n (k+1) y.2 (l++[y.1]):=by
 rw[D9];unfold js;cases e:j6 N r with
 |none=>rfl
 |some a =>
  simp only[A0];cases f:D5 N a.2 6 with
  |none=>rfl
  |some b =>
   simp only[A0,jt];cases g:u6 N b.1.toNat 0 b.2 [] with
   |none=>rfl
   |some d=>simp only[A0,gY c (show 32<=1000 by decide),Ad]
theorem o5.wo (N:Nat):o5 (Y7 N) gC fun _=>True:=by
 unfold Y7 gC;refine o5.bind (o5.num N) fun e _=>?_;dsimp only;refine o5.bind (o5.count N 12 o9) fun n b=>?_;dsimp only;simp only[jt];refine o5.cD (o5.rep (o5.cl N) (L:=D8 N) (fun k r l=>rfl) (sH N) n.toNat d9) fun l _=>?_;dsimp only;refine o5.bind (o5.count N 60 o9) fun m a=>?_;dsimp only;exact o5.cD (o5.rep (o5.ob N) (L:=D9 N) (fun k r l=>rfl) (sK N) m.toNat d9) fun l _=>by dsimp only;exact o5.pure trivial
def fj (t:BL):Option Wd:=match gC t with
 |some (w,[])=>some w
 |_=>none
def rV {t:BL} {w:Wd} (h:fj t=some w):t=bP w/\fo w:=by
 unfold fj at h;split at h
 ·rename_i w' a;cases h;have:=p8.wo.back t w [] a;simpa using this
 ·cases h
def pk {w:Wd} (h:fo w):fj (bP w)=some w:=by
 have:=p8.wo.there w [] h;rw[List.append_nil] at this;unfold fj;rw[this]
def lX (N:Nat) (b:List Int) (i:b.length<4294967281):Y1 N b=match fj (strOfNums b).data.toList with
  |none=>some (⟨[],[],0⟩,2)
  |some w=>(M9 N w).bind fun r=>bif (!decide (r=0)) then some (⟨[],[],0⟩,r) else some (w,0):=by
 unfold Y1;obtain⟨w,r,g,_,_,_,c⟩:=o5.wo N ⟨strOfNums b,true⟩ (by rw[strOfNums_size];exact i);have c:=c rfl;rw[g];simp only[A0];simp only at c;unfold fj;cases f:gC (strOfNums b).data.toList with
 |none =>
  rw[f] at c;simp only[c,AR,Ad,A0]
 |some x =>
  obtain⟨x,t⟩:=x;rw[f] at c;obtain⟨rfl,h,d⟩:=c;simp only[h,AL,Ae,A0];cases t with
  |nil =>
   have:r.s=⟨#[]⟩:=gf d;simp only[this,Ah,AL,Ae]
  |cons a t =>
   have:¬r.s=⟨#[]⟩:=fun e=>by rw[e] at d;cases d
   simp only[this,Ai,AR,Ad]
def fE (a:List Cl) (s:ByteArray):Bool:=a.any fun d=>decide (d.name=s)
def kO (k:Nat) (c:Cl):Bool:=match G8.a7[k]? with
 |some f=>!decide (c.name=f.name)
 |none=>false
def jw (k:Nat) (c:Cl):Bool:=(match G8.a7[k]? with
 |some f=>!decide (c.aJ=f.aJ) || !decide (c.aD=0)
 |none=>decide (c.aJ<0) || (decide ((k:Int)<=c.aJ) || (!decide (c.aJ=0) && decide (c.aJ<4)))) || (decide (c.aD<0) || decide (6<c.aD))
def eS (a:List Cl) (k:Nat) (c:Cl):Int:=bif !V9 c.name || (fE a c.name || kO k c) then 7 else bif jw k c then 3 else 0
def da (w:Wd):List Cl->Nat->J4 Int Unit
 |[],_=>.next ()
 |c::l,k=>bif decide (eS (w.a7.take k) k c=0) then da w l (k+1) else .ret (eS (w.a7.take k) k c)
def fb (k:Nat) (m:Me):Bool:=decide (k=3) && (I1.any (fun p=>decide (p.name=m.name) && decide (p.aQ=m.aQ)) && (decide (m.args=1) && (decide (m.aL=0) && decide (m.code=[]))))
def gK (p:Option Me) (m:Me):Bool:=match p with
 |some q=>!Q6 q.name m.name
 |none=>false
def fe (N:Nat) (w:Wd) (k:Nat) (p:Option Me) (m:Me):Option Int:=bif gK p m then some 7 else bif fb k m then some 0 else(bA N w (k:Int) m).map (·.err)
def Z0 (N:Nat) (w:Wd) (k:Nat) (a:List Me):List Me->Nat->Option (J4 Int Unit)
 |[],_=>some (.next ())
 |m::l,j=>(fe N w k (if j=0 then none else a[j-1]?) m).bind fun e=>bif decide (e=0) then Z0 N w k a l (j+1) else some (.ret e)
def dM (N:Nat) (w:Wd):List Cl->Nat->Option (J4 Int Unit)
 |[],_=>some (.next ())
 |c::l,k=>bif decide (6<Z4 w (k:Int)) then some (.ret 3) else bif decide (8<(c.a8.length:Int)) then some (.ret 5) else(Z0 N w k c.a8 c.a8 0).bind fun o=>match o with
  |.ret r=>some (.ret r)
  |.next ()=>dM N w l (k+1)
def dc (n:Int):List V->J4 Int Unit
 |[]=>.next ()
 |v::l=>bif decide (gi v n=0) then dc n l else .ret (gi v n)
def eh (w:Wd) (o:Ob):Bool:=(!decide (o.cls=0) && (decide (o.cls<4) || decide ((w.a7.length:Int)<=o.cls))) || !decide ((o.aD.length:Int)=Z4 w o.cls)
def dY (w:Wd):List Ob->J4 Int Unit
 |[]=>.next ()
 |o::l=>bif eh w o then .ret 8 else match dc (w.heap.length:Int) o.aD with
  |.ret r=>.ret r
  |.next ()=>dY w l
def fZ (N:Nat) (w:Wd):Option Int :=
 bif decide ((w.a7.length:Int)<4) || (decide (12<(w.a7.length:Int)) || decide (60<(w.heap.length:Int))) then some 5
 else bif decide (w.aR<0) || decide (1073741824<w.aR) then some 3
 else match da w w.a7 0 with
  |.ret r=>some r
  |.next ()=>(dM N w w.a7 0).bind fun o=>match o with
   |.ret r=>some r
   |.next ()=>match dY w w.heap with
    |.ret r=>some r
    |.next ()=>some 0
theorem ox {c:Type} [DecidableEq c] (x s:c):∀v:List (c×Bool),cZ s (bh x true v)=(decide (x=s) || cZ s v)
 |[]=>by
  by_cases h:s=x
  ·simp[bh,cZ,h]
  ·simp[bh,cZ,h,Ne.symm h]
 |(y,b)::l=>by
  have ih:=ox x s l;by_cases h:x=y
  ·subst h;by_cases a:s=x
   ·simp[bh,cZ,a]
   ·simp[bh,cZ,a,Ne.symm a]
  ·by_cases a:s=y
   ·have:¬x=s:=fun e=>h (e.trans a);simp[bh,cZ,h,a]
   ·simp only[bh,Af h,cZ,Af a];exact ih
def rO (a:List Cl) (c:Cl) (s:ByteArray):fE (a++[c]) s=(decide (c.name=s) || fE a s):=by
 simp only[fE,List.any_append,List.any_cons,List.any_nil,Bool.or_false];exact Bool.or_comm _ _
theorem iz : G8.a7.length=4:=rfl
def vC {k:Nat} {f:Cl} (h:G8.a7[k]?=some f):k<4:=by
 have:=(AB.1 h).1
 rwa [iz] at this
def uy {k:Nat} (h:G8.a7[k]?=none):4<=k:=by
 have:=List.getElem?_eq_none_iff.1 h
 rwa [iz] at this
theorem oR (N:Nat) (w:Wd) (t:w.a7.length<=1048576):∀(l:List Cl) (k:Nat) (v:List (ByteArray×Bool)),l=w.a7.drop k->v.length<=k->(∀s,cZ s v=fE (w.a7.take k) s)->Q7 N G8 l k v=some (da w l k)
 |[],k,v,_,_,_=>rfl
 |c::l,k,v,h,hv,hm=>by
  obtain⟨p,r,i⟩:=fR h;have i:=of_decide_eq_true i;have u:=r4 p;have ih:=oR N w t l (k+1) (bh c.name true v) r (by have:=ll c.name true v;omega) (fun s=>by rw[ox,hm,u,rO]);rw[Q7,kn,da,iz];simp only[A0,hm,ih,Nat.ble_eq_true_of_le (show v.length+1<=140737488355328 by omega),Ad];unfold eS kO jw;cases x:V9 c.name with
  |false=>simp
  |true =>
   cases hd:fE (w.a7.take k) c.name with
   |true=>simp
   |false =>
    cases o:G8.a7[k]? with
    |some f =>
     have q:=vC o;have e1:decide ((k:Int)<((4:Nat):Int))=true:=Ak d9;have n:decide (((4:Nat):Int)<=(k:Int))=false:=Aj d9;simp only[e1,n,K9,o,A0,Ad,Ae,AL,Bool.false_or];by_cases b:c.name=f.name
     ·by_cases a:c.aJ=f.aJ
      ·by_cases d:c.aD=0
       ·simp[b,a,d]
       ·simp[b,a,d]
      ·simp[b,a]
     ·simp[b]
    |none =>
     have q:=uy o;have e:¬k=0:=d9;have e1:decide ((k:Int)<((4:Nat):Int))=false:=Aj d9;have n:decide (((4:Nat):Int)<=(k:Int))=true:=Ak d9;simp only[e1,n,A0,Ad,Ae,AL,Bool.false_or];by_cases b:c.aJ<0
     ·simp[b]
     ·by_cases a:(k:Int)<=c.aJ
      ·simp[b,a]
      ·by_cases d:c.aJ=0
       ·by_cases g:c.aD<0
        ·simp[e,a,d,g]
        ·by_cases j:6<c.aD
         ·simp[e,a,d,g,j]
         ·simp[e,a,d,g,j]
       ·by_cases m:c.aJ<4
        ·simp[b,a,d,m]
        ·by_cases g:c.aD<0
         ·simp[b,a,d,g,m]
         ·by_cases j:6<c.aD
          ·simp[b,a,d,g,j,m]
          ·simp[b,a,d,g,j,m]
theorem nr {s:ByteArray} {q:Int}:∀{l:List Me},eX l->l.any (fun p=>decide (p.name=s) && decide (p.aQ=q))=match bK s l with
  |some i=>(match l[i]? with
   |some x=>decide (x.aQ=q)
   |none=>false)
  |none=>false
 |[],_=>rfl
 |m::r,h=>by
  have d:=(List.pairwise_cons.1 h).1;have ih:=nr (s:=s) (q:=q) (List.pairwise_cons.1 h).2;rw[List.any_cons,bK];by_cases e:m.name=s
  ·rw[Ag e,Ak e];have:r.any (fun p=>decide (p.name=s) && decide (p.aQ=q))=false:=by
    rw[List.any_eq_false];intro p f;have a:=d p f;have b:¬p.name=s:=fun c=>by
     rw[e,<-c] at a;rw[gk] at a;cases a
    simp[b]
   rw[this];simp
  ·rw[Af e,Aj e,ih];cases bK s r with
   |none=>rfl
   |some i=>simp
def pK : eX I1:=by unfold eX;decide +kernel
def rA : lM G8:=fun x a=>by
 have:x.a8=[]\/x.a8=I1:=by
  simp only[G8,AF,List.not_mem_nil,or_false] at a;rcases a with rfl|rfl|rfl|rfl<;>simp
 rcases this with e|e<;>rw[e]
 ·exact List.Pairwise.nil
 ·exact pK
def oN : ew G8:=by
 refine⟨o9,o9,fun x b=>?_,fun o c=>by cases c⟩;simp only[G8,AF,List.not_mem_nil,or_false] at b;have a:∀m∈I1,m.code.length<=1048576:=o9;rcases b with rfl|rfl|rfl|rfl
 ·exact⟨o9,fun m a=>by cases a⟩
 ·exact⟨o9,fun m a=>by cases a⟩
 ·exact⟨o9,fun m a=>by cases a⟩
 ·exact⟨o9,a⟩
def tN (s:ByteArray):kF G8 s 3=match bK s I1 with
  |some i=>(3,(i:Int))
  |none=>(-1,-1):=by
 unfold kF;have a:G8.a7[(3:Int).toNat]?=some ⟨⟨#[73,110,116]⟩,0,0,I1⟩:=rfl;have e0:G8.a7[(0:Int).toNat]?=some ⟨⟨#[79,98,106,101,99,116]⟩,-1,0,[]⟩:=rfl;have b:Y9 G8 s 4 0=none:=by
  rw[Y9,Ag o9,e0];show Y9 G8 s 3 (-1)=none;rw[Y9,Af o9]
 rw[iz,Y9,Ag o9,a];show(match bK s I1 with
  |some i=>some ((3:Int),(i:Int))
  |none=>Y9 G8 s 4 0).getD (-1,-1)=_
 rw[b];cases bK s I1<;>rfl
def tW (N:Nat) (j:1048578<=N) (m:Me):iJ N G8 m=some (I1.any (fun p=>decide (p.name=m.name) && decide (p.aQ=m.aQ)) && (decide (m.args=1) && (decide (m.aL=0) && decide (m.code=[])))):=by
 have n:∀i,bK m.name I1=some i->∃x,I1[i]?=some x:=fun i h=>by
  obtain⟨x,b,_⟩:=gT h;exact⟨x,b⟩
 have k:decide ((m.code.length:Int)=0)=decide (m.code=[]):=by
  cases m.code<;>simp;omega
 unfold iJ;rw[sR N G8 3 m.name j rA oN,tN,nr pK];cases l:bK m.name I1 with
 |none=>rfl
 |some i =>
  obtain⟨x,b⟩:=n i l;have g:H7 G8.a7 3=some ⟨⟨#[73,110,116]⟩,0,0,I1⟩:=rfl;simp only[A0,g,K9,b,Ak (Int.natCast_nonneg i),Ad,k];by_cases a:x.aQ=m.aQ
  ·by_cases d:m.args=1
   ·by_cases f:m.aL=0
    ·simp[a,d,f]
    ·simp[a,d,f]
   ·simp[a,d]
  ·have c:¬m.aQ=x.aQ:=fun e=>a e.symm;simp[a,c]
def pA {m:Me} (h:I1.any (fun p=>decide (p.name=m.name) && decide (p.aQ=m.aQ))=true):m.aQ≠0/\∃p∈I1,p.name=m.name/\p.aQ=m.aQ:=by
 obtain⟨p,a,h⟩:=List.any_eq_true.1 h;simp only[A7,Al] at h;have b:∀q∈I1,q.aQ≠0:=o9;exact⟨by rw[<-h.2];exact b p a,p,a,h⟩
theorem oQ (N:Nat) (w:Wd) (k:Nat) (c:Cl) (q:4194304<=N) (i:ew w) (r:c∈w.a7):∀(l:List Me) (j:Nat),l=c.a8.drop j->R3 N w G8 k c l j=Z0 N w k c.a8 l j
 |[],j,_=>rfl
 |m::l,j,h=>by
  obtain⟨A,v,b⟩:=fR h;have b:=of_decide_eq_true b;have x:=(i.2.2.1 c r).1;have ih:=oQ N w k c q i r l (j+1) v;have ep:((bif decide ((0:Int)<(j:Int)) then((H7 c.a8 (wr ((j:Int)-(1:Int)))).bind fun e=>some ((!Q6 e.name m.name))) else some (false)):Option Bool) =
    some (gK (if j=0 then none else c.a8[j-1]?) m):=by
   by_cases o:j=0
   ·subst o;rfl
   ·have z:wr ((j:Int)-1)=((j-1:Nat):Int):=by rw[O7 ino];omega
    obtain⟨p,y⟩:∃p,c.a8[j-1]?=some p:=⟨_,A8 d9⟩;rw[Ak (show(0:Int)<(j:Int) by omega),Af o];simp only[Ad,z,K9,y,A0,gK]
  have eq:((bif (!decide (m.aQ=(0:Int))) then(bif decide ((k:Int)=(3:Int)) then((iJ N G8 m).bind fun d=>some (d)) else some (false)) else some (false)):Option Bool)=some (fb k m):=by
   rw[tW N d9 m];unfold fb;by_cases g:k=3
   ·have a:(k:Int)=3:=d9;cases t:I1.any (fun p=>decide (p.name=m.name) && decide (p.aQ=m.aQ)) with
    |true =>
     have:=(pA t).1;simp[g,this]
    |false =>
     by_cases n:m.aQ=0<;>simp[g,n]
   ·have a:¬(k:Int)=3:=d9;by_cases n:m.aQ=0<;>simp[g,a,n]
  rw[R3,ep,eq,sL N w _ _ d9 i.1,Z0];unfold fe;simp only[A0,ih];cases gK (if j=0 then none else c.a8[j-1]?) m with
  |true=>simp
  |false =>
   cases fb k m with
   |true=>simp
   |false =>
    simp only[Ae];obtain⟨f,u⟩:=oD N w (k:Int) m q;rw[u];simp only[A0,Option.map_some];by_cases s:f.err=0
    ·simp[s]
    ·simp[s]
theorem oa (N:Nat) (w:Wd) (b:4194304<=N) (a:ew w):∀(l:List Cl) (k:Nat),l=w.a7.drop k->R5 N w G8 l k=dM N w l k
 |[],k,_=>rfl
 |c::l,k,h=>by
  obtain⟨d,e,f⟩:=fR h;rw[R5,kj N w _ d9 a.1,dM,oQ N w k c b a (AP d) c.a8 0 rfl];simp only[A0,oa N w b a l (k+1) e];rfl
theorem pQ (N:Nat) (w:Wd):∀(l:List V) (k:Nat),U4 N w l k=some (dc (w.heap.length:Int) l)
 |[],k=>rfl
 |v::l,k=>by
  rw[U4,s9,dc];simp only[A0,pQ N w l (k+1)];by_cases h:gi v (w.heap.length:Int)=0<;>simp[h]
theorem ou (N:Nat) (w:Wd) (b:1048578<=N) (c:w.a7.length<=1048576) (f:4<=w.a7.length):∀(l:List Ob) (k:Nat),U9 N w l k=some (dY w l)
 |[],k=>rfl
 |o::l,k=>by
  rw[U9,kj N w _ b c,dY,pQ];simp only[A0,ou N w b c f l (k+1)];have e:((bif (!decide (o.cls=(0:Int))) then(bif decide (o.cls<(4:Int)) then some (true) else(bif decide ((w.a7.length:Int)<=o.cls) then some (true) else some ((!decide ((o.aD.length:Int)=Z4 w o.cls))))) else some ((!decide ((o.aD.length:Int)=Z4 w o.cls)))):Option Bool)=some (eh w o):=by
   unfold eh;by_cases a:o.cls=0
   ·simp[a]
   ·by_cases d:o.cls<4
    ·simp[a,d]
    ·by_cases g:(w.a7.length:Int)<=o.cls<;>simp[a,d,g]
  rw[e];simp only[A0];cases eh w o with
  |true=>rfl
  |false =>
   simp only[Ae];cases dc (w.heap.length:Int) o.aD<;>rfl
def X6 (N:Nat) (w:Wd) (e:4194304<=N) (b:ew w):M9 N w=fZ N w:=by
 unfold M9 fZ kZ;have e1:((bif decide ((w.a7.length:Int)<(G8.a7.length:Int)) then some (true) else(bif decide ((12:Int)<(w.a7.length:Int)) then some (true) else some (decide ((60:Int)<(w.heap.length:Int))))):Option Bool)=some (decide ((w.a7.length:Int)<4) || (decide (12<(w.a7.length:Int)) || decide (60<(w.heap.length:Int)))):=by
  rw[iz];have:((4:Nat):Int)=4:=rfl;rw[this];by_cases a:(w.a7.length:Int)<4
  ·simp[a]
  ·by_cases g:(12:Int)<(w.a7.length:Int)<;>simp[a,g]
 have c:((bif decide (w.aR<(0:Int)) then some (true) else some (decide ((1073741824:Int)<w.aR))):Option Bool)=some (decide (w.aR<0) || decide (1073741824<w.aR)):=by
  by_cases a:w.aR<0<;>simp[a]
 simp only[A0,e1,c];cases f:(decide ((w.a7.length:Int)<4) || (decide (12<(w.a7.length:Int)) || decide (60<(w.heap.length:Int)))) with
 |true=>rfl
 |false =>
  have d:4<=w.a7.length:=by
   simp only[Bool.or_eq_false_iff,decide_eq_false_iff_not] at f;omega
  simp only[Ae];cases (decide (w.aR<0) || decide (1073741824<w.aR)) with
  |true=>rfl
  |false =>
   simp only[Ae,oR N w b.1 w.a7 0 [] rfl (AA _) (fun s=>rfl),oa N w e b w.a7 0 rfl,lJ,ou N w d9 b.1 d w.heap 0,A0];cases da w w.a7 0 with
   |ret r=>rfl
   |next u =>
    cases dM N w w.a7 0 with
    |none=>rfl
    |some o =>
     cases o with
     |ret r=>rfl
     |next u =>
      simp only[A0];cases dY w w.heap<;>rfl
theorem oB (N:Nat) (w:Wd) (k:Nat) (a:List Me) (b:4194304<=N):∀(l:List Me) (j:Nat),∃o,Z0 N w k a l j=some o
 |[],j=>⟨_,rfl⟩
 |m::l,j=>by
  obtain⟨e,c⟩:∃e,fe N w k (if j=0 then none else a[j-1]?) m=some e:=by
   unfold fe;obtain⟨f,d⟩:=oD N w (k:Int) m b;rw[d];cases gK (if j=0 then none else a[j-1]?) m with
   |true=>exact⟨_,rfl⟩
   |false=>cases fb k m<;>exact⟨_,rfl⟩
  rw[Z0,c];simp only[A0];cases decide (e=0) with
  |true=>exact oB N w k a b l (j+1)
  |false=>exact⟨_,rfl⟩
theorem oF (N:Nat) (w:Wd) (a:4194304<=N):∀(l:List Cl) (k:Nat),∃o,dM N w l k=some o
 |[],k=>⟨_,rfl⟩
 |c::l,k=>by
  rw[dM];cases decide (6<Z4 w (k:Int)) with
  |true=>exact⟨_,rfl⟩
  |false =>
   cases decide (8<(c.a8.length:Int)) with
   |true=>exact⟨_,rfl⟩
   |false =>
    obtain⟨o,b⟩:=oB N w k c.a8 a c.a8 0;simp only[Ae,b,A0];cases o with
    |ret r=>exact⟨_,rfl⟩
    |next u=>exact oF N w a l (k+1)
def oC (N:Nat) (w:Wd) (a:4194304<=N):∃r,fZ N w=some r:=by
 obtain⟨o,b⟩:=oF N w a w.a7 0;unfold fZ;rw[b];cases (decide ((w.a7.length:Int)<4) || (decide (12<(w.a7.length:Int)) || decide (60<(w.heap.length:Int)))) with
 |true=>exact⟨_,rfl⟩
 |false =>
  cases (decide (w.aR<0) || decide (1073741824<w.aR)) with
  |true=>exact⟨_,rfl⟩
  |false =>
   simp only[Ae];cases da w w.a7 0 with
   |ret r=>exact⟨_,rfl⟩
   |next u =>
    simp only[A0];cases o with
    |ret r=>exact⟨_,rfl⟩
    |next u=>cases dY w w.heap<;>exact⟨_,rfl⟩
def tx (t:BL):ByteArray:=⟨t.toArray⟩
def pR (t:BL):(tx t).size=t.length:=by show t.toArray.size=_;simp
def pU (s:ByteArray):tx s.data.toList=s:=gf rfl
def o0 (a b:BL):tx a++tx b=tx (a++b):=by
 apply gf;show(tx a++tx b).data.toList=a++b;simp[tx]
def tr (t:BL) (s:ByteArray):(tx t++s)++(⟨#[32]⟩:ByteArray)=tx (t++bO s):=by
 have e:(⟨#[32]⟩:ByteArray)=tx [32]:=rfl;rw[e,<-pU s,o0,o0,pU,bO,AG]
def kM {b:Type} (t:BL) (s:ByteArray) (y:ByteArray->Option b) (h:t.length+(bO s).length<=4611686018427387904) :
  (bif decide ((tx t).size+s.size<=4611686018427387904) then(bif decide (((tx t)++s).size+(⟨#[32]⟩:ByteArray).size<=4611686018427387904) then y (((tx t)++s)++(⟨#[32]⟩:ByteArray)) else none) else none)=y (tx (t++bO s)):=by
 have a:=gW s;simp only[bO,A6,Ac,a] at h;have e1:(⟨#[32]⟩:ByteArray).size=1:=rfl;rw[Ak (by rw[pR];omega),Ak (by rw[ByteArray.size_append,pR,e1];omega),tr];rfl
theorem pL (N:Nat):∀(l:List Int) (k:Nat) (t:BL),t.length+(J8 l).length<=4611686018427387904->H8 N l k (tx t)=some (tx (t++J8 l))
 |[],k,t,_=>by simp[H8,J8]
 |n::l,k,t,h=>by
  have e:J8 (n::l)=bW n++J8 l:=by simp[J8]
  rw[e,A6] at h;have a:bO ⟨(Lib.itoa n).toArray⟩=bW n:=rfl;rw[H8];simp only[strconv_Itoa,A0];rw[kM t ⟨(Lib.itoa n).toArray⟩ (fun v=>H8 N l (k+1) v) (by rw[a];omega),a,pL N l (k+1) _ (by rw[A6];omega),e,AG]
def bY (N:Nat) (l:List Int) (t:BL) (h:t.length+(J8 l).length<=4611686018427387904):H6 N l (tx t)=some (tx (t++J8 l)):=by
 unfold H6;rw[pL N l 0 t h];rfl
theorem gI {b:Type} (f:b->BL) (L:List b->Nat->ByteArray->Option ByteArray) (c:∀k a,L [] k a=some a)
  (d:∀x l k t,t.length+(f x).length<=4611686018427387904->L (x::l) k (tx t)=L l (k+1) (tx (t++f x))):∀(l:List b) (k:Nat) (t:BL),t.length+(l.map f).flatten.length<=4611686018427387904->L l k (tx t)=some (tx (t++(l.map f).flatten))
 |[],k,t,_=>by simp[c]
 |x::l,k,t,h=>by
  simp only[AO,List.flatten_cons,A6] at h;rw[d x l k t d9,gI f L c d l (k+1) _ (by rw[A6];omega),AO,List.flatten_cons,AG]
def tl (N:Nat):∀(l:List Ins) (k:Nat) (t:BL),t.length+(l.map Z7).flatten.length<=4611686018427387904->J7 N l k (tx t)=some (tx (t++(l.map Z7).flatten)) :=
 gI Z7 (J7 N) (fun k a=>rfl) fun i l k t h=>by
  simp only[Z7,A6] at h;rw[J7,bY N _ t d9];simp only[A0];by_cases b:i.op=14
  ·rw[Ag b] at h;rw[b] at h⊢;simp only[Ah,Ad];rw[kM _ i.name (fun v=>some v) (by rw[A6];omega)];simp only[A0,Z7,b,if_true,AG]
  ·simp only[b,Ai,Ae,A0,Z7,if_false,List.append_nil]
def uH (N:Nat):∀(l:List Me) (k:Nat) (t:BL),t.length+(l.map bp).flatten.length<=4611686018427387904->I4 N l k (tx t)=some (tx (t++(l.map bp).flatten)) :=
 gI bp (I4 N) (fun k a=>rfl) fun m l k t h=>by
  simp only[bp,A6] at h;rw[I4];rw[kM t m.name (fun v=>(H6 N [m.args,m.aL,m.aQ,(m.code.length:Int)] v).bind fun b=>((J7 N m.code 0 b).bind fun c=>I4 N l (k+1) c)) d9];rw[bY N _ _ (by rw[A6];omega)];simp only[A0];rw[tl N m.code 0 _ (by simp only[A6];omega)];simp only[A0,bp,AG]
def u3 (N:Nat):∀(l:List Cl) (k:Nat) (t:BL),t.length+(l.map bx).flatten.length<=4611686018427387904->J9 N l k (tx t)=some (tx (t++(l.map bx).flatten)) :=
 gI bx (J9 N) (fun k a=>rfl) fun m l k t h=>by
  simp only[bx,A6] at h;rw[J9];rw[kM t m.name (fun v=>(H6 N [m.aJ,m.aD,(m.a8.length:Int)] v).bind fun b=>((I4 N m.a8 0 b).bind fun c=>J9 N l (k+1) c)) d9];rw[bY N _ _ (by rw[A6];omega)];simp only[A0];rw[uH N m.a8 0 _ (by simp only[A6];omega)];simp only[A0,bx,AG]
def uJ (N:Nat):∀(l:List V) (k:Nat) (t:BL),t.length+(l.map vT).flatten.length<=4611686018427387904->M4 N l k (tx t)=some (tx (t++(l.map vT).flatten)) :=
 gI vT (M4 N) (fun k a=>rfl) fun v l k t h=>by
  rw[M4,bY N _ t h];rfl
def uV (N:Nat):∀(l:List Ob) (k:Nat) (t:BL),t.length+(l.map cB).flatten.length<=4611686018427387904->M0 N l k (tx t)=some (tx (t++(l.map cB).flatten)) :=
 gI cB (M0 N) (fun k a=>rfl) fun o l k t h=>by
  simp only[cB,A6] at h;rw[M0,bY N _ t d9];simp only[A0];rw[uJ N o.aD 0 _ (by rw[A6];omega)];simp only[A0,cB,AG]
def uU (N:Nat) (w:Wd) (h:(bP w).length<=140737488355328):jb N w=some (tx (bP w)):=by
 simp only[bP,A6] at h;have e0:(⟨#[]⟩:ByteArray)=tx []:=rfl;unfold jb;rw[e0,bY N _ [] (by simp only[List.length_nil];omega)];simp only[A0,List.nil_append];rw[u3 N w.a7 0 _ d9];simp only[A0];rw[bY N _ _ (by simp only[A6];omega)];simp only[A0];rw[uV N w.heap 0 _ (by simp only[A6];omega)];simp only[A0,bP,AG]
def vt (t:BL):strOfNums (U t)=tx t:=gf (iy t)
def ic {a:Type} {f:a->BL} {bk:a->Nat} {l:List a} (h:∀x∈l,(f x).length<=22*bk x):(l.map f).flatten.length+22<=22*Y6 bk l:=by
 induction l with
 |nil=>simp[Y6]
 |cons x l ih =>
  have c:=h x o7;have d:=ih fun y b=>h y (by simp[b]);rw[lf];simp only[AO,List.flatten_cons,A6];omega
def mG (s:ByteArray):(bO s).length=s.size+1:=by rw[bO,A6,gW];rfl
def ij {n:Nat} (h:n<=maxLen):C9 (n:Int):=by simp only[maxLen] at h;unfold C9;omega
def tc {i:Ins} (h:k8 i):(Z7 i).length<=22*db i:=by
 obtain⟨a,b,_⟩:=h;have c:=O0 a;have d:=O0 b;have e:=mG i.name;unfold Z7 db V8 eI;rw[A6,dB,A6];split
 ·omega
 ·simp only[List.length_nil];omega
def uB {m:Me} (h:kP m):(bp m).length<=22*dD m:=by
 obtain⟨_,a,b,c,d,e⟩:=h;have j:=O0 a;have k:=O0 b;have l:=O0 c;have n:=O0 (ij d);have o:=mG m.name;have p:=ic (f:=Z7) (bk:=db) fun i g=>tc (e i g);unfold bp dD V8 eI;simp only[A6,lP];omega
def uF {c:Cl} (h:j7 c):(bx c).length<=22*dQ c:=by
 obtain⟨_,a,b,d,e⟩:=h;have j:=O0 a;have k:=O0 b;have l:=O0 (ij d);have m:=mG c.name;have n:=ic (f:=bp) (bk:=dD) fun i g=>uB (e i g);unfold bx dQ V8 eI;simp only[A6,mv];omega
def uu {v:V} (h:kW v):(vT v).length<=22*dj v:=by
 have a:=O0 h.1;have b:=O0 h.2;unfold vT dj V8;simp only[dB,A6];omega
def uZ {o:Ob} (h:jv o):(cB o).length<=22*dT o:=by
 obtain⟨a,b,c⟩:=h;have e:=O0 a;have g:=O0 (ij b);have j:=ic (f:=vT) (bk:=dj) fun i d=>uu (c i d);unfold cB dT V8;simp only[dB,A6];omega
def pd {w:Wd} (h:j0 w):(bP w).length<=22*eZ w:=by
 obtain⟨⟨b,c⟩,⟨d,e⟩,g⟩:=h;have j:=O0 g;have k:=O0 (ij b);have l:=O0 (ij d);have m:=ic (f:=bx) (bk:=dQ) fun i a=>uF (c i a);have n:=ic (f:=cB) (bk:=dT) fun i a=>uZ (e i a);unfold bP eZ V8;simp only[dB,ml,A6];omega
theorem oP {w:Wd}:∀{l:List Cl} {k:Nat},l=w.a7.drop k->da w l k=.next ()->∀j c,k<=j->w.a7[j]?=some c->eS (w.a7.take j) j c=0
 |[],k,h,_,j,c,b,a=>by
  have g:=(AB.1 a).1;have i:=List.drop_eq_nil_iff.1 h.symm;omega
 |d::l,k,h,he,j,c,b,a=>by
  obtain⟨hd,f,_⟩:=fR h;rw[da] at he;by_cases e:eS (w.a7.take k) k d=0
  ·rw[Ak e] at he;rcases Nat.eq_or_lt_of_le b with rfl|b
   ·rw[hd] at a;cases a;exact e
   ·exact oP f he j c b a
  ·rw[Aj e] at he;cases he
def uN {b:List Cl} {k:Nat} {c:Cl} (h:eS b k c=0):V9 c.name=true/\fE b c.name=false/\kO k c=false/\jw k c=false:=by
 unfold eS at h;cases a:(!V9 c.name || (fE b c.name || kO k c)) with
 |true=>rw[a] at h;cases h
 |false =>
  rw[a] at h;cases d:jw k c with
  |true=>rw[d] at h;cases h
  |false =>
   simp only[Bool.or_eq_false_iff,Bool.not_eq_false'] at a;exact⟨a.1,a.2.1,a.2.2,rfl⟩
theorem oe {N:Nat} {w:Wd} {k:Nat} {d:List Me}:∀{l:List Me} {j:Nat},l=d.drop j->Z0 N w k d l j=some (.next ())->∀i m,j<=i->d[i]?=some m->fe N w k (if i=0 then none else d[i-1]?) m=some 0
 |[],j,h,_,i,m,c,a=>by
  have f:=(AB.1 a).1;have b:=List.drop_eq_nil_iff.1 h.symm;omega
 |x::l,j,h,he,i,m,c,a=>by
  obtain⟨o,n,_⟩:=fR h;rw[Z0,Ab] at he;obtain⟨e,f,b⟩:=he;by_cases g:e=0
  ·subst g;rcases Nat.eq_or_lt_of_le c with rfl|c
   ·rw[o] at a;cases a;exact f
   ·exact oe n b i m c a
  ·rw[Aj g] at b;cases b
theorem oX {N:Nat} {w:Wd}:∀{l:List Cl} {k:Nat},l=w.a7.drop k->dM N w l k=some (.next ())->∀j c,k<=j->w.a7[j]?=some c->Z4 w (j:Int)<=6/\c.a8.length<=8/\Z0 N w j c.a8 c.a8 0=some (.next ())
 |[],k,h,_,j,c,b,a=>by
  have e:=(AB.1 a).1;have f:=List.drop_eq_nil_iff.1 h.symm;omega
 |d::l,k,h,he,j,c,b,a=>by
  obtain⟨hd,m,_⟩:=fR h;rw[dM] at he;by_cases e:6<Z4 w (k:Int)
  ·rw[Ak e] at he;cases he
  rw[Aj e] at he;by_cases f:8<(d.a8.length:Int)
  ·rw[Ak f] at he;cases he
  rw[Aj f] at he;simp only[Ae,Ab] at he;obtain⟨o,i,g⟩:=he;cases o with
  |ret r=>cases g
  |next u =>
   rcases Nat.eq_or_lt_of_le b with rfl|b
   ·rw[hd] at a;cases a;exact⟨d9,d9,i⟩
   ·exact oX m g j c b a
theorem oY {w:Wd}:∀{l:List Ob},dY w l=.next ()->∀o∈l,eh w o=false/\dc (w.heap.length:Int) o.aD=.next ()
 |[],_,o,a=>by cases a
 |x::l,h,o,a=>by
  rw[dY] at h;cases b:eh w x with
  |true=>rw[b] at h;cases h
  |false =>
   rw[b] at h;simp only[Ae] at h;cases c:dc (w.heap.length:Int) x.aD with
   |ret r=>rw[c] at h;cases h
   |next u =>
    rw[c] at h;rcases AF.1 a with rfl|a
    ·exact⟨b,c⟩
    ·exact oY h o a
structure mf (N:Nat) (w:Wd):Prop where
 many:4<=w.a7.length/\w.a7.length<=12/\w.heap.length<=60
 aR:0<=w.aR/\w.aR<=1073741824
 cls:∀(j:Nat) c,w.a7[j]?=some c->eS (w.a7.take j) j c=0
 jJ:∀(j:Nat) c,w.a7[j]?=some c->Z4 w (j:Int)<=6/\c.a8.length<=8/\Z0 N w j c.a8 c.a8 0=some (.next ())
 obj:∀o∈w.heap,eh w o=false/\dc (w.heap.length:Int) o.aD=.next ()
def ta {N:Nat} {w:Wd} (h:fZ N w=some 0):mf N w:=by
 unfold fZ at h;cases p:(decide ((w.a7.length:Int)<4) || (decide (12<(w.a7.length:Int)) || decide (60<(w.heap.length:Int)))) with
 |true=>rw[p] at h;cases h
 |false =>
  rw[p] at h;cases q:(decide (w.aR<0) || decide (1073741824<w.aR)) with
  |true=>rw[q] at h;cases h
  |false =>
   rw[q] at h;simp only[Ae] at h;have f:∀{l:List Cl} {k:Nat} {r:Int},da w l k=.ret r->r≠0:=by
    intro l
    induction l with
    |nil=>intro k r h;cases h
    |cons c l ih =>
     intro k r h;rw[da] at h;by_cases a:eS (w.a7.take k) k c=0
     ·rw[Ak a] at h;exact ih h
     ·rw[Aj a] at h;cases h;exact a
   have b:∀{k:Nat} {z:List Me} {l:List Me} {j:Nat} {r:Int},Z0 N w k z l j=some (.ret r)->r≠0:=by
    intro k z l
    induction l with
    |nil=>intro j r h;rw[Z0] at h;cases h
    |cons c l ih =>
     intro j r h;rw[Z0,Ab] at h;obtain⟨e,_,h⟩:=h;by_cases a:e=0
     ·rw[Ak a] at h;exact ih h
     ·rw[Aj a] at h;cases h;exact a
   have g:∀{l:List Cl} {k:Nat} {r:Int},dM N w l k=some (.ret r)->r≠0:=by
    intro l
    induction l with
    |nil=>intro k r h;rw[dM] at h;cases h
    |cons c l ih =>
     intro k r h;rw[dM] at h;cases A:decide (6<Z4 w (k:Int)) with
     |true=>rw[A] at h;cases h;decide
     |false =>
      rw[A] at h;cases B:decide (8<(c.a8.length:Int)) with
      |true=>rw[B] at h;cases h;decide
      |false =>
       rw[B] at h;simp only[Ae,Ab] at h;obtain⟨o,C,h⟩:=h;cases o with
       |ret D=>cases h;exact b C
       |next u=>exact ih h
   have d:∀{n:Int} {l:List V} {r:Int},dc n l=.ret r->r≠0:=by
    intro n l
    induction l with
    |nil=>intro r h;cases h
    |cons v l ih =>
     intro r h;rw[dc] at h;by_cases a:gi v n=0
     ·rw[Ak a] at h;exact ih h
     ·rw[Aj a] at h;cases h;exact a
   have i:∀{l:List Ob} {r:Int},dY w l=.ret r->r≠0:=by
    intro l
    induction l with
    |nil=>intro r h;cases h
    |cons o l ih =>
     intro r h;rw[dY] at h;cases y:eh w o with
     |true=>rw[y] at h;cases h;decide
     |false =>
      rw[y] at h;simp only[Ae] at h;cases t:dc (w.heap.length:Int) o.aD with
      |ret D=>rw[t] at h;cases h;exact d t
      |next u=>rw[t] at h;exact ih h
   simp only[Bool.or_eq_false_iff,decide_eq_false_iff_not] at p q;cases m:da w w.a7 0 with
   |ret r=>rw[m] at h;cases h;exact absurd rfl (f m)
   |next u =>
    rw[m] at h;simp only[Ab] at h;obtain⟨o,x,h⟩:=h;cases o with
    |ret r=>cases h;exact absurd rfl (g x)
    |next u =>
     cases c3:dY w w.heap with
     |ret r=>simp only[c3] at h;cases h;exact absurd rfl (i c3)
     |next u=>exact⟨d9,d9,fun j c s=>oP (k:=0) rfl m j c (Nat.zero_le _) s,fun j c s=>oX (k:=0) rfl x j c (Nat.zero_le _) s,oY c3⟩
def iq {s:ByteArray} (h:V9 s=true):dL s:=by
 unfold V9 at h;simp only[A7,Al] at h;refine⟨fun e=>?_,fun e=>?_⟩
 ·have:=gW s;rw[e] at this;simp at this;omega
 ·have:=AD.1 h.1 32 e;revert this;decide
def tM {w:Wd} {c:Int} {m:Me} {i:Ins} (h:df w c m i=0):i.b=0/\i.c=0/\(i.op=14->dL i.name)/\(i.op≠14->i.name=AK):=by
 unfold df at h;split at h
 ·cases h
 ·split at h
  ·split at h
   ·cases h
   ·rename_i a;unfold lU at a;simp only[Bool.or_eq_true,A7,Bool.not_eq_true',Al,decide_eq_false_iff_not,not_or,not_and,Classical.not_not,Bool.not_eq_false] at a;exact⟨a.1.2,a.2,fun d=>iq (a.1.1.1 d),fun d=>a.1.1.2 d⟩
  ·cases h
def tE {N:Nat} {w:Wd} {k:Nat} {p:Option Me} {m:Me} (h:fe N w k p m=some 0):dL m.name/\m.code.length<=60/\∀i∈m.code,i.b=0/\i.c=0/\(i.op=14->dL i.name)/\(i.op≠14->i.name=AK):=by
 unfold fe at h;cases j:gK p m with
 |true=>rw[j] at h;cases h
 |false =>
  rw[j] at h;cases a:fb k m with
  |true =>
   unfold fb at a;simp only[A7,Al] at a;obtain⟨_,l,_,_,g⟩:=a;obtain⟨q,s,e,_⟩:=(pA l).2;have r:∀q∈I1,V9 q.name=true:=o9;exact⟨by rw[<-e];exact iq (r q s),by rw[g];simp,by rw[g];intro i d;cases d⟩
  |false =>
   rw[a] at h;simp only[Ae,AX] at h;obtain⟨f,o,n⟩:=h;have F:=rK o n;exact⟨iq F.name,F.len.2,fun i d=>tM (F.num i d)⟩
theorem mf.wr {N:Nat} {w:Wd} (h:mf N w) (C:j0 w):fo w:=by
 obtain⟨⟨O,y⟩,⟨P,z⟩,A⟩:=C;refine⟨A,h.many.2.1,h.many.2.2,fun c d=>?_,fun o a=>?_⟩
 ·obtain⟨j,k⟩:=List.mem_iff_getElem?.1 d;obtain⟨s,J,K,L⟩:=uN (h.cls j c k);obtain⟨M,t,u⟩:=h.jJ j c k;obtain⟨_,g,n,p,H⟩:=y c d;refine⟨iq s,g,n,t,fun m l=>?_⟩;obtain⟨i,B⟩:=List.mem_iff_getElem?.1 l;obtain⟨E,F,G⟩:=tE (oe (j:=0) rfl u i m (Nat.zero_le _) B);obtain⟨_,b,q,I,R,r⟩:=H m l;exact⟨E,b,q,I,F,fun x f=>⟨(r x f).1,(r x f).2.1,G x f⟩⟩
 ·obtain⟨b,q⟩:=h.obj o a;obtain⟨g,n,p⟩:=z o a;refine⟨g,?_,fun v D=>p v D⟩;unfold eh at b;simp only[Bool.or_eq_false_iff,Bool.and_eq_false_iff,Bool.not_eq_false',decide_eq_false_iff_not,Al] at b;have Q:0<=o.cls/\o.cls<w.a7.length:=by
   have:=h.many.1;rcases b.1 with e|e<;>omega
  obtain⟨c,d⟩:∃c,w.a7[o.cls.toNat]?=some c:=⟨_,A8 d9⟩;have:=(h.jJ o.cls.toNat c d).1;have e:((o.cls.toNat:Nat):Int)=o.cls:=d9;rw[e] at this;omega
theorem fo.small {w:Wd} (h:fo w):ew w :=
 ⟨by have:=h.2.1;omega,by have:=h.2.2.1;omega,fun c a=>⟨by have:=(h.2.2.2.1 c a).2.2.2.1;omega,fun m b=>by have:=((h.2.2.2.1 c a).2.2.2.2 m b).2.2.2.2.1;omega⟩,fun o d=>by have:=(h.2.2.2.2 o d).2.1;omega⟩
def va {a b:List Int} (h:(strOfNums a).data.toList=(strOfNums b).data.toList):strOfNums a=strOfNums b:=gf h
def rI (N:Nat):fZ N G8=some 0:=l8
def vG : fo G8:=by
 have g:∀s:ByteArray,V9 s=true->dL s:=fun s h=>iq h;have n:∀m∈I1,V9 m.name=true/\C9 m.args/\C9 m.aL/\C9 m.aQ/\m.code=[]:=o9;have j:∀m∈I1,my m:=fun m f=>by
  obtain⟨a,b,c,d,e⟩:=n m f;exact⟨g _ a,b,c,d,by rw[e];simp,by rw[e];intro i l;cases l⟩
 refine⟨o9,o9,o9,fun c k=>?_,fun o p=>by cases p⟩;simp only[G8,AF,List.not_mem_nil,or_false] at k;rcases k with rfl|rfl|rfl|rfl
 ·exact⟨g _ o9,o9,o9,o9,fun m f=>by cases f⟩
 ·exact⟨g _ o9,o9,o9,o9,fun m f=>by cases f⟩
 ·exact⟨g _ o9,o9,o9,o9,fun m f=>by cases f⟩
 ·exact⟨g _ o9,o9,o9,o9,j⟩
def mV {s:ByteArray} (h:s.size<=12):hQ s:=by unfold hQ;simp only[maxLen];omega
def nz : j0 G8/\eZ G8<=1000:=by
 have p:∀m∈I1,m.name.size<=12/\C9 m.args/\C9 m.aL/\C9 m.aQ/\m.code=[]:=o9;have e:∀(s:ByteArray) (a b:Int) ,s.size<=12->C9 a->C9 b->j7 ⟨s,a,b,[]⟩:=fun s a b j k l=>⟨mV j,k,l,Nat.zero_le _,fun m g=>by cases g⟩;refine⟨⟨⟨show(4:Nat)<=maxLen by decide,fun c h=>?_⟩,⟨show(0:Nat)<=maxLen by decide,fun o q=>by cases q⟩,show C9 0 by decide⟩,o9⟩;simp only[G8,AF,List.not_mem_nil,or_false] at h;rcases h with rfl|rfl|rfl|rfl
 ·exact e _ _ _ o9 o9 o9
 ·exact e _ _ _ o9 o9 o9
 ·exact e _ _ _ o9 o9 o9
 ·refine⟨mV o9,show C9 0 by decide,show C9 0 by decide,show(5:Nat)<=maxLen by decide,fun m g=>?_⟩;obtain⟨a,b,c,d,f⟩:=p m g;exact⟨mV a,b,c,d,by rw[f];exact⟨Nat.zero_le _,fun i n=>by cases n⟩⟩
def qt (N:Nat) (b:4194304<=N):jW N=some true:=by
 have k:=pd nz.1;have j:=nz.2;have e:(bP G8).length<=140737488355328:=d9;have d:M9 N G8=some 0:=by rw[X6 N G8 b oN];exact rI N
 have a:M9 N ⟨[],[],0⟩=some 5:=by
  rw[X6 N ⟨[],[],0⟩ b ⟨o9,o9,fun c h=>(by cases h),fun o i=>(by cases i)⟩];rfl
 have g:Y1 N (U (bP G8))=some (G8,0):=by
  rw[lX N _ (by rw[cm];omega),iy,pk vG];simp only[d,A0];rfl
 unfold jW jd;simp only[A0,ld N G8 e,g,uU N G8 e,d,a,vt];have f:(G8.a7.length:Int)=4:=rfl;simp only[f,Ah,Ad,A0]
def sP (b:Wd) (c:List Int) (j:j0 b) (v:(dG cO) c) (y:eZ b+(Y6 V8) c<=1048576):∃N,kh N b c=some true:=by
 obtain⟨N,o⟩:∃N:Nat,N=4194304:=⟨_,rfl⟩;have d:4194304<=N:=d9;refine⟨N,?_⟩;have m:=sx (w:=b) d9;have z:=pd j;have p:=gX (bk:=V8) (fun a=>AA _) c;unfold kh;rw[qt N d,X6 N b d m];obtain⟨r,f⟩:=oC N b d;simp only[A0,AL,Ae,f];have first:((bif decide (r=(0:Int)) then((fQ N b).bind fun u=>((Y1 N u).bind fun e=>(((bif (!decide (e.2=(0:Int))) then some (true) else((V7 N e.1 b).bind fun g=>some ((!g)))):Option Bool).bind fun i=>(bif i then some (J4.ret false) else some (.next ()))))) else some (.next ())):Option (J4 Bool Unit))=some (.next ()):=by
  by_cases h:r=0
  ·subst h;have t:=(ta f).wr j;rw[ld N b d9];simp only[Ah,Ad,A0];rw[lX N _ (by rw[cm];omega),iy,pk t];simp only[X6 N b d m,f,A0,Ah,AL,Ae,sa,Ad]
  ·rw[Aj h];rfl
 rw[first];simp only[A0];rw[lX N c d9];cases s:fj (strOfNums c).data.toList with
 |none=>simp
 |some x =>
  obtain⟨t1,n⟩:=rV s;obtain⟨q,l⟩:=oC N x d;have k:(bP x).length=c.length:=by rw[<-t1,strOfNums_data,AN]
  simp only[X6 N x d n.small,l,A0];by_cases h:q=0
  ·subst h;simp only[Ah,AL,Ae,A0,X6 N x d n.small,l,Ad,ld N x d9,va (show(strOfNums (U (bP x))).data.toList=(strOfNums c).data.toList by rw[iy,t1])]
  ·simp only[h,Ai,AR,Ad,A0];rfl
end Go.Proofs.YtibjcppjfkamhaaDoor
