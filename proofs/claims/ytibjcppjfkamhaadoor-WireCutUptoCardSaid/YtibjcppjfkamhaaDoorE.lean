import Derived.Test.YtibjcppjfkamhaaDoorC
set_option linter.unusedVariables false
set_option linter.defProp false
set_option linter.unusedSimpArgs false
namespace Go.Proofs.YtibjcppjfkamhaaDoor
open Go.RowKit
open _root_.Bool renaming and_eq_true->A7,not_true->AQ
open _root_.ByteArray renaming empty->AK
open _root_.List renaming length_append->A6,getElem?_eq_getElem->A8,getElem?_eq_some_iff->AB,all_eq_true->AD,mem_cons->AF,append_assoc->AG,mem_map->AI,replicate->AJ,getElem?_set->AL,length_map->AM,map_cons->AN,mem_of_getElem?->AO,mem_append->AR,getElem?_eq_none->AS,eq_nil_of_length_eq_zero->AU,length_cons->AX,length_singleton->Ab
open _root_.Nat renaming le_refl->AA,ble->AE
open _root_.Option renaming bind_some->A0,map_eq_some_iff->AW,bind_eq_some_iff->Aa

def oh {a b:Nat} (h:a<=b):AE a b=true:=by rw[Nat.ble_eq];exact h
def oO {a:Type} {l:List a} {i:Int} (h:¬(i<l.length)):l[i.toNat]?=none:=AS d9
def kR {a:Type} {l:List a} {i:Int} (h:0<=i):J3 l i=l[i.toNat]?:=by
 unfold J3;rw[Aj h];rfl
def pF {b:Type} {l:List b} {i:Int} (h:0<=i) (c:i<l.length):∃x,l[i.toNat]?=some x/\J3 l i=some x:=by
 have a:i.toNat<l.length:=d9;exact⟨l[i.toNat],A8 a,by rw[kR h,A8 a]⟩
def gJ (v:V) (n:Int):Int :=
 if v.k=0\/v.k=1\/v.k=2 then(if v.n=0 then 0 else 2)
 else if v.k=3 then(if v.n < -1073741824\/1073741824<v.n then 3 else 0)
 else if v.k=4 then(if v.n<0\/n<=v.n then 6 else 0) else 1
def ri (N:Nat) (v:V) (n:Int):jJ N v n=some (gJ v n):=by
 unfold jJ gJ;by_cases b:v.k=0
 ·by_cases h:v.n=0<;>simp[b,h]
 by_cases c:v.k=1
 ·by_cases h:v.n=0<;>simp[c,h]
 by_cases d:v.k=2
 ·by_cases h:v.n=0<;>simp[d,h]
 by_cases e:v.k=3
 ·by_cases h:v.n < -1073741824<;>by_cases a:1073741824<v.n<;>simp[e,h,a]
 by_cases f:v.k=4
 ·by_cases h:v.n<0<;>by_cases a:n<=v.n<;>simp[f,h,a]
 simp[b,c,d,e,f]
theorem nf : ∀a:List UInt8,Op.bytesLess a a=false
 |[]=>rfl
 |a::x=>by simp[Op.bytesLess,nf x]
theorem oP : ∀a b c:List UInt8,Op.bytesLess a b=true->Op.bytesLess b c=true->Op.bytesLess a c=true
 |_,[],_,h,_=>by simp[Op.bytesLess] at h
 |_,_::_,[],_,h=>by simp[Op.bytesLess] at h
 |[],_::_,_::_,_,_=>rfl
 |a::x,b::y,c::z,h,d=>by
  simp only[Op.bytesLess,Bool.or_eq_true,A7,Ak,beq_iff_eq] at h d⊢;rcases h with h|⟨rfl,h⟩
  ·rcases d with d|⟨rfl,_⟩
   ·exact Or.inl (UInt8.lt_trans h d)
   ·exact Or.inl h
  ·rcases d with d|⟨rfl,d⟩
   ·exact Or.inl d
   ·exact Or.inr ⟨rfl,oP x y z h d⟩
def oH (b:ByteArray):b.toList=b.data.toList:=by
 have:∀(n i:Nat) (r:List UInt8),n=b.size-i->ByteArray.toList.loop b i r=r.reverse++b.data.toList.drop i:=by
  intro n
  induction n with
  |zero =>
   intro i r h;unfold ByteArray.toList.loop;rw[Ae d9];have:b.data.toList.length<=i:=by simpa using(show b.size<=i by omega)
   rw[List.drop_eq_nil_of_le this];simp
  |succ n ih =>
   intro i r h;have a:i<b.size:=d9;have c:i<b.data.toList.length:=by simpa using a
   unfold ByteArray.toList.loop;rw[Af a,ih (i+1) _ d9,List.drop_eq_getElem_cons c];have e:b.get! i=b.data.toList[i]:=by
    show b.data[i]! = _;rw[getElem!_pos b.data i a,Array.getElem_toList]
   simp[e]
 have:=this b.size 0 [] d9;simpa[ByteArray.toList] using this
def toList_inj {a b:ByteArray} (h:a.toList=b.toList):a=b:=by
 rw[oH,oH] at h;cases a;cases b;congr;exact Array.toList_inj.1 h
def gK (a:ByteArray):P6 a a=false:=nf _
def lt_trans {a b c:ByteArray} (h:P6 a b=true) (d:P6 b c=true):P6 a c=true:=oP _ _ _ h d
def eP (c:List Me):Prop:=c.Pairwise fun a b=>P6 a.name b.name=true
def Z7 (s:ByteArray):List Me->Option Nat
 |[]=>none
 |m::r=>if m.name=s then some 0 else(Z7 s r).map (·+1)
theorem gB {s:ByteArray}:∀{b:List Me} {i:Nat},Z7 s b=some i->∃m,b[i]?=some m/\m.name=s
 |m::r,i,h=>by
  unfold Z7 at h;by_cases e:m.name=s
  ·rw[Af e] at h;cases h;exact⟨m,rfl,e⟩
  ·rw[Ae e] at h;cases a:Z7 s r with
   |none=>rw[a] at h;cases h
   |some j=>rw[a] at h;cases h;obtain⟨f,c,d⟩:=gB a;exact⟨f,c,d⟩
theorem oq {s:ByteArray}:∀{c:List Me},Z7 s c=none->∀m∈c,m.name≠s
 |[],_=>fun m d=>by cases d
 |m::r,h=>by
  unfold Z7 at h;by_cases e:m.name=s
  ·rw[Af e] at h;cases h
  ·rw[Ae e] at h;cases b:Z7 s r with
   |some j=>rw[b] at h;cases h
   |none =>
    intro x a;rcases AF.1 a with rfl|a
    ·exact e
    ·exact oq b x a
def gE {f:List Me} (h:eP f) {i j:Nat} {a b:Me} (g:f[i]?=some a) (k:f[j]?=some b) (d:i<j):P6 a.name b.name=true:=by
 obtain⟨c,rfl⟩:=AB.1 g;obtain⟨e,rfl⟩:=AB.1 k;exact List.pairwise_iff_getElem.1 h i j c e d
def u0 {b:List Me} (h:eP b) {i:Nat} {m:Me} (c:b[i]?=some m):Z7 m.name b=some i:=by
 cases f:Z7 m.name b with
 |none=>exact absurd rfl (oq f m (AO c))
 |some j =>
  obtain⟨g,d,e⟩:=gB f;rcases Nat.lt_trichotomy i j with a|a|a
  ·have:=gE h c d a;rw[e,gK] at this;cases this
  ·rw[a]
  ·have:=gE h d c a;rw[e,gK] at this;cases this
def nF (N:Nat) (m:Me) (s:ByteArray):Q9 N m s=some (if P6 m.name s=true then -1 else if m.name=s then 0 else 1):=by
 unfold Q9 kV cmp_isNaN_string;cases h:P6 m.name s
 ·by_cases e:m.name=s<;>simp[e]
 ·simp
theorem kp (N:Nat) (c:List Me) (s:ByteArray) (u:c.length<=1048576) (o:eP c):∀(n:Nat) (a b:Nat),a<=b->b<=c.length->b-a<n ->
  (∀i m,i<a->c[i]?=some m->P6 m.name s=true)->(∀i m,b<=i->c[i]?=some m->P6 m.name s=false) ->
  ∃v:Nat,l5 N c s (fun p q=>Q9 N p q) n (a:Int) (b:Int)=some (v:Int)/\v<=c.length /\
   (∀i m,i<v->c[i]?=some m->P6 m.name s=true)/\(∀i m,v<=i->c[i]?=some m->P6 m.name s=false)
 |0,a,b,_,_,h,_,_=>d9
 |n+1,a,b,w,t,G,r,g=>by
  rw[l5];by_cases z:a<b
  ·have d:(a:Int)<(b:Int):=d9;have D:wr ((a:Int)+(b:Int))=((a+b:Nat):Int):=by rw[N8 ino];omega
   have E:((a+b:Nat):Int) / 2=(((a+b) / 2:Nat):Int):=d9;have w3:decide (C8 ((((a+b) / 2:Nat):Int)))=true:=Aj ino;have F:wr ((((a+b) / 2:Nat):Int)+1)=(((a+b) / 2+1:Nat):Int):=by rw[N8 ino];omega
   have j:(a+b) / 2<c.length:=d9;obtain⟨x,k⟩:∃x,c[(a+b) / 2]?=some x:=⟨_,A8 j⟩;have w5:(0:Int)<=((a+b:Nat):Int):=d9;have A:=nF N x s;simp only[D,E,w3,F,w5,d,W9,k,A,Ag,Ac,A0];cases l:P6 x.name s with
   |true =>
    simp only[if_true,show((-1:Int)<0)=True by simp,Ag,Ac,A0];refine kp N c s u o n _ b d9 t d9 (fun i m y f=>?_) g;rcases Nat.lt_or_ge i ((a+b) / 2) with h|h
    ·exact lt_trans (gE o f k h) l
    ·have e:i=(a+b) / 2:=d9;subst e;rw[k] at f;cases f;exact l
   |false =>
    have hd:∀i m,(a+b) / 2<=i->c[i]?=some m->P6 m.name s=false:=by
     intro i m y f;rcases Nat.lt_or_ge ((a+b) / 2) i with h|h
     ·cases B:P6 m.name s with
      |false=>rfl
      |true=>have:=lt_trans (gE o k f h) B;rw[l] at this;cases this
     ·have e:i=(a+b) / 2:=d9;subst e;rw[k] at f;cases f;exact l
    have C:decide ((if false=true then(-1:Int) else if x.name=s then 0 else 1)<0)=false:=by
     by_cases e:x.name=s<;>simp[e]
    rw[C];simp only[Ad,A0];exact kp N c s u o n a _ d9 d9 d9 r hd
  ·have d:¬(a:Int)<(b:Int):=d9;simp only[d,Ah,Ad];have e:a=b:=d9;subst e;exact⟨a,rfl,t,r,g⟩
def qP (N:Nat) (b:List Me) (s:ByteArray) (B:1048577<=N) (y:b.length<=1048576) (o:eP b) :
  ∃v:Nat,o6 N b s (fun g j=>Q9 N g j)=some ((v:Int),(Z7 s b).isSome)/\(∀i:Nat,Z7 s b=some i->(v:Int)=i)/\v<=b.length /\
   (∀i m,i<v->b[i]?=some m->P6 m.name s=true)/\(∀i m,v<=i->b[i]?=some m->P6 m.name s=false):=by
 obtain⟨v,A,q,n,p⟩:=kp N b s y o N 0 b.length d9 d9 d9 (fun i m h=>absurd h d9) (fun i m h z=>by
  have:=(AB.1 z).1;omega)
 refine⟨v,?_,?_,q,n,p⟩
 ·unfold o6;have t:l5 N b s (fun g j=>Q9 N g j) N (0:Int) (b.length:Int)=some (v:Int):=A;rw[t];simp only[A0];by_cases r:v<b.length
  ·have d:(v:Int)<(b.length:Int):=d9;obtain⟨x,f⟩:∃x,b[v]?=some x:=⟨_,A8 r⟩;have u:=p v x (AA _) f;simp only[d,Ag,Ac,W9,f,A0,nF,u];by_cases e:x.name=s
   ·have:=u0 o f;rw[e] at this;simp[e,this]
   ·cases k:Z7 s b with
    |none=>simp[e]
    |some i =>
     obtain⟨l,a,c⟩:=gB k;rcases Nat.lt_trichotomy i v with h|h|h
     ·have:=n i l h a;rw[c,gK] at this;cases this
     ·subst h;rw[f] at a;cases a;exact absurd c e
     ·have:=gE o f a h;rw[c] at this;rw[u] at this;cases this
  ·have d:¬(v:Int)<(b.length:Int):=d9;simp only[d,Ah,Ad,A0];cases k:Z7 s b with
   |none=>rfl
   |some i =>
    obtain⟨l,a,c⟩:=gB k;have:=(AB.1 a).1;have:=n i l d9 a;rw[c,gK] at this;cases this
 ·intro i k;obtain⟨l,a,c⟩:=gB k;have w:=(AB.1 a).1;rcases Nat.lt_trichotomy i v with h|h|h
  ·have:=n i l h a;rw[c,gK] at this;cases this
  ·rw[h]
  ·obtain⟨x,f⟩:∃x,b[v]?=some x:=⟨b[v]' d9,A8 d9⟩;have:=gE o f a h;rw[c] at this;rw[p v x (AA _) f] at this;cases this
def cV (N:Nat) (a:List Me) (s:ByteArray) (f:1048577<=N) (g:a.length<=1048576) (h:eP a) :
  ∃v:Int,o6 N a s (fun b c=>Q9 N b c)=some (v,(Z7 s a).isSome)/\∀i:Nat,Z7 s a=some i->v=i:=by
 obtain⟨v,d,e,_⟩:=qP N a s f g h;exact⟨_,d,e⟩
def X6 (w:Wd) (s:ByteArray):Nat->Int->Option (Int×Int)
 |0,_=>none
 |n+1,c=>if 0<=c then(match w.a7[c.toNat]? with
  |some x=>(match Z7 s x.aA with|some i=>some (c,(i:Int))|none=>X6 w s n x.aJ)
  |none=>none) else none
def jh (w:Wd) (s:ByteArray) (c:Int):Int×Int:=(X6 w s (w.a7.length+1) c).getD (-1,-1)
def mL (w:Wd):Prop:=∀x∈w.a7,eP x.aA
def fS (w:Wd):Prop:=w.a7.length<=1048576/\w.heap.length<=1048576/\(∀x∈w.a7,x.aA.length<=1048576/\∀m∈x.aA,m.code.length<=1048576)/\∀o∈w.heap,o.aE.length<=1048576
def pX {a:Type} (o:Option (Int×Int)) (s:a):M3 (Int×Int) a:=match o with|some p=>.ret p|none=>.next s
theorem nD (N:Nat) (w:Wd) (s:ByteArray) (m:1048577<=N) (o:mL w) (j:fS w):∀(n:Nat) (k:Nat) (c:Int),k<=w.a7.length+1->w.a7.length+1-k<n ->
  Q4 N w s n c (k:Int)=some (pX (X6 w s (w.a7.length+1-k) c) ())
 |0,k,c,_,h=>d9
 |n+1,k,c,y,z=>by
  rw[Q4];by_cases a:0<=c
  ·by_cases d:c<w.a7.length
   ·obtain⟨x,p,f⟩:=pF a d;by_cases u:k<=w.a7.length
    ·have b:(k:Int)<=(w.a7.length:Int):=d9;have g:=AO p;obtain⟨v,r,l⟩:=cV N x.aA s m (j.2.2.1 x g).1 (o x g);have e:w.a7.length+1-k=(w.a7.length+1-(k+1))+1:=d9;have t:wr ((k:Int)+1)=((k+1:Nat):Int):=by rw[N8 (by have:=j.1;unfold C8;omega)];omega
     rw[e,X6];simp only[a,d,b,Ag,Ac,A0,f,r,p,if_true,t];cases q:Z7 s x.aA with
     |some i=>have:=l i q;subst this;rfl
     |none =>
      simp only[Option.isSome_none,Ad];exact nD N w s m o j n (k+1) x.aJ d9 d9
    ·have b:¬(k:Int)<=(w.a7.length:Int):=d9;have e:w.a7.length+1-k=0:=d9;simp only[a,d,b,Ag,Ah,Ac,Ad,A0,e];rfl
   ·have:X6 w s (w.a7.length+1-k) c=none:=by
     cases w.a7.length+1-k with
     |zero=>rfl
     |succ n=>rw[X6,Af a,oO d]
    simp only[a,d,Ag,Ah,Ac,Ad,A0,this];rfl
  ·have:X6 w s (w.a7.length+1-k) c=none:=by
    cases w.a7.length+1-k with
    |zero=>rfl
    |succ n=>rw[X6,Ae a]
   simp only[a,Ah,Ad,A0,this];rfl
def sC (N:Nat) (w:Wd) (c:Int) (s:ByteArray) (e:1048578<=N) (d:mL w) (a:fS w):jM N w c s=some (jh w s c):=by
 unfold jM jh;have h:=nD N w s d9 d a N 0 c d9 (by have:=a.1;omega);have b:Q4 N w s N c (0:Int)=some (pX (X6 w s (w.a7.length+1) c) ()):=h;rw[b];cases X6 w s (w.a7.length+1) c<;>rfl
def gX (w:Wd):Nat->Int->List Int
 |0,_=>[]
 |n+1,c=>if 0<=c then(match w.a7[c.toNat]? with|some x=>c::gX w n x.aJ|none=>[]) else[]
def Y6 (w:Wd) (c:Int):Int:=(gX w (w.a7.length+1) c).foldl (fun n k=>match w.a7[k.toNat]? with|some x=>wr (n+x.aE)|none=>n) 0

def eW (u:UInt8):Bool:=!decide ((u.toNat:Int)<33) && !decide (126<(u.toNat:Int))
def U4 (s:ByteArray):Bool:=s.data.toList.all eW && (decide (0<s.size) && decide (s.size<=12))
def u3 (s:ByteArray) (k:Nat):gj s (k:Int)=s.data.toList[k]?:=by
 unfold gj;rw[Aj (Int.natCast_nonneg k)];show s[k]?=_;by_cases h:k<s.size
 ·rw[getElem?_pos s k h,A8 (by simpa using h)];rfl
 ·rw[getElem?_neg s k h,AS (by simpa using h)]
def jm (m:Me):Prop:=∀i∈m.code,i.op=14->0<=i.a/\i.a<=4
def Y7 (i:Ins) (p:Int):Int×Int×List Int :=
 if i.op=9\/i.op=11\/i.op=12 then(1,-1,[wr (p+1)]) else if i.op=10 then(1,1,[wr (p+1)])
 else if i.op=14 then(wr (i.a+1),-i.a,[wr (p+1)]) else if i.op=15 then(0,0,[i.a])
 else if i.op=16 then(1,-1,[wr (p+1),i.a]) else if i.op=17 then(1,-1,[]) else(0,1,[wr (p+1)])
def pD (i:Ins) (p:Int):(Y7 i p).2.2.length<=2:=by
 unfold Y7
 (repeat' split)<;>simp
def nt {i:Ins} {p:Int} {x:Int} (m:0<=x) (l:x<=12) (c:¬x<(Y7 i p).1) (b:¬12<wr (x+(Y7 i p).2.1)) (k:i.op=14->0<=i.a/\i.a<=4) :
  0<=wr (x+(Y7 i p).2.1)/\wr (x+(Y7 i p).2.1)<=12/\wr (x+(Y7 i p).2.1)=x+(Y7 i p).2.1:=by
 unfold Y7 at c b⊢;split at c
 ·rename_i e;simp only[e,if_true] at b⊢;rw[N8 ino];omega
 ·rename_i e;simp only[e,if_false] at b⊢;split at c
  ·rename_i f;simp only[f,if_true] at b⊢;rw[N8 ino] at b⊢;omega
  ·rename_i f;simp only[f,if_false] at b⊢;split at c
   ·rename_i d;have k:=k d;simp only[d,if_true] at b⊢;simp only at c;rw[N8 ino] at c b⊢;omega
   ·rename_i d;simp only[d,if_false] at b⊢;split at c
    ·rename_i g;simp only[g,if_true] at b⊢;rw[N8 ino] at b⊢;omega
    ·rename_i g;simp only[g,if_false] at b⊢;split at c
     ·rename_i h;simp only[h,if_true] at b⊢;rw[N8 ino] at b⊢;omega
     ·rename_i h;simp only[h,if_false] at b⊢;split at c
      ·rename_i j;simp only[j,if_true] at b⊢;rw[N8 ino] at b⊢;omega
      ·rename_i j;simp only[j,if_false] at b⊢;rw[N8 ino] at b⊢;omega
def ef (h:List Int):Nat:=h.countP fun x=>decide (x<0)
def oG {h:List Int} {i:Nat} {x y:Int} (b:h[i]?=some x) (c:x<0) (d:0<=y):ef (h.set i y)+1=ef h:=by
 induction h generalizing i with
 |nil=>simp at b
 |cons a h ih =>
  cases i with
  |zero =>
   simp only[List.getElem?_cons_zero,Option.some.injEq] at b;subst b;have:¬y<0:=d9;simp[ef,c,this]
  |succ i =>
   have:=ih (i:=i) (by simpa using b);simp only[ef,List.set_cons_succ,List.countP_cons] at this⊢;omega
def bx (m:Me):Nat->List Int->List (Int×Int)->Option (M3 (List Int×V9) (List Int))
 |0,_,_=>none
 |_+1,h,[]=>some (.next h)
 |n+1,h,(p,x)::r =>
  if(m.code.length:Int)<=p\/p<0 then some (.ret ([],⟨9,m.code.length⟩)) else
  match h[p.toNat]?,m.code[p.toNat]? with
  |some y,some i =>
   if 0<=y then(if y=x then bx m n h r else some (.ret ([],⟨8,p⟩)))
   else if x<(Y7 i p).1\/(i.op=17/\x≠1) then some (.ret ([],⟨8,p⟩))
   else if 12<wr (x+(Y7 i p).2.1) then some (.ret ([],⟨4,p⟩))
   else bx m n (h.set p.toNat x) (r++(Y7 i p).2.2.map fun q=>(q,wr (x+(Y7 i p).2.1)))
  |_,_=>none
def iv (l:List (Int×Int)):Prop:=∀q∈l,0<=q.2/\q.2<=12
theorem kQ (m:Me) (d:jm m):∀(n:Nat) (h:List Int) (l:List (Int×Int)),h.length=m.code.length->iv l->l.length+3*ef h<n->∃r,bx m n h l=some r
 |0,h,l,_,_,s=>d9
 |n+1,h,[],_,_,_=>⟨_,rfl⟩
 |n+1,h,(p,x)::r,hh,hl,s=>by
  rw[bx];simp only[AX] at s;have e:=hl (p,x) o7;have u:iv r:=fun q a=>hl q (by simp[a]);by_cases g:(m.code.length:Int)<=p\/p<0
  ·rw[Af g];exact⟨_,rfl⟩
  rw[Ae g];have t:p.toNat<m.code.length:=d9;have e1:h[p.toNat]?=some (h[p.toNat]' d9):=A8 d9;have f:m.code[p.toNat]?=some m.code[p.toNat]:=A8 t;generalize h[p.toNat]' d9=y at e1;have o:=d _ (List.getElem_mem t);generalize m.code[p.toNat]=i at f o;rw[e1,f];simp only;by_cases j:0<=y
  ·rw[Af j];by_cases b:y=x
   ·rw[Af b];exact kQ m d n h r hh u d9
   ·rw[Ae b];exact⟨_,rfl⟩
  rw[Ae j];by_cases b:x<(Y7 i p).1\/(i.op=17/\x≠1)
  ·rw[Af b];exact⟨_,rfl⟩
  rw[Ae b];by_cases c:12<wr (x+(Y7 i p).2.1)
  ·rw[Af c];exact⟨_,rfl⟩
  rw[Ae c];have k:=nt e.1 e.2 (fun h=>b (Or.inl h)) c o;have w:=oG (y:=x) e1 d9 e.1;have v:=pD i p;refine kQ m d n _ _ (by simpa using hh) (fun q a=>?_) dB;rcases AR.1 a with a|a
  ·exact u q a
  ·obtain⟨z,_,rfl⟩:=AI.1 a;exact⟨k.1,k.2.1⟩
def k9 (o:M3 (List Int×V9) (List Int)):List Int×V9:=match o with|.ret r=>r|.next h=>(h,⟨0,0⟩)
def ns (n:Nat):ef (AJ n (-1))=n:=by
 induction n with
 |zero=>rfl
 |succ n ih=>simp only[ef,List.replicate_succ,List.countP_cons] at ih⊢;rw[ih];rfl
def Good (x:Option (M3 Int Unit)) (P:Prop):Prop:=∃o,x=some o/\(∀r,o=.ret r->r≠0)/\(o=.next ()->P)
theorem Good.ret {r:Int} {P:Prop} (h:r≠0):Good (some (.ret r)) P:=⟨.ret r,rfl,(fun r e=>by cases e;exact h),fun e=>by cases e⟩
theorem Good.next {P:Prop} (h:P):Good (some (.next ())) P:=⟨.next (),rfl,(fun r e=>by cases e),fun _=>h⟩
theorem Good.bind {x:Option (M3 Int Unit)} {P Q:Prop} {y:Option (M3 Int Unit)} (h:Good x P) (c:P->Good y Q):Good (x.bind fun o=>match o with|.ret r=>some (.ret r)|.next ()=>y) Q:=by
 obtain⟨o,rfl,a,b⟩:=h;cases o with
 |ret r=>exact Good.ret (a r rfl)
 |next u=>exact c (b rfl)
theorem Good.imp {x:Option (M3 Int Unit)} {P Q:Prop} (h:Good x P) (d:P->Q):Good x Q:=by
 obtain⟨o,a,b,c⟩:=h;exact⟨o,a,b,fun e=>d (c e)⟩
def ss {w:Wd} (h:eQ w<=1048576):fS w:=by
 unfold eQ at h;have k:=iH (bk:=dH) (fun a=>qy a) w.a7;have l:=iH (bk:=dJ) (fun a=>rF a) w.heap;refine⟨d9,d9,fun c f=>?_,fun o i=>?_⟩
 ·have d:=lY (bk:=dH) f;have b:dH c=e7 c.name+V6 c.aJ+V6 c.aE+(bI cv) c.aA+1:=rfl;have e:=iH (bk:=cv) (fun a=>r6 a) c.aA;refine⟨d9,fun m g=>?_⟩;have n:=lY (bk:=cv) g;have j:cv m=e7 m.name+V6 m.args+V6 m.aO+V6 m.aQ+(bI dT) m.code+1:=rfl;have p:=iH (bk:=dT) (fun a=>qa a) m.code;omega
 ·have d:=lY (bk:=dJ) i;have b:dJ o=V6 o.cls+(bI dZ) o.aE+1:=rfl;have e:=iH (bk:=dZ) (fun a=>tr a) o.aE;omega





theorem nA (N:Nat) (w:Wd) (l:w.a7.length<=1048576):∀(n:Nat) (k:Nat) (c a:Int),k<=w.a7.length+1->w.a7.length+1-k<n ->
  R6 N w n c a (k:Int)=some ((gX w (w.a7.length+1-k) c).foldl (fun n k=>match w.a7[k.toNat]? with|some x=>wr (n+x.aE)|none=>n) a)
 |0,k,c,a,_,h=>d9
 |n+1,k,c,a,q,r=>by
  rw[R6];by_cases b:0<=c
  ·by_cases f:c<w.a7.length
   ·obtain⟨x,i,g⟩:=pF b f;by_cases p:k<=w.a7.length
    ·have d:(k:Int)<=(w.a7.length:Int):=d9;have e:w.a7.length+1-k=(w.a7.length-k)+1:=d9;have o:wr ((k:Int)+1)=((k+1:Nat):Int):=by rw[N8 ino];omega
     simp only[b,f,d,Ag,Ac,A0,g,o];rw[nA N w l n (k+1) _ _ d9 d9,e,gX,Af b,i];simp only[List.foldl_cons,i];rw[show w.a7.length+1-(k+1)=w.a7.length-k by omega]
    ·have d:¬(k:Int)<=(w.a7.length:Int):=d9;have e:w.a7.length+1-k=0:=d9;simp only[b,f,d,Ag,Ah,Ac,Ad,A0,e];rfl
   ·have i:w.a7[c.toNat]?=none:=oO f;simp only[b,f,Ag,Ah,Ac,Ad,A0];cases j:w.a7.length+1-k with
    |zero=>rfl
    |succ m=>rw[gX,Af b,i];rfl
  ·simp only[b,Ah,Ad,A0];cases j:w.a7.length+1-k with
   |zero=>rfl
   |succ m=>rw[gX,Ae b];rfl
def kZ (N:Nat) (w:Wd) (c:Int) (b:1048578<=N) (a:w.a7.length<=1048576):X0 N w c=some (Y6 w c):=by
 unfold X0 Y6;have h:=nA N w a N 0 c 0 d9 d9;simp only[Nat.sub_zero,Int.ofNat_zero] at h;rw[h];rfl
theorem nC (N:Nat) (s:ByteArray):∀(n k:Nat),n+k=s.size->P9 N s n k=some (if(s.data.toList.drop k).all eW=true then .next () else .ret false)
 |0,k,h=>by
  rw[List.drop_eq_nil_of_le (by rw[show s.data.toList.length=s.size from rfl];omega)];rfl
 |n+1,k,h=>by
  have f:k<s.data.toList.length:=by rw[show s.data.toList.length=s.size from rfl];omega
  rw[P9,List.drop_eq_getElem_cons f,u3,A8 f,nC N s n (k+1) d9];simp only[A0,List.all_cons];generalize s.data.toList[k]=u;generalize s.data.toList.drop (k+1)=b;by_cases d:(u.toNat:Int)<=32
  ·have a:(u.toNat:Int)<33:=d9;have e:eW u=false:=by simp[eW,a]
   simp only[d,e,Ag,Ac,A0,Bool.false_and];rfl
  ·have a:¬(u.toNat:Int)<33:=d9;by_cases c:126<(u.toNat:Int)
   ·have e:eW u=false:=(by simp only[eW,a,c,Ag,Ah,AQ,Bool.and_false]);simp only[d,c,e,Ag,Ah,Ac,Ad,A0,Bool.false_and];rfl
   ·have e:eW u=true:=(by simp only[eW,a,c,Ah,Bool.not_false,Bool.and_true]);simp only[d,c,e,Ah,Ad,A0,Bool.true_and]
def kb (N:Nat) (s:ByteArray):fy N s=some (U4 s):=by
 unfold fy U4;have e:((s.size:Int)-((0:Nat):Int)).toNat=s.size:=d9;rw[e,nC N s s.size 0 d9,List.drop_zero];by_cases c:(s.size:Int)<1
 ·have a:¬0<s.size:=d9;simp[c,a]
 ·have a:0<s.size:=d9;by_cases d:(12:Int)<(s.size:Int)
  ·have b:¬s.size<=12:=d9;simp[c,d,b]
  ·have b:s.size<=12:=d9;cases h:s.data.toList.all eW<;>simp[c,d,a,b]
def lz (w:Wd) (c:Int) (m:Me) (i:Ins):Option Bool :=
 if i.op=1\/i.op=6\/i.op=7\/i.op=8\/i.op=9\/i.op=10\/i.op=17 then some (decide (i.a=0))
 else if i.op=2 then some (decide (0<=i.a) && decide (i.a<m.args))
 else if i.op=3\/i.op=11 then some (decide (0<=i.a) && decide (i.a<m.aO))
 else if i.op=4\/i.op=12 then some (decide (0<=i.a) && decide (i.a<Y6 w c))
 else if i.op=5 then some (decide (-1073741824<=i.a) && decide (i.a<=1073741824))
 else if i.op=13 then some (decide (i.a=0) || (decide (4<=i.a) && decide (i.a<w.a7.length)))
 else if i.op=14 then some (decide (0<=i.a) && decide (i.a<5))
 else if i.op=15\/i.op=16 then some (decide (0<=i.a) && decide (i.a<m.code.length))
 else none
def mV (i:Ins):Bool:=(decide (i.op=14) && !U4 i.name) || (!decide (i.op=14) && !decide (i.name=(⟨#[]⟩:ByteArray))) || !decide (i.b=0) || !decide (i.c=0)
def dX (w:Wd) (c:Int) (m:Me) (i:Ins):Int:=match lz w c m i with
 |none=>1
 |some ok=>if ok=true then(if mV i=true then 2 else 0) else 3
def qD (N:Nat) (a b:Int):K8 N a b=some (decide (0<=a) && decide (a<b)):=by
 unfold K8;by_cases h:0<=a<;>simp[h]
def rS (N:Nat) (w:Wd) (c:Int) (m:Me) (i:Ins) (L:1048578<=N) (O:w.a7.length<=1048576):jG N w c m i=some (dX w c m i):=by
 unfold jG dX lz mV;simp only[kZ N w c L O,kb,qD,A0];generalize decide (i.b=0)=B;generalize decide (i.c=0)=C;generalize decide (i.name=(⟨#[]⟩:ByteArray))=E;generalize decide (i.a=0)=d;generalize decide (0<=i.a)=e;generalize decide (i.a<m.args)=F;generalize decide (i.a<m.aO)=q;generalize decide (i.a<Y6 w c)=r;generalize decide (-1073741824<=i.a)=G;generalize decide (i.a<=1073741824)=H;generalize decide (4<=i.a)=I;generalize decide (i.a<(w.a7.length:Int))=J;generalize decide (i.a<5)=K;generalize decide (i.a<(m.code.length:Int))=f;generalize U4 i.name=M;by_cases s:i.op=1
 ·simp only[s];cases d<;>cases B<;>cases C<;>cases E<;>simp
 by_cases y:i.op=6
 ·simp only[y];cases d<;>cases B<;>cases C<;>cases E<;>simp
 by_cases z:i.op=7
 ·simp only[z];cases d<;>cases B<;>cases C<;>cases E<;>simp
 by_cases A:i.op=8
 ·simp only[A];cases d<;>cases B<;>cases C<;>cases E<;>simp
 by_cases D:i.op=9
 ·simp only[D];cases d<;>cases B<;>cases C<;>cases E<;>simp
 by_cases g:i.op=10
 ·simp only[g];cases d<;>cases B<;>cases C<;>cases E<;>simp
 by_cases p:i.op=17
 ·simp only[p];cases d<;>cases B<;>cases C<;>cases E<;>simp
 by_cases t:i.op=2
 ·simp only[t];cases e<;>cases F<;>cases B<;>cases C<;>cases E<;>simp
 by_cases u:i.op=3
 ·simp only[u];cases e<;>cases q<;>cases B<;>cases C<;>cases E<;>simp
 by_cases h:i.op=11
 ·simp only[h];cases e<;>cases q<;>cases B<;>cases C<;>cases E<;>simp
 by_cases v:i.op=4
 ·simp only[v];cases e<;>cases r<;>cases B<;>cases C<;>cases E<;>simp
 by_cases j:i.op=12
 ·simp only[j];cases e<;>cases r<;>cases B<;>cases C<;>cases E<;>simp
 by_cases x:i.op=5
 ·simp only[x];cases G<;>cases H<;>cases B<;>cases C<;>cases E<;>simp
 by_cases k:i.op=13
 ·simp only[k];cases d<;>cases I<;>cases J<;>cases B<;>cases C<;>cases E<;>simp
 by_cases l:i.op=14
 ·simp only[l];cases e<;>cases K<;>cases B<;>cases C<;>cases M<;>simp
 by_cases n:i.op=15
 ·simp only[n];cases e<;>cases f<;>cases B<;>cases C<;>cases E<;>simp
 by_cases o:i.op=16
 ·simp only[o];cases e<;>cases f<;>cases B<;>cases C<;>cases E<;>simp
 simp[s,y,z,A,D,g,p,t,u,h,v,j,x,k,l,n,o]
def qZ (N:Nat) (i:Ins) (p:Int) (h:i.op=14->0<=i.a/\i.a<=4):∃g,jI N i=some ((Y7 i p).1,g)/\wr (g-(Y7 i p).1)=(Y7 i p).2.1:=by
 unfold jI Y7;by_cases l:i.op=9
 ·exact⟨0,by simp[l],by simp[l];rw[N8 ino]⟩
 by_cases d:i.op=11
 ·exact⟨0,by simp[d],by simp[d];rw[N8 ino]⟩
 by_cases e:i.op=12
 ·exact⟨0,by simp[e],by simp[e];rw[N8 ino]⟩
 by_cases j:i.op=16
 ·exact⟨0,by simp[j],by simp[j];rw[N8 ino]⟩
 by_cases k:i.op=17
 ·exact⟨0,by simp[k],by simp[k];rw[N8 ino]⟩
 by_cases c:i.op=10
 ·exact⟨2,by simp[c],by simp[c];rw[N8 ino]⟩
 by_cases b:i.op=14
 ·have:=h b;exact⟨1,by simp[b],by simp[b];rw[N8 (show C8 (i.a+1) by unfold C8;omega),N8 ino];omega⟩
 by_cases f:i.op=15
 ·exact⟨0,by simp[f],by simp[f];rw[N8 ino]⟩
 exact⟨1,by simp[l,c,d,e,b,f,j,k],by simp[l,c,d,e,b,f,j,k];rw[N8 ino]⟩
theorem n5 (N:Nat):∀(n k:Nat) (v:List Int),n+k=v.length->J4 N n k v=some (v.take k++AJ n (-1))
 |0,k,v,h=>by rw[J4,List.take_of_length_le d9];simp
 |n+1,k,v,h=>by
  have a:k<v.length:=d9;rw[J4,W9,A8 a];simp only[A0,Int.toNat_natCast];rw[n5 N n (k+1) _ dB];congr 1;rw[List.take_add_one,List.take_set_of_le (AA _),List.getElem?_set_self a,List.replicate_succ];simp
def cK (a:I5):Int×Int:=(a.f0,a.f1)
def jj (i:Ins) (p h:Int) (q:List I5):List I5 :=
 let b:=if i.op=15\/i.op=17 then q else q++[⟨wr (p+1),h⟩]
 if i.op=15\/i.op=16 then b++[⟨i.a,h⟩] else b
def lO (i:Ins) (p h:Int) (q:List I5):(jj i p h q).map cK=q.map cK++(Y7 i p).2.2.map fun x=>(x,h):=by
 unfold jj Y7;by_cases e:i.op=15
 ·simp[e,cK]
 by_cases f:i.op=16
 ·simp[f,cK]
 by_cases g:i.op=17
 ·simp[g]
 by_cases j:i.op=9
 ·simp[j,cK]
 by_cases b:i.op=11
 ·simp[b,cK]
 by_cases c:i.op=12
 ·simp[c,cK]
 by_cases a:i.op=10
 ·simp[a,cK]
 by_cases d:i.op=14
 ·simp[d,cK]
 simp[e,f,g,j,b,c,a,d,cK]
theorem kW (N:Nat) (m:Me) (C:jm m) (J:m.code.length<=1048576):∀(n:Nat) (h:List Int) (q:List I5),q.length+2*ef h<=4194304->h.length=m.code.length ->
  iv (q.map cK)->M0 N m n h q=bx m n h (q.map cK)
 |0,_,_,_,_,_=>rfl
 |n+1,h,[],_,_,_=>by
  rw[M0];simp[bx]
 |n+1,h,⟨p,x⟩::q,hb,hh,ho=>by
  rw[M0];have E:=ho (p,x) (by simp[cK]);have K:iv (q.map cK):=fun z c=>ho z (by rw[AN];exact List.mem_cons_of_mem _ c);have l:(0:Int)<(((⟨p,x⟩:I5)::q).length:Int):=by simp only[AX];omega
  have L:(decide (0<=(1:Int)) && decide ((1:Int)<=(((⟨p,x⟩:I5)::q).length:Int)))=true:=by simp only[A7,Ak,AX];omega
  have D:J3 ((⟨p,x⟩:I5)::q) (0:Int)=some ⟨p,x⟩:=rfl;have hd:((⟨p,x⟩:I5)::q).drop (1:Int).toNat=q:=rfl;simp only[AX] at hb;rw[AN,show cK ⟨p,x⟩=(p,x) from rfl,bx];simp only[l,Ag,Ac,D,A0,L,hd];by_cases a:p<0
  ·simp only[a,Ag,Ac,A0,or_true,if_true]
  by_cases F:(m.code.length:Int)<=p
  ·simp only[F,a,Ag,Ah,Ac,Ad,A0,true_or,if_true]
  simp only[F,a,Ah,Ad,A0,or_self,if_false];have r:p.toNat<m.code.length:=d9;have o:0<=p:=d9;have e1:h[p.toNat]?=some (h[p.toNat]' d9):=A8 d9;have u:m.code[p.toNat]?=some m.code[p.toNat]:=A8 r;generalize h[p.toNat]' d9=y at e1;have A:=C _ (List.getElem_mem r);generalize m.code[p.toNat]=i at u A;have P:J3 h p=some y:=by rw[kR o,e1]
  have Q:J3 m.code p=some i:=by rw[kR o,u]
  obtain⟨g,v,w⟩:=qZ N i p A;simp only[P,Q,e1,u,A0,v,w];by_cases G:0<=y
  ·simp only[G,Ag,Ac,if_true];by_cases b:y=x
   ·simp only[b,Ag,AQ,Ad,A0,if_true];exact kW N m C J n h q d9 hh K
   ·simp only[b,Ah,Bool.not_false,Ac,A0,if_false]
  simp only[G,Ah,Ad,if_false];by_cases b:x<(Y7 i p).1
  ·simp only[b,Ag,Ac,A0,true_or,if_true]
  by_cases s:i.op=17/\x≠1
  ·simp only[b,s.1,s.2,Ag,Ah,Ac,Ad,A0,Bool.not_false,or_true,if_true,ne_eq,not_false_eq_true,and_self]
  have O:((bif decide (i.op=(17:Int)) then some ((!decide (x=(1:Int)))) else some (false)):Option Bool)=some false:=by
   by_cases d:i.op=17
   ·by_cases I:x=1
    ·simp[I]
    ·exact absurd ⟨d,I⟩ s
   ·simp[d]
  simp only[b,s,O,Ah,Ad,A0,or_self,if_false];by_cases d:12<wr (x+(Y7 i p).2.1)
  ·simp only[d,Ag,Ac,A0,if_true]
  simp only[d,Ah,Ad,if_false];have k:=nt E.1 E.2 b d A;have R:=oG (y:=x) e1 d9 E.1;have M:=pD i p;have B:=congrArg List.length (lO i p (wr (x+(Y7 i p).2.1)) q);simp only[AM,A6] at B;have go:=kW N m C J n (h.set p.toNat x) (jj i p (wr (x+(Y7 i p).2.1)) q) d9 (by simpa using hh) (by
   rw[lO];intro z c;rcases AR.1 c with c|c
   ·exact K z c
   ·obtain⟨z,_,rfl⟩:=AI.1 c;exact⟨k.1,k.2.1⟩)
  rw[lO] at go;rw[<-go];generalize wr (x+(Y7 i p).2.1)=H;have t:AE ((q.length+1)*16) 140737488355328=true:=oh d9;have c3:AE ((q.length+1+1)*16) 140737488355328=true:=oh d9;unfold jj;by_cases e:i.op=15
  ·simp[e,t]
  by_cases f:i.op=16
  ·simp[f,t,c3]
  by_cases j:i.op=17
  ·simp[j]
  simp[e,f,j,t]
def rQ (N:Nat) (m:Me) (c:jm m) (b:m.code.length<=1048576):jD N m=(bx m N (AJ m.code.length (-1)) [(0,0)]).map k9:=by
 unfold jD;have e0:(decide (0<=(m.code.length:Int)) && decide ((m.code.length:Int)<=140737488355328) && decide ((m.code.length:Int)*8<=140737488355328))=true:=by
  simp only[A7,Ak];omega
 have e1:(((AJ (m.code.length:Int).toNat (0:Int)).length:Int)-((0:Nat):Int)).toNat=m.code.length:=o7;rw[e0,e1,n5 N _ 0 _ o7];simp only[Ac,A0,List.take_zero,List.nil_append];have h:=kW N m c b N (AJ m.code.length (-1)) [⟨0,0⟩] (by rw[ns];simp;omega) o7 (by
  intro q a;simp only[AN,List.map_nil,cK,AF,List.not_mem_nil,or_false] at a;subst a;decide)
 rw[h];show _=(bx m N (AJ m.code.length (-1)) [(0,0)]).map k9;rw[show([(⟨0,0⟩:I5)].map cK)=[((0:Int),(0:Int))] from rfl];cases bx m N (AJ m.code.length (-1)) [(0,0)] with
 |none=>rfl
 |some o=>cases o<;>rfl
theorem p6 (m:Me):∀(n:Nat) (h:List Int) (q:List (Int×Int)) (r:List Int×V9),bx m n h q=some (.ret r)->r.2.err≠0
 |0,h,q,r,e=>by cases e
 |n+1,h,[],r,e=>by rw[bx] at e;cases e
 |n+1,h,(p,x)::l,r,e=>by
  rw[bx] at e
  (repeat' split at e)<;>first|(cases e;done)|(cases e;simp;done)|exact p6 m n _ _ r e
def tV : iv [(0,0)]:=by
 intro q a;simp only[AF,List.not_mem_nil,or_false] at a;subst a;decide
def dx (w:Wd) (c:Int) (m:Me):List Ins->Nat->M3 V9 Unit
 |[],_=>.next ()
 |i::l,k=>if dX w c m i=0 then dx w c m l (k+1) else .ret ⟨dX w c m i,k⟩
theorem hU {w:Wd} {c:Int} {m:Me}:∀{l:List Ins} {k:Nat},dx w c m l k=.next ()->∀i∈l,dX w c m i=0
 |[],_,_,i,a=>by cases a
 |x::l,k,h,i,a=>by
  rw[dx] at h;split at h
  ·rename_i b;rcases AF.1 a with rfl|a
   ·exact b
   ·exact hU h i a
  ·cases h
theorem ox {w:Wd} {c:Int} {m:Me}:∀{l:List Ins} {k:Nat} {r:V9},dx w c m l k=.ret r->r.err≠0
 |[],_,_,h=>by cases h
 |x::l,k,r,h=>by
  rw[dx] at h;split at h
  ·exact ox h
  ·rename_i a;cases h;exact a
def ky {w:Wd} {c:Int} {m:Me} {i:Ins} (h:dX w c m i=0) (e:i.op=14):0<=i.a/\i.a<=4:=by
 unfold dX lz at h;simp only[e] at h;by_cases b:0<=i.a
 ·by_cases d:i.a<5
  ·omega
  ·simp[b,d] at h
 ·simp[b] at h
def bA (N:Nat) (w:Wd) (c:Int) (m:Me):Option V9 :=
 if c<0\/(w.a7.length:Int)<=c then some ⟨6,0⟩ else if U4 m.name=false then some ⟨7,0⟩
 else if m.args<0\/4<m.args\/m.aO<0\/6<m.aO then some ⟨3,0⟩ else if m.aQ≠0 then some ⟨1,0⟩
 else if m.code.length<1\/60<m.code.length then some ⟨5,0⟩ else match dx w c m m.code 0 with
  |.ret r=>some r
  |.next ()=>((bx m N (AJ m.code.length (-1)) [(0,0)]).map k9).map (·.2)
theorem nE (N:Nat) (w:Wd) (c:Int) (m:Me) (a:1048578<=N) (b:w.a7.length<=1048576):∀(l:List Ins) (k:Nat),P7 N w c m l k=some (dx w c m l k)
 |[],k=>rfl
 |x::l,k=>by
  rw[P7,dx,rS N w c m x a b];simp only[A0];by_cases h:dX w c m x=0
  ·simp only[h,Ag,AQ,Ad,if_true];exact nE N w c m a b l (k+1)
  ·simp only[h,Ah,Bool.not_false,Ac,if_false]
def ru (N:Nat) (w:Wd) (c:Int) (m:Me) (p:1048578<=N) (v:w.a7.length<=1048576):jN N w c m=bA N w c m:=by
 unfold jN bA;simp only[kb,A0,nE N w c m p v];by_cases a:c<0
 ·simp[a]
 by_cases d:(w.a7.length:Int)<=c
 ·simp[a,d]
 cases x:U4 m.name with
 |false=>simp[a,d]
 |true =>
  by_cases f:m.args<0
  ·simp[a,d,f]
  by_cases g:4<m.args
  ·simp[a,d,f,g]
  by_cases h:m.aO<0
  ·simp[a,d,f,g,h]
  by_cases k:6<m.aO
  ·simp[a,d,f,g,h,k]
  by_cases l:m.aQ=0
  ·by_cases n:m.code.length<1
   ·have e:(m.code.length:Int)<1:=d9;simp only[a,d,f,g,h,k,l,n,e,Ag,Ah,Ac,Ad,A0,or_self,if_false,AQ,Bool.not_false,or_true,true_or,if_true,ne_eq,not_true,not_false_eq_true,Bool.true_eq_false]
   ·have e:¬(m.code.length:Int)<1:=d9;by_cases j:60<m.code.length
    ·have b:(60:Int)<(m.code.length:Int):=d9;simp only[a,d,f,g,h,k,l,n,e,j,b,Ag,Ah,Ac,Ad,A0,or_self,if_false,AQ,Bool.not_false,or_true,true_or,if_true,ne_eq,not_true,not_false_eq_true,Bool.true_eq_false]
    ·have b:¬(60:Int)<(m.code.length:Int):=d9;simp only[a,d,f,g,h,k,l,n,e,j,b,Ag,Ah,Ac,Ad,A0,or_self,if_false,AQ,Bool.not_false,ne_eq,not_true,not_false_eq_true,Bool.true_eq_false];cases q:dx w c m m.code 0 with
     |ret r=>rfl
     |next u =>
      simp only[rQ N m (fun i s t=>ky (hU q i s) t) d9];generalize (bx m N (AJ m.code.length (-1)) [(0,0)]).map k9=o;cases o<;>rfl
  ·simp[a,d,f,g,h,k,l]
structure vE (N:Nat) (w:Wd) (c:Int) (m:Me):Prop where
 cls:0<=c/\c<w.a7.length
 name:U4 m.name=true
 args:0<=m.args/\m.args<=4
 aO:0<=m.aO/\m.aO<=6
 aQ:m.aQ=0
 len:1<=m.code.length/\m.code.length<=60
 num:∀i∈m.code,dX w c m i=0
 neg:jm m
 bx:∃h,bx m N (AJ m.code.length (-1)) [(0,0)]=some (.next h)
def qY {N:Nat} {w:Wd} {c:Int} {m:Me} {f:V9} (h:bA N w c m=some f) (a:f.err=0):vE N w c m:=by
 unfold bA at h;by_cases j:c<0\/(w.a7.length:Int)<=c
 ·rw[Af j] at h;cases h;cases a
 rw[Ae j] at h;by_cases k:U4 m.name=false
 ·rw[Af k] at h;cases h;cases a
 rw[Ae k] at h;by_cases l:m.args<0\/4<m.args\/m.aO<0\/6<m.aO
 ·rw[Af l] at h;cases h;cases a
 rw[Ae l] at h;by_cases e:m.aQ≠0
 ·rw[Af e] at h;cases h;cases a
 rw[Ae e] at h;by_cases n:m.code.length<1\/60<m.code.length
 ·rw[Af n] at h;cases h;cases a
 rw[Ae n] at h;cases b:dx w c m m.code 0 with
 |ret r=>rw[b] at h;cases h;exact absurd a (ox b)
 |next u =>
  rw[b] at h;simp only at h;refine⟨d9,by cases q:U4 m.name<;>simp_all,d9,d9,Decidable.byContradiction e,d9,fun i g=>hU b i g,fun i g d=>ky (hU b i g) d,?_⟩;cases d:Go.Proofs.YtibjcppjfkamhaaDoor.bx m N (AJ m.code.length (-1)) [(0,0)] with
  |none=>rw[d] at h;cases h
  |some o =>
   rw[d] at h;cases o with
   |ret r=>cases h;exact absurd a (p6 m _ _ _ _ d)
   |next p=>exact⟨p,rfl⟩
def my (N:Nat) (w:Wd) (c:Int) (m:Me) (g:4194304<=N):∃f,bA N w c m=some f:=by
 unfold bA
 (repeat' split)<;>first|exact⟨_,rfl⟩|skip
 rename_i e _ _ b;obtain⟨o,a⟩:=kQ m (fun i d a=>ky (hU b i d) a) N (AJ m.code.length (-1)) [(0,0)] o7 tV (by rw[ns];simp;omega);rw[a];exact⟨_,rfl⟩
def nI : ∀(u:Nat) (b:UInt8),b∈Lib.decDigits u->48<=b.toNat/\b.toNat<=57:=by
 intro u
 induction u using Nat.strongRecOn with
 |_ u ih =>
  intro b a;have one:∀d:Nat,d<10->(UInt8.ofNat (48+d)).toNat=48+d:=fun d hd=>dB;rw[Lib.decDigits] at a;split at a
  ·simp only[List.mem_singleton] at a;subst a;rw[one u (by assumption)];omega
  ·rcases AR.1 a with a|a
   ·exact ih (u / 10) d9 b a
   ·simp only[List.mem_singleton] at a;subst a;rw[one (u % 10) d9];omega
def kh (u:Nat):Lib.decDigits u≠[]:=by
 rw[Lib.decDigits];split<;>simp
def rT : ∀(u:Nat),u<18446744073709551616->∀r,Lib.parseUint10 0 (Lib.decDigits u++r)=Lib.parseUint10 u r:=by
 intro u
 induction u using Nat.strongRecOn with
 |_ u ih =>
  intro a r;have one:∀d:Nat,d<10->(UInt8.ofNat (48+d)).toNat=48+d:=fun d hd=>dB;rw[Lib.decDigits];split
  ·rename_i h;simp only[List.cons_append,List.nil_append,Lib.parseUint10,one u h];rw[Af d9,Ae d9,Ae d9];congr 1;omega
  ·rename_i h;rw[AG,ih (u / 10) d9 d9];simp only[List.cons_append,List.nil_append,Lib.parseUint10,one (u % 10) d9];rw[Af d9,Ae d9,Ae d9];congr 1;omega
def n4 {u:Nat} (a:u<18446744073709551616):Lib.parseMag (Lib.decDigits u)=.ok u:=by
 unfold Lib.parseMag;rw[Ae (kh u)];have:=rT u a [];simpa[Lib.parseUint10] using this
def qX {n:Int} (d:C8 n):Lib.atoiAll (Lib.itoa n)=.ok n:=by
 unfold C8 at d;unfold Lib.itoa;split
 ·rw[Lib.atoiAll_minus,n4 d9];simp only[Lib.signed];rw[Ae d9];congr 1;omega
 ·have a:=n4 (u:=n.toNat) d9;have b:=nI n.toNat;cases hd:Lib.decDigits n.toNat with
  |nil=>exact absurd hd (kh _)
  |cons c r =>
   have e:=b c (by rw[hd];simp);rw[hd] at a;rw[Lib.atoiAll_plain c r d9 d9,a];simp only[Lib.signless];rw[Ae d9];congr 1;omega
def qi (n:Int):Lib.itoa n≠[]/\(32:UInt8) ∉ Lib.itoa n:=by
 have key:∀u:Nat,(32:UInt8) ∉ Lib.decDigits u:=fun u h=>by
  have:=nI u 32 h;have e:(32:UInt8).toNat=32:=rfl;omega
 unfold Lib.itoa;split
 ·refine⟨o7,fun h=>?_⟩;rcases AF.1 h with h|h
  ·cases h
  ·exact key _ h
 ·exact⟨kh _,key _⟩
abbrev BL := List UInt8
def bN (s:ByteArray):BL:=s.data.toList++[32]
def bU (n:Int):BL:=Lib.itoa n++[32]
def I9 (l:List Int):BL:=(l.map bU).flatten
def Y4 (i:Ins):BL:=I9 [i.op,i.a]++(if i.op=14 then bN i.name else[])
def bl (m:Me):BL:=bN m.name++(I9 [m.args,m.aO,m.aQ,(m.code.length:Int)]++(m.code.map Y4).flatten)
def bt (c:Cl):BL:=bN c.name++(I9 [c.aJ,c.aE,(c.aA.length:Int)]++(c.aA.map bl).flatten)
def vT (v:V):BL:=I9 [v.k,v.n]
def c6 (o:Ob):BL:=I9 [o.cls,(o.aE.length:Int)]++(o.aE.map vT).flatten
def U7 (w:Wd):BL:=I9 [w.aR,(w.a7.length:Int)]++((w.a7.map bt).flatten++(I9 [(w.heap.length:Int)]++(w.heap.map c6).flatten))
def U (t:BL):List Int:=t.map fun b=>(b.toNat:Int)
def eJ (a b:BL):U (a++b)=U a++U b:=by simp[U]
def Z6 (t:BL):(U t).length=t.length:=by simp[U]
def jg (t:BL):(strOfNums (U t)).data.toList=t:=by
 rw[strOfNums_data,U,List.map_map];have:((fun n:Int=>UInt8.ofNat n.toNat)∘fun b:UInt8=>(b.toNat:Int))=id:=by
  funext b;simp
 rw[this,List.map_id]
theorem lN (s:ByteArray):N9 s=U s.data.toList:=rfl
def iP {a b:ByteArray} (h:a.data.toList=b.data.toList):a=b:=by
 apply ByteArray.ext;exact Array.toList_inj.1 h
def gF (s:ByteArray):s.data.toList.length=s.size:=by rw[Array.length_toList];rfl
def M5 {n:Int} (a:C8 n):(bU n).length<=22:=by
 have:=Lib.itoa_length_le n a.1 a.2;simp only[bU,A6,Ab];omega
def j7 (N:Nat) (a:List Int) (s:ByteArray) (h:a.length+(bN s).length<=140737488355328):J9 N a s=some (a++U (bN s)):=by
 have b:=gF s;have c:(N9 s).length=s.size:=by rw[lN,Z6,b]
 simp only[bN,A6,Ab,b] at h;unfold J9 O9 Q6;rw[Nat.ble_eq_true_of_le (show a.length+s.size<=140737488355328 by omega)];simp only[Ac,A0];rw[Nat.ble_eq_true_of_le (show((a++N9 s).length+[(32:Int)].length)*1<=140737488355328 by simp only[A6,c,Ab];omega)];simp only[Ac,A0,bN,eJ,lN];rw[AG];rfl
theorem p7 (N:Nat):∀(l:List Int) (k:Nat) (a:List Int),a.length+(I9 l).length<=140737488355328->G9 N l k a=some (a++U (I9 l))
 |[],k,a,_=>by simp[G9,I9,U]
 |n::l,k,a,h=>by
  have e:I9 (n::l)=bU n++I9 l:=by simp[I9]
  rw[e,A6] at h;have b:bN ⟨(Lib.itoa n).toArray⟩=bU n:=rfl;rw[G9];simp only[strconv_Itoa,A0];rw[j7 N a _ (by rw[b];omega),b];simp only[A0];rw[p7 N l (k+1) _ (by rw[A6,Z6];omega),e,eJ,AG]
def fJ (N:Nat) (a l:List Int) (h:a.length+(I9 l).length<=140737488355328):G5 N a l=some (a++U (I9 l)):=by
 unfold G5;rw[p7 N l 0 a h];rfl
theorem gT {b:Type} (tx:b->BL) (L:List b->Nat->List Int->Option (List Int)) (c:∀k a,L [] k a=some a)
  (d:∀x l k a,a.length+(tx x).length<=140737488355328->L (x::l) k a=L l (k+1) (a++U (tx x))):∀(l:List b) (k:Nat) (a:List Int),a.length+(l.map tx).flatten.length<=140737488355328->L l k a=some (a++U (l.map tx).flatten)
 |[],k,a,_=>by simp[c,U]
 |x::l,k,a,h=>by
  simp only[AN,List.flatten_cons,A6] at h;rw[d x l k a d9,gT tx L c d l (k+1) _ (by rw[A6,Z6];omega),AN,List.flatten_cons,eJ,AG]
def sE (N:Nat):∀(l:List Ins) (k:Nat) (a:List Int),a.length+(l.map Y4).flatten.length<=140737488355328->F4 N l k a=some (a++U (l.map Y4).flatten) :=
 gT Y4 (F4 N) (fun k a=>rfl) fun i l k a h=>by
  simp only[Y4,A6] at h;rw[F4,fJ N a _ d9];simp only[A0];by_cases b:i.op=14
  ·rw[Af b] at h;simp only[b,Ag,Ac];rw[j7 N _ _ (by rw[A6,Z6];rw[b] at h;omega)];simp only[A0,Y4,b,if_true,eJ,AG]
  ·simp only[b,Ah,Ad,A0,Y4,if_false,eJ,U,List.map_nil,List.append_nil]
def sU (N:Nat) (a:List Int) (m:Me) (h:a.length+(bl m).length<=140737488355328):V5 N a m=some (a++U (bl m)):=by
 simp only[bl,A6] at h;unfold V5;rw[j7 N a _ d9];simp only[A0];rw[fJ N _ _ (by rw[A6,Z6];omega)];simp only[A0];rw[sE N m.code 0 _ (by simp only[A6,Z6];omega)];simp only[A0,bl,eJ,AG]
def sR (N:Nat):∀(l:List Me) (k:Nat) (a:List Int),a.length+(l.map bl).flatten.length<=140737488355328->M8 N l k a=some (a++U (l.map bl).flatten) :=
 gT bl (M8 N) (fun k a=>rfl) fun m l k a h=>by
  rw[M8,sU N a m h];rfl
def sN (N:Nat):∀(l:List Cl) (k:Nat) (a:List Int),a.length+(l.map bt).flatten.length<=140737488355328->M7 N l k a=some (a++U (l.map bt).flatten) :=
 gT bt (M7 N) (fun k a=>rfl) fun c l k a h=>by
  simp only[bt,A6] at h;rw[M7,j7 N a _ d9];simp only[A0];rw[fJ N _ _ (by rw[A6,Z6];omega)];simp only[A0];rw[sR N c.aA 0 _ (by simp only[A6,Z6];omega)];simp only[A0,bt,eJ,AG]
def sT (N:Nat):∀(l:List V) (k:Nat) (a:List Int),a.length+(l.map vT).flatten.length<=140737488355328->M9 N l k a=some (a++U (l.map vT).flatten) :=
 gT vT (M9 N) (fun k a=>rfl) fun v l k a h=>by
  rw[M9,fJ N a _ h];rfl
def sO (N:Nat):∀(l:List Ob) (k:Nat) (a:List Int),a.length+(l.map c6).flatten.length<=140737488355328->N7 N l k a=some (a++U (l.map c6).flatten) :=
 gT c6 (N7 N) (fun k a=>rfl) fun o l k a h=>by
  simp only[c6,A6] at h;rw[N7,fJ N a _ d9];simp only[A0];rw[sT N o.aE 0 _ (by rw[A6,Z6];omega)];simp only[A0,c6,eJ,AG]
def uJ (w:Wd):U7 w≠[]:=by
 intro h;have:=congrArg List.length h;simp only[U7,I9,AN,List.flatten_cons,bU,A6,Ab,List.length_nil] at this;omega
def oZ (N:Nat) (w:Wd) (h:(U7 w).length<=140737488355328):hF N w=some (U (U7 w)):=by
 have b:=uJ w;simp only[U7,A6] at h;unfold hF;rw[fJ N [] _ (by simp only[List.length_nil];omega)];simp only[A0,List.nil_append];rw[sN N w.a7 0 _ (by rw[Z6];omega)];simp only[A0];rw[fJ N _ _ (by simp only[A6,Z6];omega)];simp only[A0];rw[sO N w.heap 0 _ (by simp only[A6,Z6];omega)];have e:U (I9 [w.aR,(w.a7.length:Int)])++U (w.a7.map bt).flatten++U (I9 [(w.heap.length:Int)])++U (w.heap.map c6).flatten=U (U7 w):=by
  simp only[U7,eJ,AG]
 simp only[A0,e];have c:(U (U7 w)).isEmpty=false:=by
  cases d:U7 w with
  |nil=>exact absurd d b
  |cons a l=>rfl
 rw[c];simp only[Bool.not_false,Ac,lN,jg]
def cw : BL->Option (BL×BL)
 |[]=>none
 |b::r=>if b=32 then some ([],r) else(cw r).map fun p=>(b::p.1,p.2)
def index_one (t:BL):(cw t=none/\Lib.index t [32]=-1)\/∃w r,cw t=some (w,r)/\Lib.index t [32]=(w.length:Int)/\t=w++32::r/\(32:UInt8) ∉ w:=by
 induction t with
 |nil=>exact .inl ⟨rfl,rfl⟩
 |cons b t ih =>
  by_cases a:b=32
  ·subst a;exact .inr ⟨[],t,by simp[cw],by simp[Lib.index],rfl,o7⟩
  ·have g:([32]:BL).isPrefixOf (b::t)=false:=by simp[List.isPrefixOf];exact fun e=>a e.symm
   rcases ih with⟨c,d⟩|⟨w,r,c,d,h,i⟩
   ·exact .inl ⟨by simp[cw,a,c],by simp[Lib.index,g,d]⟩
   ·refine .inr ⟨b::w,r,by simp[cw,a,c],?_,by rw[h];rfl,by simp[i,Ne.symm a]⟩;have f:¬((w.length:Int) == -1)=true:=o7;simp only[Lib.index,g,d,AX];rw[Ae o7,Ae f];omega
def o0 {t w r:BL} (h:cw t=some (w,r)):t=w++32::r/\(32:UInt8) ∉ w:=by
 rcases index_one t with⟨a,_⟩|⟨w',d,a,_,b,c⟩
 ·rw[a] at h;cases h
 ·rw[a] at h;cases h;exact⟨b,c⟩
def qt {w:BL} (r:BL) (h:(32:UInt8) ∉ w):cw (w++32::r)=some (w,r):=by
 induction w with
 |nil=>simp[cw]
 |cons b w ih =>
  have a:b≠32:=fun e=>h (by simp[e]);simp[cw,a,ih (fun e=>h (by simp[e]))]
def uI (t:BL):Lib.cut t [32]=match cw t with
  |some (w,r)=>(w,r,true)
  |none=>(t,[],false):=by
 unfold Lib.cut;rcases index_one t with⟨a,b⟩|⟨w,r,a,b,c,d⟩
 ·rw[a,b];rfl
 ·rw[a,b,Af d9];simp only[Int.toNat_natCast,Ab];subst c;simp
def pw (t:BL):Option (ByteArray×BL):=match cw t with
 |some (w,r)=>if w=[] then none else some (⟨w.toArray⟩,r)
 |none=>none
def dF (s:ByteArray):Prop:=s.data.toList≠[]/\(32:UInt8) ∉ s.data.toList
def iN {t:BL} {s:ByteArray} {r:BL} (h:pw t=some (s,r)):t=bN s++r/\dF s:=by
 unfold pw at h;split at h
 ·rename_i w e c;split at h
  ·cases h
  ·rename_i d;cases h;obtain⟨a,b⟩:=o0 c;exact⟨by rw[a];simp[bN],d,b⟩
 ·cases h
def iU {s:ByteArray} (r:BL) (h:dF s):pw (bN s++r)=some (s,r):=by
 have e:bN s++r=s.data.toList++32::r:=by simp[bN]
 unfold pw;rw[e,qt r h.2];simp only[h.1,if_false]
def pn (t:BL):Option (Int×BL):=(pw t).bind fun p=>match Lib.atoiAll p.1.data.toList with
 |.ok n=>if Lib.itoa n=p.1.data.toList then some (n,p.2) else none
 |_=>none
def R7 {t:BL} {n:Int} {r:BL} (h:pn t=some (n,r)):t=bU n++r/\C8 n:=by
 unfold pn at h;cases a:pw t with
 |none=>rw[a] at h;cases h
 |some p =>
  rw[a] at h;simp only[A0] at h;split at h
  ·rename_i m c;split at h
   ·rename_i b;cases h;have:=(iN (s:=p.1) (r:=p.2) a).1;exact⟨by rw[this,bN,<-b];rfl,Lib.atoiAll_bounds c⟩
   ·cases h
  ·cases h
def Y2 {n:Int} (r:BL) (h:C8 n):pn (bU n++r)=some (n,r):=by
 have a:dF ⟨(Lib.itoa n).toArray⟩:=qi n;have e:bU n=bN ⟨(Lib.itoa n).toArray⟩:=rfl;unfold pn;rw[e,iU r a];simp only[A0];rw[qX h];simp
def pc (a:Int) (t:BL):Option (Int×BL):=(pn t).bind fun p=>if p.1<0\/a<p.1 then none else some p
def bq {a:Type} (p:BL->Option (a×BL)):Nat->BL->Option (List a×BL)
 |0,t=>some ([],t)
 |n+1,t=>(p t).bind fun x=>(bq p n x.2).bind fun l=>some (x.1::l.1,l.2)
def gi (t:BL):Option (Ins×BL):=(pn t).bind fun a=>(pn a.2).bind fun b=>if a.1=14 then(pw b.2).bind fun s=>some (⟨a.1,b.1,0,0,s.1⟩,s.2) else some (⟨a.1,b.1,0,0,AK⟩,b.2)
def gw (t:BL):Option (Me×BL):=(pw t).bind fun s=>(pn s.2).bind fun a=>(pn a.2).bind fun b=>(pn b.2).bind fun c=>(pc 60 c.2).bind fun n=>(bq gi n.1.toNat n.2).bind fun l=>some (⟨s.1,a.1,b.1,c.1,l.1⟩,l.2)
def gv (t:BL):Option (Cl×BL):=(pw t).bind fun s=>(pn s.2).bind fun a=>(pn a.2).bind fun b=>(pc 8 b.2).bind fun n=>(bq gw n.1.toNat n.2).bind fun l=>some (⟨s.1,a.1,b.1,l.1⟩,l.2)
def pV (t:BL):Option (V×BL):=(pn t).bind fun a=>(pn a.2).bind fun b=>some (⟨a.1,b.1⟩,b.2)
def gx (t:BL):Option (Ob×BL):=(pn t).bind fun a=>(pc 6 a.2).bind fun n=>(bq pV n.1.toNat n.2).bind fun l=>some (⟨a.1,l.1⟩,l.2)
def fo (t:BL):Option (Wd×BL):=(pn t).bind fun e=>(pc 12 e.2).bind fun n=>(bq gv n.1.toNat n.2).bind fun l=>(pc 60 l.2).bind fun m=>(bq gx m.1.toNat m.2).bind fun h=>some (⟨l.1,h.1,e.1⟩,h.2)
structure o8 {α:Type} (tx:α->BL) (p:BL->Option (α×BL)) (W:α->Prop):Prop where
 there:∀x r,W x->p (tx x++r)=some (x,r)
 back:∀t x r,p t=some (x,r)->t=tx x++r/\W x
theorem o8.word : o8 bN pw dF:=⟨fun x r h=>iU r h,fun t x r h=>iN h⟩
theorem o8.num : o8 bU pn C8:=⟨fun x r h=>Y2 r h,fun t x r h=>R7 h⟩
theorem o8.count (a:Int):o8 bU (pc a) fun n=>C8 n/\0<=n/\n<=a:=by
 refine⟨fun n r h=>?_,fun t n r h=>?_⟩
 ·unfold pc;rw[Y2 r h.1];simp only[A0];rw[Ae d9]
 ·unfold pc at h;cases b:pn t with
  |none=>rw[b] at h;cases h
  |some p =>
   rw[b] at h;simp only[A0] at h;split at h
   ·cases h
   ·cases h;obtain⟨c,d⟩:=R7 b;exact⟨c,d,d9,d9⟩
theorem o8.rep {c:Type} {tx:c->BL} {p:BL->Option (c×BL)} {W:c->Prop} (h:o8 tx p W):∀n:Nat,o8 (fun l=>(l.map tx).flatten) (bq p n) fun l=>l.length=n/\∀x∈l,W x
 |0=>⟨fun l r a=>by
   have:l=[]:=AU a.1;subst this;rfl,fun t l r a=>by cases a;exact⟨rfl,rfl,o7⟩⟩
 |n+1=>by
  have ih:=o8.rep h n;refine⟨fun l r a=>?_,fun t l r a=>?_⟩
  ·cases l with
   |nil=>simp at a
   |cons x l =>
    simp only[AN,List.flatten_cons,AG,bq];rw[h.there x _ (a.2 x o7)];simp only[A0];rw[ih.there l r ⟨by simpa using a.1,fun y b=>a.2 y (by simp[b])⟩];rfl
  ·simp only[bq,Aa] at a;obtain⟨x,o,m,k,e⟩:=a;cases e;obtain⟨d,f⟩:=h.back t x.1 x.2 o;obtain⟨g,i,j⟩:=ih.back x.2 m.1 m.2 k;refine⟨by rw[d,g];simp,by simp[i],fun y b=>?_⟩;rcases AF.1 b with rfl|b
   ·exact f
   ·exact j y b
def pO (i:Ins):Prop:=C8 i.op/\C8 i.a/\i.b=0/\i.c=0/\(i.op=14->dF i.name)/\(i.op≠14->i.name=AK)
def ma (m:Me):Prop:=dF m.name/\C8 m.args/\C8 m.aO/\C8 m.aQ/\m.code.length<=60/\∀i∈m.code,pO i
def pY (c:Cl):Prop:=dF c.name/\C8 c.aJ/\C8 c.aE/\c.aA.length<=8/\∀m∈c.aA,ma m
def mu (v:V):Prop:=C8 v.k/\C8 v.n
def pT (o:Ob):Prop:=C8 o.cls/\o.aE.length<=6/\∀v∈o.aE,mu v
def gd (w:Wd):Prop:=C8 w.aR/\w.a7.length<=12/\w.heap.length<=60/\(∀c∈w.a7,pY c)/\∀o∈w.heap,pT o
def cu (a b:Int):I9 [a,b]=bU a++bU b:=by simp[I9]
def mK (a b c:Int):I9 [a,b,c]=bU a++(bU b++bU c):=by simp[I9]
def mY (a b c d:Int):I9 [a,b,c,d]=bU a++(bU b++(bU c++bU d)):=by simp[I9]
def mH (a:Int):I9 [a]=bU a:=by simp[I9]
def iG {n:Nat} {m:Int} (h:(n:Int)<=m) (a:m<=1000):C8 (n:Int)/\(0:Int)<=(n:Int)/\(n:Int)<=m:=ino
theorem o8.ins : o8 Y4 gi pO:=by
 refine⟨fun i r h=>?_,fun t i r h=>?_⟩
 ·obtain⟨l,m,o,p,q,u⟩:=h;obtain⟨op,a,b,c,nm⟩:=i;simp only at l m o p q u;subst o p;unfold Y4 gi;simp only[cu,AG];rw[Y2 _ l];simp only[A0];rw[Y2 _ m];simp only[A0];by_cases d:op=14
  ·subst d;simp only[if_true];rw[iU r (q rfl)];rfl
  ·simp only[d,if_false,u d,List.nil_append]
 ·unfold gi at h;simp only[Aa] at h;obtain⟨a,v,b,w,h⟩:=h;obtain⟨f,g⟩:=R7 (n:=a.1) (r:=a.2) v;obtain⟨j,k⟩:=R7 (n:=b.1) (r:=b.2) w;split at h
  ·rename_i d;simp only[Aa] at h;obtain⟨s,x,e⟩:=h;cases e;obtain⟨y,z⟩:=iN (s:=s.1) (r:=s.2) x;refine⟨?_,g,k,rfl,rfl,fun _=>z,fun h=>absurd d h⟩;rw[f,j,y];simp only[Y4,cu,d,if_true,AG]
  ·rename_i d;cases h;refine⟨?_,g,k,rfl,rfl,fun h=>absurd h d,fun _=>rfl⟩;rw[f,j];simp only[Y4,cu,d,if_false,AG,List.nil_append]
theorem o8.me : o8 bl gw ma:=by
 refine⟨fun m r h=>?_,fun t m r h=>?_⟩
 ·obtain⟨o,p,q,u,H,v⟩:=h;unfold bl gw;simp only[mY,AG];rw[iU _ o];simp only[A0];rw[Y2 _ p];simp only[A0];rw[Y2 _ q];simp only[A0];rw[Y2 _ u];simp only[A0];rw[(o8.count 60).there _ _ (iG d9 p8)];simp only[A0,Int.toNat_natCast];rw[(o8.rep o8.ins m.code.length).there m.code r ⟨rfl,v⟩];rfl
 ·unfold gw at h;simp only[Aa] at h;obtain⟨s,B,a,w,b,x,c,y,n,A,l,z,e⟩:=h;cases e;obtain⟨F,G⟩:=iN (s:=s.1) (r:=s.2) B;obtain⟨d,f⟩:=R7 (n:=a.1) (r:=a.2) w;obtain⟨g,i⟩:=R7 (n:=b.1) (r:=b.2) x;obtain⟨j,k⟩:=R7 (n:=c.1) (r:=c.2) y;obtain⟨E,I,J,K⟩:=(o8.count 60).back _ n.1 n.2 A;obtain⟨C,l2,D⟩:=(o8.rep o8.ins n.1.toNat).back _ l.1 l.2 z;refine⟨?_,G,f,i,k,by show l.1.length<=60;omega,D⟩;have e:((l.1.length:Nat):Int)=n.1:=d9;simp only[bl,mY,e,AG];rw[F,d,g,j,E,C]
theorem o8.cl : o8 bt gv pY:=by
 refine⟨fun m r h=>?_,fun t m r h=>?_⟩
 ·obtain⟨i,j,k,C,o⟩:=h;unfold bt gv;simp only[mK,AG];rw[iU _ i];simp only[A0];rw[Y2 _ j];simp only[A0];rw[Y2 _ k];simp only[A0];rw[(o8.count 8).there _ _ (iG d9 p8)];simp only[A0,Int.toNat_natCast];rw[(o8.rep o8.me m.aA.length).there m.aA r ⟨rfl,o⟩];rfl
 ·unfold gv at h;simp only[Aa] at h;obtain⟨s,w,a,p,b,q,n,v,l,u,e⟩:=h;cases e;obtain⟨A,B⟩:=iN (s:=s.1) (r:=s.2) w;obtain⟨c,d⟩:=R7 (n:=a.1) (r:=a.2) p;obtain⟨f,g⟩:=R7 (n:=b.1) (r:=b.2) q;obtain⟨z,D,E,F⟩:=(o8.count 8).back _ n.1 n.2 v;obtain⟨x,l2,y⟩:=(o8.rep o8.me n.1.toNat).back _ l.1 l.2 u;refine⟨?_,B,d,g,by show l.1.length<=8;omega,y⟩;have e:((l.1.length:Nat):Int)=n.1:=d9;simp only[bt,mK,e,AG];rw[A,c,f,z,x]
theorem o8.v : o8 vT pV mu:=by
 refine⟨fun v r h=>?_,fun t v r h=>?_⟩
 ·unfold vT pV;simp only[cu,AG];rw[Y2 _ h.1];simp only[A0];rw[Y2 _ h.2];rfl
 ·unfold pV at h;simp only[Aa] at h;obtain⟨a,i,b,j,e⟩:=h;cases e;obtain⟨c,d⟩:=R7 (n:=a.1) (r:=a.2) i;obtain⟨f,g⟩:=R7 (n:=b.1) (r:=b.2) j;refine⟨?_,d,g⟩;simp only[vT,cu,AG];rw[c,f]
theorem o8.ob : o8 c6 gx pT:=by
 refine⟨fun m r h=>?_,fun t m r h=>?_⟩
 ·obtain⟨d,q,f⟩:=h;unfold c6 gx;simp only[cu,AG];rw[Y2 _ d];simp only[A0];rw[(o8.count 6).there _ _ (iG d9 p8)];simp only[A0,Int.toNat_natCast];rw[(o8.rep o8.v m.aE.length).there m.aE r ⟨rfl,f⟩];rfl
 ·unfold gx at h;simp only[Aa] at h;obtain⟨a,g,n,j,l,i,e⟩:=h;cases e;obtain⟨b,c⟩:=R7 (n:=a.1) (r:=a.2) g;obtain⟨p,s,u,w⟩:=(o8.count 6).back _ n.1 n.2 j;obtain⟨k,l2,o⟩:=(o8.rep o8.v n.1.toNat).back _ l.1 l.2 i;refine⟨?_,c,by show l.1.length<=6;omega,o⟩;have e:((l.1.length:Nat):Int)=n.1:=d9;simp only[c6,cu,e,AG];rw[b,p,k]
theorem o8.wo : o8 U7 fo gd:=by
 refine⟨fun m r h=>?_,fun t m r h=>?_⟩
 ·obtain⟨f,B,C,g,i⟩:=h;unfold U7 fo;simp only[cu,mH,AG];rw[Y2 _ f];simp only[A0];rw[(o8.count 12).there _ _ (iG d9 p8)];simp only[A0,Int.toNat_natCast];rw[(o8.rep o8.cl m.a7.length).there m.a7 _ ⟨rfl,g⟩];simp only[A0];rw[(o8.count 60).there _ _ (iG d9 p8)];simp only[A0,Int.toNat_natCast];rw[(o8.rep o8.ob m.heap.length).there m.heap r ⟨rfl,i⟩];rfl
 ·unfold fo at h;simp only[Aa] at h;obtain⟨a,j,n,s,l,q,k,p,o,u,e⟩:=h;cases e;obtain⟨b,c⟩:=R7 (n:=a.1) (r:=a.2) j;obtain⟨y,G,H,I⟩:=(o8.count 12).back _ n.1 n.2 s;obtain⟨w,l2,x⟩:=(o8.rep o8.cl n.1.toNat).back _ l.1 l.2 q;obtain⟨v,D,E,F⟩:=(o8.count 60).back _ k.1 k.2 p;obtain⟨z,J,A⟩:=(o8.rep o8.ob k.1.toNat).back _ o.1 o.2 u;refine⟨?_,c,by show l.1.length<=12;omega,by show o.1.length<=60;omega,x,A⟩;have e:((l.1.length:Nat):Int)=n.1:=d9;have d:((o.1.length:Nat):Int)=k.1:=d9;simp only[U7,cu,mH,e,d,AG];rw[b,y,w,v,z]
def o5 {α:Type} (f:l7->Option (α×l7)) (p:BL->Option (α×BL)) (A:α->Prop):Prop :=
 ∀r:l7,r.s.size<4294967281->∃a b,f r=some (a,b)/\A a/\b.s.size<=r.s.size/\(r.fE=false->b.fE=false) /\
  (r.fE=true->match p r.s.data.toList with
   |some (x,t)=>a=x/\b.fE=true/\b.s.data.toList=t
   |none=>b.fE=false)
section
variable {α β:Type}
theorem o5.pure {a:α} {A:α->Prop} (h:A a):o5 (fun r=>some (a,r)) (fun t=>some (a,t)) A :=
 fun r _=>⟨a,r,rfl,h,AA _,fun h=>h,fun h=>⟨rfl,h,rfl⟩⟩
theorem o5.bind {f:l7->Option (α×l7)} {p:BL->Option (α×BL)} {A:α->Prop} (u:o5 f p A) {k:α×l7->Option (β×l7)} {q:α×BL->Option (β×BL)} {B:β->Prop}
  (v:∀a,A a->o5 (fun r=>k (a,r)) (fun t=>q (a,t)) B):o5 (fun r=>(f r).bind k) (fun t=>(p t).bind q) B:=by
 intro r w;obtain⟨a,y,l,m,D,n,c⟩:=u r w;obtain⟨b,z,g,i,C,d,j⟩:=v a m y d9;refine⟨b,z,by simp only[l,A0,g],i,d9,fun h=>d (n h),fun h=>?_⟩;have c:=c h;dsimp only;cases e:p r.s.data.toList with
 |none =>
  rw[e] at c;exact d c
 |some x =>
  rw[e] at c;obtain⟨x,t⟩:=x;obtain⟨rfl,o,rfl⟩:=c;exact j o
theorem o5.c8 {L:l7->Option (l7×α)} {p:BL->Option (α×BL)} {A:α->Prop} (f:o5 (fun r=>(L r).map fun y=>(y.2,y.1)) p A) {k:l7×α->Option (β×l7)} {q:α×BL->Option (β×BL)} {B:β->Prop}
  (h:∀a,A a->o5 (fun r=>k (r,a)) (fun t=>q (a,t)) B):o5 (fun r=>(L r).bind k) (fun t=>(p t).bind q) B:=by
 have:=o5.bind f (k:=fun y=>k (y.2,y.1)) h;intro r i;obtain⟨b,c,d,g⟩:=this r i;refine⟨b,c,?_,g⟩;have e:((L r).map fun y=>(y.2,y.1)).bind (fun y=>k (y.2,y.1))=some (b,c):=d;show(L r).bind k=some (b,c);rw[<-e];cases L r<;>rfl
theorem o5.loop {p:BL->Option (α×BL)} {step:l7->Option (α×l7)} (q:o5 step p fun _=>True) {L:Nat->Nat->l7->List α->Option (l7×List α)} (o:∀k r l,L 0 k r l=some (r,l))
  (u:∀n k r l,l.length<=1000->L (n+1) k r l=(step r).bind fun y=>L n (k+1) y.2 (l++[y.1])) :
  ∀(n k:Nat) (l:List α),l.length+n<=1000->o5 (fun r=>(L n k r l).map fun y=>(y.2,y.1)) (fun t=>(bq p n t).map fun y=>(l++y.1,y.2)) fun _=>True
 |0,k,l,_=>fun r e=>⟨l,r,by simp[o],trivial,AA _,fun h=>h,fun h=>by simp[bq,h]⟩
 |n+1,k,l,E=>by
  intro r e;obtain⟨a,i,v,C,D,w,d⟩:=q r e;obtain⟨b,j,g,A,B,m,c⟩:=o5.loop q o u n (k+1) (l++[a]) dB i d9;have g:(L n (k+1) i (l++[a])).map (fun y=>(y.2,y.1))=some (b,j):=g;refine⟨b,j,?_,trivial,d9,fun h=>m (w h),fun h=>?_⟩
  ·show(L (n+1) k r l).map (fun y=>(y.2,y.1))=some (b,j);rw[u n k r l d9,v,<-g];rfl
  have d:=d h;dsimp only;cases f:p r.s.data.toList with
  |none =>
   rw[f] at d;simp only[bq,f,Option.bind_none,Option.map_none];exact m d
  |some x =>
   rw[f] at d;obtain⟨x,t⟩:=x;obtain⟨rfl,z,rfl⟩:=d;have c:=c z;dsimp only at c;simp only[bq,f,A0];cases e:bq p n i.s.data.toList with
   |none=>rw[e] at c;exact c
   |some y =>
    rw[e] at c;simp only[Option.map_some,AG,List.singleton_append] at c;exact c
theorem o5.rep {p:BL->Option (α×BL)} {step:l7->Option (α×l7)} (c:o5 step p fun _=>True) {L:Nat->Nat->l7->List α->Option (l7×List α)} (a:∀k r l,L 0 k r l=some (r,l))
  (d:∀n k r l,l.length<=1000->L (n+1) k r l=(step r).bind fun y=>L n (k+1) y.2 (l++[y.1])) (n:Nat) (b:n<=1000):o5 (fun r=>(L n 0 r []).map fun y=>(y.2,y.1)) (bq p n) fun _=>True:=by
 have:=o5.loop c a d n 0 [] (by simpa using b);have e:(fun t=>(bq p n t).map fun y=>(([]:List α)++y.1,y.2))=bq p n:=by
  funext t;cases bq p n t<;>rfl
 rwa [e] at this
end
theorem o5.word (N:Nat):o5 (F3 N) pw fun w=>w.size<4294967281:=by
 intro r i;obtain⟨s,o⟩:=r;simp only at i;have m:=gF s;have c:=uI s.data.toList;unfold F3 strings_Cut;have d:(⟨#[32]⟩:ByteArray).data.toList=[32]:=rfl;rw[Aj (show(s.size<4294967281) from i),d];simp only[Ac,A0];cases a:cw s.data.toList with
 |none =>
  rw[a] at c;rw[c];simp only[Bool.not_false,Ac,A0];refine⟨_,_,rfl,by show 0<_;omega,AA _,fun _=>rfl,fun h=>?_⟩;simp[pw,a]
 |some y =>
  obtain⟨w,t⟩:=y;rw[a] at c;obtain⟨j,l⟩:=o0 a;have k:=congrArg List.length j;simp only[A6,AX] at k;rw[c];simp only[AQ,Ad,A0];by_cases g:w=[]
  ·subst g;have:(⟨([]:BL).toArray⟩:ByteArray)=⟨#[]⟩:=rfl;rw[this];simp only[Ag,Ac];refine⟨_,_,rfl,by show 0<_;omega,AA _,fun _=>rfl,fun h=>?_⟩;simp[pw,a]
  ·have f:¬(⟨w.toArray⟩:ByteArray)=⟨#[]⟩:=fun e=>g (by
    have:=congrArg (fun b:ByteArray=>b.data.toList) e;simpa using this)
   rw[Ai f];simp only[Ad];refine⟨_,_,rfl,?_,?_,fun h=>h,fun h=>?_⟩
   ·show w.toArray.size<_;rw[List.size_toArray];omega
   ·show t.toArray.size<=s.size;rw[List.size_toArray];omega
   ·simp[pw,a,g,h]
theorem o5.num (N:Nat):o5 (j6 N) pn fun _=>True:=by
 unfold j6 pn;refine o5.bind (o5.word N) fun w d=>?_;intro r c;obtain⟨s,o⟩:=r;simp only;have f:=gF w;unfold strconv_Atoi strconv_Itoa;rw[Aj (show(w.size<=281474976710656) by omega)];simp only[Ac,A0];cases b:Lib.atoiAll w.data.toList with
 |ok n =>
  simp only[AQ,Ad,A0];by_cases a:Lib.itoa n=w.data.toList
  ·have e:(⟨(Lib.itoa n).toArray⟩:ByteArray)=w:=iP a;rw[Aj e];simp only[AQ,Ad,A0];exact⟨_,_,rfl,trivial,AA _,fun h=>h,fun h=>by simp[a,h]⟩
  ·have e:¬(⟨(Lib.itoa n).toArray⟩:ByteArray)=w:=fun e=>a (by rw[<-e]);rw[Ai e];simp only[Bool.not_false,Ac,A0];exact⟨_,_,rfl,trivial,AA _,fun _=>rfl,fun _=>by simp[a]⟩
 |_ =>
  simp only[Bool.not_false,Ac,A0];exact⟨_,_,rfl,trivial,AA _,fun _=>rfl,fun _=>rfl⟩
theorem o5.count (N:Nat) (a:Int) (d:0<=a):o5 (fun r=>C9 N r a) (pc a) fun n=>0<=n/\n<=a:=by
 unfold C9 pc;refine o5.bind (o5.num N) fun n _=>?_;intro r e;obtain⟨s,o⟩:=r;simp only;by_cases b:n<0
 ·simp only[b,Ag,Ac,A0];exact⟨_,_,rfl,⟨Int.le_refl _,d⟩,AA _,fun _=>rfl,fun _=>by simp[b]⟩
 ·by_cases c:a<n
  ·simp only[b,c,Ag,Ah,Ac,Ad,A0];exact⟨_,_,rfl,⟨Int.le_refl _,d⟩,AA _,fun _=>rfl,fun _=>by simp[c]⟩
  ·simp only[b,c,Ah,Ad,A0];exact⟨_,_,rfl,⟨d9,d9⟩,AA _,fun h=>h,fun h=>by simp[b,c,h]⟩
def jy (a:Int):(a-((0:Nat):Int)).toNat=a.toNat:=o7
def gD {α:Type} {l:List α} {x:α} {B:Nat} (h:l.length<=1000) (a:B<=1000):AE ((l.length+[x].length)*B) 140737488355328=true:=by
 refine Nat.ble_eq_true_of_le ?_;have:(l.length+[x].length)*B<=1001*1000:=Nat.mul_le_mul (by simp only[Ab];omega) a;omega
def js (N:Nat) (r:l7):Option (Ins×l7):=(j6 N r).bind fun a=>(j6 N a.2).bind fun b=>bif decide (a.1=14) then(F3 N b.2).bind fun s=>some (⟨a.1,b.1,0,0,s.1⟩,s.2) else some (⟨a.1,b.1,0,0,AK⟩,b.2)
theorem o5.ins (N:Nat):o5 (js N) gi fun _=>True:=by
 unfold js gi;refine o5.bind (o5.num N) fun a _=>?_;dsimp only;by_cases h:a=14
 ·simp only[h,Ag,Ac,if_true];refine o5.bind (o5.num N) fun b _=>?_;dsimp only;exact o5.bind (o5.word N) fun s _=>by dsimp only;exact o5.pure trivial
 ·simp only[h,Ah,Ad,if_false];exact o5.bind (o5.num N) fun b _=>by dsimp only;exact o5.pure trivial
def rq (N:Nat) (n k:Nat) (r:l7) (l:List Ins) (c:l.length<=1000):D6 N (n+1) k r l=(js N r).bind fun y=>D6 N n (k+1) y.2 (l++[y.1]):=by
 rw[D6];unfold js;cases e:j6 N r with
 |none=>rfl
 |some a =>
  simp only[A0];cases f:j6 N a.2 with
  |none=>rfl
  |some b =>
   simp only[A0];by_cases d:a.1=14
   ·simp only[d,Ag,Ac];cases g:F3 N b.2 with
    |none=>rfl
    |some s=>simp only[A0,gD c (show 48<=1000 by decide),Ac]
   ·simp only[d,Ah,Ad,A0,gD c (show 48<=1000 by decide),Ac]
theorem o5.me (N:Nat):o5 (K6 N) gw fun _=>True:=by
 unfold K6 gw;refine o5.bind (o5.word N) fun w _=>?_;dsimp only;refine o5.bind (o5.num N) fun a _=>?_;dsimp only;refine o5.bind (o5.num N) fun b _=>?_;dsimp only;refine o5.bind (o5.num N) fun c _=>?_;dsimp only;refine o5.bind (o5.count N 60 p8) fun n d=>?_;dsimp only;simp only[jy];exact o5.c8 (o5.rep (o5.ins N) (L:=D6 N) (fun k r l=>rfl) (rq N) n.toNat d9) fun l _=>by dsimp only;exact o5.pure trivial
def rz (N:Nat) (n k:Nat) (r:l7) (l:List Me) (b:l.length<=1000):u6 N (n+1) k r l=(K6 N r).bind fun y=>u6 N n (k+1) y.2 (l++[y.1]):=by
 rw[u6];cases c:K6 N r with
 |none=>rfl
 |some a=>simp only[A0,gD b (show 64<=1000 by decide),Ac]
def kA (N:Nat) (r:l7):Option (Cl×l7):=(F3 N r).bind fun s=>(j6 N s.2).bind fun a=>(j6 N a.2).bind fun b=>(C9 N b.2 8).bind fun n=>(u6 N n.1.toNat 0 n.2 []).bind fun l=>some (⟨s.1,a.1,b.1,l.2⟩,l.1)
theorem o5.cl (N:Nat):o5 (kA N) gv fun _=>True:=by
 unfold kA gv;refine o5.bind (o5.word N) fun w _=>?_;dsimp only;refine o5.bind (o5.num N) fun a _=>?_;dsimp only;refine o5.bind (o5.num N) fun b _=>?_;dsimp only;refine o5.bind (o5.count N 8 p8) fun n c=>?_;dsimp only;exact o5.c8 (o5.rep (o5.me N) (L:=u6 N) (fun k r l=>rfl) (rz N) n.toNat d9) fun l _=>by dsimp only;exact o5.pure trivial
def ry (N:Nat) (n k:Nat) (r:l7) (l:List Cl) (e:l.length<=1000):D8 N (n+1) k r l=(kA N r).bind fun y=>D8 N n (k+1) y.2 (l++[y.1]):=by
 rw[D8];unfold kA;cases f:F3 N r with
 |none=>rfl
 |some s =>
  simp only[A0];cases g:j6 N s.2 with
  |none=>rfl
  |some a =>
   simp only[A0];cases h:j6 N a.2 with
   |none=>rfl
   |some b =>
    simp only[A0];cases i:C9 N b.2 8 with
    |none=>rfl
    |some c =>
     simp only[A0,jy];cases j:u6 N c.1.toNat 0 c.2 [] with
     |none=>rfl
     |some d=>simp only[A0,gD e (show 56<=1000 by decide),Ac]
def kG (N:Nat) (r:l7):Option (V×l7):=(j6 N r).bind fun a=>(j6 N a.2).bind fun b=>some (⟨a.1,b.1⟩,b.2)
theorem o5.v (N:Nat):o5 (kG N) pV fun _=>True:=by
 unfold kG pV;refine o5.bind (o5.num N) fun a _=>?_;dsimp only;exact o5.bind (o5.num N) fun b _=>by dsimp only;exact o5.pure trivial
def sD (N:Nat) (n k:Nat) (r:l7) (l:List V) (c:l.length<=1000):q9 N (n+1) k r l=(kG N r).bind fun y=>q9 N n (k+1) y.2 (l++[y.1]):=by
 rw[q9];unfold kG;cases d:j6 N r with
 |none=>rfl
 |some a =>
  simp only[A0];cases e:j6 N a.2 with
  |none=>rfl
  |some b=>simp only[A0,gD c (show 16<=1000 by decide),Ac]
def jx (N:Nat) (r:l7):Option (Ob×l7):=(j6 N r).bind fun a=>(C9 N a.2 6).bind fun n=>(q9 N n.1.toNat 0 n.2 []).bind fun l=>some (⟨a.1,l.2⟩,l.1)
theorem o5.ob (N:Nat):o5 (jx N) gx fun _=>True:=by
 unfold jx gx;refine o5.bind (o5.num N) fun a _=>?_;dsimp only;refine o5.bind (o5.count N 6 p8) fun n b=>?_;dsimp only;exact o5.c8 (o5.rep (o5.v N) (L:=q9 N) (fun k r l=>rfl) (sD N) n.toNat d9) fun l _=>by dsimp only;exact o5.pure trivial
def sB (N:Nat) (n k:Nat) (r:l7) (l:List Ob) (c:l.length<=1000):D7 N (n+1) k r l=(jx N r).bind fun y=>D7 N n (k+1) y.2 (l++[y.1]):=by
 rw[D7];unfold jx;cases e:j6 N r with
 |none=>rfl
 |some a =>
  simp only[A0];cases f:C9 N a.2 6 with
  |none=>rfl
  |some b =>
   simp only[A0,jy];cases g:q9 N b.1.toNat 0 b.2 [] with
   |none=>rfl
   |some d=>simp only[A0,gD c (show 32<=1000 by decide),Ac]
theorem o5.wo (N:Nat):o5 (X8 N) fo fun _=>True:=by
 unfold X8 fo;refine o5.bind (o5.num N) fun e _=>?_;dsimp only;refine o5.bind (o5.count N 12 p8) fun n b=>?_;dsimp only;simp only[jy];refine o5.c8 (o5.rep (o5.cl N) (L:=D8 N) (fun k r l=>rfl) (ry N) n.toNat d9) fun l _=>?_;dsimp only;refine o5.bind (o5.count N 60 p8) fun m a=>?_;dsimp only;exact o5.c8 (o5.rep (o5.ob N) (L:=D7 N) (fun k r l=>rfl) (sB N) m.toNat d9) fun l _=>by dsimp only;exact o5.pure trivial
def ek (t:BL):Option Wd:=match fo t with
 |some (w,[])=>some w
 |_=>none
def qg {t:BL} {w:Wd} (h:ek t=some w):t=U7 w/\gd w:=by
 unfold ek at h;split at h
 ·rename_i w' a;cases h;have:=o8.wo.back t w [] a;simpa using this
 ·cases h
def tv {w:Wd} (h:gd w):ek (U7 w)=some w:=by
 have:=o8.wo.there w [] h;rw[List.append_nil] at this;unfold ek;rw[this]
def rO {w:Wd} (h:gd w) (n:Nat) (g:n<(U7 w).length):ek ((U7 w).take n)=none:=by
 cases f:ek ((U7 w).take n) with
 |none=>rfl
 |some x =>
  exfalso;obtain⟨c,d⟩:=qg f;have b:=o8.wo.there x ((U7 w).drop n) d;rw[<-c,List.take_append_drop] at b;have a:=o8.wo.there w [] h;rw[List.append_nil,b] at a;simp only[Option.some.injEq,Prod.mk.injEq] at a;have e:=congrArg List.length a.2;rw[List.length_drop,List.length_nil] at e;omega
def oT (N:Nat) (b:List Int) (i:b.length<4294967281):fx N b=match ek (strOfNums b).data.toList with
  |none=>some (⟨[],[],0⟩,2)
  |some w=>(O3 N w).bind fun r=>bif (!decide (r=0)) then some (⟨[],[],0⟩,r) else some (w,0):=by
 unfold fx;obtain⟨w,r,g,_,_,_,c⟩:=o5.wo N ⟨strOfNums b,true⟩ (by rw[strOfNums_size];exact i);have c:=c rfl;rw[g];simp only[A0];simp only at c;unfold ek;cases f:fo (strOfNums b).data.toList with
 |none =>
  rw[f] at c;simp only[c,Bool.not_false,Ac,A0]
 |some x =>
  obtain⟨x,t⟩:=x;rw[f] at c;obtain⟨rfl,h,d⟩:=c;simp only[h,AQ,Ad,A0];cases t with
  |nil =>
   have:r.s=⟨#[]⟩:=iP d;simp only[this,Ag,AQ,Ad]
  |cons a t =>
   have:¬r.s=⟨#[]⟩:=fun e=>by rw[e] at d;cases d
   simp only[this,Ah,Bool.not_false,Ac]
def eu (a:List Cl) (s:ByteArray):Bool:=a.any fun d=>decide (d.name=s)
def jv (k:Nat) (c:Cl):Bool:=match G7.a7[k]? with
 |some f=>!decide (c.name=f.name)
 |none=>false
def k8 (k:Nat) (c:Cl):Bool:=(match G7.a7[k]? with
 |some f=>!decide (c.aJ=f.aJ) || !decide (c.aE=0)
 |none=>decide (c.aJ<0) || (decide ((k:Int)<=c.aJ) || (!decide (c.aJ=0) && decide (c.aJ<4)))) || (decide (c.aE<0) || decide (6<c.aE))
def eL (a:List Cl) (k:Nat) (c:Cl):Int:=bif !U4 c.name || (eu a c.name || jv k c) then 7 else bif k8 k c then 3 else 0
def dP (w:Wd):List Cl->Nat->M3 Int Unit
 |[],_=>.next ()
 |c::l,k=>bif decide (eL (w.a7.take k) k c=0) then dP w l (k+1) else .ret (eL (w.a7.take k) k c)
def fU (k:Nat) (m:Me):Bool:=decide (k=3) && (H8.any (fun p=>decide (p.name=m.name) && decide (p.aQ=m.aQ)) && (decide (m.args=1) && (decide (m.aO=0) && decide (m.code=[]))))
def gR (p:Option Me) (m:Me):Bool:=match p with
 |some q=>!P6 q.name m.name
 |none=>false
def fT (N:Nat) (w:Wd) (k:Nat) (p:Option Me) (m:Me):Option Int:=bif gR p m then some 7 else bif fU k m then some 0 else(bA N w (k:Int) m).map (·.err)
def Y3 (N:Nat) (w:Wd) (k:Nat) (a:List Me):List Me->Nat->Option (M3 Int Unit)
 |[],_=>some (.next ())
 |m::l,j=>(fT N w k (if j=0 then none else a[j-1]?) m).bind fun e=>bif decide (e=0) then Y3 N w k a l (j+1) else some (.ret e)
def Z9 (N:Nat) (w:Wd):List Cl->Nat->Option (M3 Int Unit)
 |[],_=>some (.next ())
 |c::l,k=>bif decide (6<Y6 w (k:Int)) then some (.ret 3) else bif decide (8<(c.aA.length:Int)) then some (.ret 5) else(Y3 N w k c.aA c.aA 0).bind fun o=>match o with
  |.ret r=>some (.ret r)
  |.next ()=>Z9 N w l (k+1)
def dS (n:Int):List V->M3 Int Unit
 |[]=>.next ()
 |v::l=>bif decide (gJ v n=0) then dS n l else .ret (gJ v n)
def eY (w:Wd) (o:Ob):Bool:=(!decide (o.cls=0) && (decide (o.cls<4) || decide ((w.a7.length:Int)<=o.cls))) || !decide ((o.aE.length:Int)=Y6 w o.cls)
def dQ (w:Wd):List Ob->M3 Int Unit
 |[]=>.next ()
 |o::l=>bif eY w o then .ret 8 else match dS (w.heap.length:Int) o.aE with
  |.ret r=>.ret r
  |.next ()=>dQ w l
def fQ (N:Nat) (w:Wd):Option Int :=
 bif decide ((w.a7.length:Int)<4) || (decide (12<(w.a7.length:Int)) || decide (60<(w.heap.length:Int))) then some 5
 else bif decide (w.aR<0) || decide (1073741824<w.aR) then some 3
 else match dP w w.a7 0 with
  |.ret r=>some r
  |.next ()=>(Z9 N w w.a7 0).bind fun o=>match o with
   |.ret r=>some r
   |.next ()=>match dQ w w.heap with
    |.ret r=>some r
    |.next ()=>some 0
theorem oN {c:Type} [DecidableEq c] (x s:c):∀v:List (c×Bool),cU s (Y8 x true v)=(decide (x=s) || cU s v)
 |[]=>by
  by_cases h:s=x
  ·simp[Y8,cU,h]
  ·simp[Y8,cU,h,Ne.symm h]
 |(y,b)::l=>by
  have ih:=oN x s l;by_cases h:x=y
  ·subst h;by_cases a:s=x
   ·simp[Y8,cU,a]
   ·simp[Y8,cU,a,Ne.symm a]
  ·by_cases a:s=y
   ·have:¬x=s:=fun e=>h (e.trans a);simp[Y8,cU,h,a]
   ·simp only[Y8,Ae h,cU,Ae a];exact ih
def qc (a:List Cl) (c:Cl) (s:ByteArray):eu (a++[c]) s=(decide (c.name=s) || eu a s):=by
 simp only[eu,List.any_append,List.any_cons,List.any_nil,Bool.or_false];exact Bool.or_comm _ _
theorem iV : G7.a7.length=4:=rfl
def uP {k:Nat} {f:Cl} (h:G7.a7[k]?=some f):k<4:=by
 have:=(AB.1 h).1
 rwa [iV] at this
def uN {k:Nat} (h:G7.a7[k]?=none):4<=k:=by
 have:=List.getElem?_eq_none_iff.1 h
 rwa [iV] at this
theorem o3 (N:Nat) (w:Wd) (t:w.a7.length<=1048576):∀(l:List Cl) (k:Nat) (v:List (ByteArray×Bool)),l=w.a7.drop k->v.length<=k->(∀s,cU s v=eu (w.a7.take k) s)->Q3 N G7 l k v=some (dP w l k)
 |[],k,v,_,_,_=>rfl
 |c::l,k,v,h,hv,hm=>by
  obtain⟨p,r,i⟩:=fI h;have i:=of_decide_eq_true i;have u:=qk p;have ih:=o3 N w t l (k+1) (Y8 c.name true v) r (by have:=lT c.name true v;omega) (fun s=>by rw[oN,hm,u,qc]);rw[Q3,kb,dP,iV];simp only[A0,hm,ih,Nat.ble_eq_true_of_le (show v.length+1<=140737488355328 by omega),Ac];unfold eL jv k8;cases x:U4 c.name with
  |false=>simp
  |true =>
   cases hd:eu (w.a7.take k) c.name with
   |true=>simp
   |false =>
    cases o:G7.a7[k]? with
    |some f =>
     have q:=uP o;have e1:decide ((k:Int)<((4:Nat):Int))=true:=Aj d9;have n:decide (((4:Nat):Int)<=(k:Int))=false:=Ai d9;simp only[e1,n,W9,o,A0,Ac,Ad,AQ,Bool.false_or];by_cases b:c.name=f.name
     ·by_cases a:c.aJ=f.aJ
      ·by_cases d:c.aE=0
       ·simp[b,a,d]
       ·simp[b,a,d]
      ·simp[b,a]
     ·simp[b]
    |none =>
     have q:=uN o;have e:¬k=0:=d9;have e1:decide ((k:Int)<((4:Nat):Int))=false:=Ai d9;have n:decide (((4:Nat):Int)<=(k:Int))=true:=Aj d9;simp only[e1,n,A0,Ac,Ad,AQ,Bool.false_or];by_cases b:c.aJ<0
     ·simp[b]
     ·by_cases a:(k:Int)<=c.aJ
      ·simp[b,a]
      ·by_cases d:c.aJ=0
       ·by_cases g:c.aE<0
        ·simp[e,a,d,g]
        ·by_cases j:6<c.aE
         ·simp[e,a,d,g,j]
         ·simp[e,a,d,g,j]
       ·by_cases m:c.aJ<4
        ·simp[b,a,d,m]
        ·by_cases g:c.aE<0
         ·simp[b,a,d,g,m]
         ·by_cases j:6<c.aE
          ·simp[b,a,d,g,j,m]
          ·simp[b,a,d,g,j,m]
theorem nV {s:ByteArray} {q:Int}:∀{l:List Me},eP l->l.any (fun p=>decide (p.name=s) && decide (p.aQ=q))=match Z7 s l with
  |some i=>(match l[i]? with
   |some x=>decide (x.aQ=q)
   |none=>false)
  |none=>false
 |[],_=>rfl
 |m::r,h=>by
  have d:=(List.pairwise_cons.1 h).1;have ih:=nV (s:=s) (q:=q) (List.pairwise_cons.1 h).2;rw[List.any_cons,Z7];by_cases e:m.name=s
  ·rw[Af e,Aj e];have:r.any (fun p=>decide (p.name=s) && decide (p.aQ=q))=false:=by
    rw[List.any_eq_false];intro p f;have a:=d p f;have b:¬p.name=s:=fun c=>by
     rw[e,<-c] at a;rw[gK] at a;cases a
    simp[b]
   rw[this];simp
  ·rw[Ae e,Ai e,ih];cases Z7 s r with
   |none=>rfl
   |some i=>simp
def oR : eP H8:=by unfold eP;decide +kernel
def qQ : mL G7:=fun x a=>by
 have:x.aA=[]\/x.aA=H8:=by
  simp only[G7,AF,List.not_mem_nil,or_false] at a;rcases a with rfl|rfl|rfl|rfl<;>simp
 rcases this with e|e<;>rw[e]
 ·exact List.Pairwise.nil
 ·exact oR
def oE : fS G7:=by
 refine⟨p8,p8,fun x b=>?_,fun o c=>by cases c⟩;simp only[G7,AF,List.not_mem_nil,or_false] at b;have a:∀m∈H8,m.code.length<=1048576:=p8;rcases b with rfl|rfl|rfl|rfl
 ·exact⟨p8,fun m a=>by cases a⟩
 ·exact⟨p8,fun m a=>by cases a⟩
 ·exact⟨p8,fun m a=>by cases a⟩
 ·exact⟨p8,a⟩
def rN (s:ByteArray):jh G7 s 3=match Z7 s H8 with
  |some i=>(3,(i:Int))
  |none=>(-1,-1):=by
 unfold jh;have a:G7.a7[(3:Int).toNat]?=some ⟨⟨#[73,110,116]⟩,0,0,H8⟩:=rfl;have e0:G7.a7[(0:Int).toNat]?=some ⟨⟨#[79,98,106,101,99,116]⟩,-1,0,[]⟩:=rfl;have b:X6 G7 s 4 0=none:=by
  rw[X6,Af p8,e0];show X6 G7 s 3 (-1)=none;rw[X6,Ae p8]
 rw[iV,X6,Af p8,a];show(match Z7 s H8 with
  |some i=>some ((3:Int),(i:Int))
  |none=>X6 G7 s 4 0).getD (-1,-1)=_
 rw[b];cases Z7 s H8<;>rfl
def sy (N:Nat) (j:1048578<=N) (m:Me):hQ N G7 m=some (H8.any (fun p=>decide (p.name=m.name) && decide (p.aQ=m.aQ)) && (decide (m.args=1) && (decide (m.aO=0) && decide (m.code=[])))):=by
 have n:∀i,Z7 m.name H8=some i->∃x,H8[i]?=some x:=fun i h=>by
  obtain⟨x,b,_⟩:=gB h;exact⟨x,b⟩
 have k:decide ((m.code.length:Int)=0)=decide (m.code=[]):=by
  cases m.code<;>simp;omega
 unfold hQ;rw[sC N G7 3 m.name j qQ oE,rN,nV oR];cases l:Z7 m.name H8 with
 |none=>rfl
 |some i =>
  obtain⟨x,b⟩:=n i l;have g:J3 G7.a7 3=some ⟨⟨#[73,110,116]⟩,0,0,H8⟩:=rfl;simp only[A0,g,W9,b,Aj (Int.natCast_nonneg i),Ac,k];by_cases a:x.aQ=m.aQ
  ·by_cases d:m.args=1
   ·by_cases f:m.aO=0
    ·simp[a,d,f]
    ·simp[a,d,f]
   ·simp[a,d]
  ·have c:¬m.aQ=x.aQ:=fun e=>a e.symm;simp[a,c]
def ot {m:Me} (h:H8.any (fun p=>decide (p.name=m.name) && decide (p.aQ=m.aQ))=true):m.aQ≠0/\∃p∈H8,p.name=m.name/\p.aQ=m.aQ:=by
 obtain⟨p,a,h⟩:=List.any_eq_true.1 h;simp only[A7,Ak] at h;have b:∀q∈H8,q.aQ≠0:=p8;exact⟨by rw[<-h.2];exact b p a,p,a,h⟩
theorem oK (N:Nat) (w:Wd) (k:Nat) (c:Cl) (q:4194304<=N) (i:fS w) (r:c∈w.a7):∀(l:List Me) (j:Nat),l=c.aA.drop j->P8 N w G7 k c l j=Y3 N w k c.aA l j
 |[],j,_=>rfl
 |m::l,j,h=>by
  obtain⟨A,v,b⟩:=fI h;have b:=of_decide_eq_true b;have x:=(i.2.2.1 c r).1;have ih:=oK N w k c q i r l (j+1) v;have ep:((bif decide ((0:Int)<(j:Int)) then((J3 c.aA (wr ((j:Int)-(1:Int)))).bind fun e=>some ((!P6 e.name m.name))) else some (false)):Option Bool) =
    some (gR (if j=0 then none else c.aA[j-1]?) m):=by
   by_cases o:j=0
   ·subst o;rfl
   ·have z:wr ((j:Int)-1)=((j-1:Nat):Int):=by rw[N8 ino];omega
    obtain⟨p,y⟩:∃p,c.aA[j-1]?=some p:=⟨_,A8 d9⟩;rw[Aj (show(0:Int)<(j:Int) by omega),Ae o];simp only[Ac,z,W9,y,A0,gR]
  have eq:((bif (!decide (m.aQ=(0:Int))) then(bif decide ((k:Int)=(3:Int)) then((hQ N G7 m).bind fun d=>some (d)) else some (false)) else some (false)):Option Bool)=some (fU k m):=by
   rw[sy N d9 m];unfold fU;by_cases g:k=3
   ·have a:(k:Int)=3:=d9;cases t:H8.any (fun p=>decide (p.name=m.name) && decide (p.aQ=m.aQ)) with
    |true =>
     have:=(ot t).1;simp[g,this]
    |false =>
     by_cases n:m.aQ=0<;>simp[g,n]
   ·have a:¬(k:Int)=3:=d9;by_cases n:m.aQ=0<;>simp[g,a,n]
  rw[P8,ep,eq,ru N w _ _ d9 i.1,Y3];unfold fT;simp only[A0,ih];cases gR (if j=0 then none else c.aA[j-1]?) m with
  |true=>simp
  |false =>
   cases fU k m with
   |true=>simp
   |false =>
    simp only[Ad];obtain⟨f,u⟩:=my N w (k:Int) m q;rw[u];simp only[A0,Option.map_some];by_cases s:f.err=0
    ·simp[s]
    ·simp[s]
theorem nq (N:Nat) (w:Wd) (b:4194304<=N) (a:fS w):∀(l:List Cl) (k:Nat),l=w.a7.drop k->Q0 N w G7 l k=Z9 N w l k
 |[],k,_=>rfl
 |c::l,k,h=>by
  obtain⟨d,e,f⟩:=fI h;rw[Q0,kZ N w _ d9 a.1,Z9,oK N w k c b a (AO d) c.aA 0 rfl];simp only[A0,nq N w b a l (k+1) e];rfl
theorem om (N:Nat) (w:Wd):∀(l:List V) (k:Nat),U2 N w l k=some (dS (w.heap.length:Int) l)
 |[],k=>rfl
 |v::l,k=>by
  rw[U2,ri,dS];simp only[A0,om N w l (k+1)];by_cases h:gJ v (w.heap.length:Int)=0<;>simp[h]
theorem oU (N:Nat) (w:Wd) (b:1048578<=N) (c:w.a7.length<=1048576) (f:4<=w.a7.length):∀(l:List Ob) (k:Nat),U3 N w l k=some (dQ w l)
 |[],k=>rfl
 |o::l,k=>by
  rw[U3,kZ N w _ b c,dQ,om];simp only[A0,oU N w b c f l (k+1)];have e:((bif (!decide (o.cls=(0:Int))) then(bif decide (o.cls<(4:Int)) then some (true) else(bif decide ((w.a7.length:Int)<=o.cls) then some (true) else some ((!decide ((o.aE.length:Int)=Y6 w o.cls))))) else some ((!decide ((o.aE.length:Int)=Y6 w o.cls)))):Option Bool)=some (eY w o):=by
   unfold eY;by_cases a:o.cls=0
   ·simp[a]
   ·by_cases d:o.cls<4
    ·simp[a,d]
    ·by_cases g:(w.a7.length:Int)<=o.cls<;>simp[a,d,g]
  rw[e];simp only[A0];cases eY w o with
  |true=>rfl
  |false =>
   simp only[Ad];cases dS (w.heap.length:Int) o.aE<;>rfl
def kc (N:Nat) (w:Wd) (e:4194304<=N) (b:fS w):O3 N w=fQ N w:=by
 unfold O3 fQ kv;have e1:((bif decide ((w.a7.length:Int)<(G7.a7.length:Int)) then some (true) else(bif decide ((12:Int)<(w.a7.length:Int)) then some (true) else some (decide ((60:Int)<(w.heap.length:Int))))):Option Bool)=some (decide ((w.a7.length:Int)<4) || (decide (12<(w.a7.length:Int)) || decide (60<(w.heap.length:Int)))):=by
  rw[iV];have:((4:Nat):Int)=4:=rfl;rw[this];by_cases a:(w.a7.length:Int)<4
  ·simp[a]
  ·by_cases g:(12:Int)<(w.a7.length:Int)<;>simp[a,g]
 have c:((bif decide (w.aR<(0:Int)) then some (true) else some (decide ((1073741824:Int)<w.aR))):Option Bool)=some (decide (w.aR<0) || decide (1073741824<w.aR)):=by
  by_cases a:w.aR<0<;>simp[a]
 simp only[A0,e1,c];cases f:(decide ((w.a7.length:Int)<4) || (decide (12<(w.a7.length:Int)) || decide (60<(w.heap.length:Int)))) with
 |true=>rfl
 |false =>
  have d:4<=w.a7.length:=by
   simp only[Bool.or_eq_false_iff,decide_eq_false_iff_not] at f;omega
  simp only[Ad];cases (decide (w.aR<0) || decide (1073741824<w.aR)) with
  |true=>rfl
  |false =>
   simp only[Ad,o3 N w b.1 w.a7 0 [] rfl (AA _) (fun s=>rfl),nq N w e b w.a7 0 rfl,lB,oU N w d9 b.1 d w.heap 0,A0];cases dP w w.a7 0 with
   |ret r=>rfl
   |next u =>
    cases Z9 N w w.a7 0 with
    |none=>rfl
    |some o =>
     cases o with
     |ret r=>rfl
     |next u =>
      simp only[A0];cases dQ w w.heap<;>rfl
theorem mz (N:Nat) (w:Wd) (k:Nat) (a:List Me) (b:4194304<=N):∀(l:List Me) (j:Nat),∃o,Y3 N w k a l j=some o
 |[],j=>⟨_,rfl⟩
 |m::l,j=>by
  obtain⟨e,c⟩:∃e,fT N w k (if j=0 then none else a[j-1]?) m=some e:=by
   unfold fT;obtain⟨f,d⟩:=my N w (k:Int) m b;rw[d];cases gR (if j=0 then none else a[j-1]?) m with
   |true=>exact⟨_,rfl⟩
   |false=>cases fU k m<;>exact⟨_,rfl⟩
  rw[Y3,c];simp only[A0];cases decide (e=0) with
  |true=>exact mz N w k a b l (j+1)
  |false=>exact⟨_,rfl⟩
theorem mv (N:Nat) (w:Wd) (a:4194304<=N):∀(l:List Cl) (k:Nat),∃o,Z9 N w l k=some o
 |[],k=>⟨_,rfl⟩
 |c::l,k=>by
  rw[Z9];cases decide (6<Y6 w (k:Int)) with
  |true=>exact⟨_,rfl⟩
  |false =>
   cases decide (8<(c.aA.length:Int)) with
   |true=>exact⟨_,rfl⟩
   |false =>
    obtain⟨o,b⟩:=mz N w k c.aA a c.aA 0;simp only[Ad,b,A0];cases o with
    |ret r=>exact⟨_,rfl⟩
    |next u=>exact mv N w a l (k+1)
def sQ (N:Nat) (w:Wd) (a:4194304<=N):∃r,fQ N w=some r:=by
 obtain⟨o,b⟩:=mv N w a w.a7 0;unfold fQ;rw[b];cases (decide ((w.a7.length:Int)<4) || (decide (12<(w.a7.length:Int)) || decide (60<(w.heap.length:Int)))) with
 |true=>exact⟨_,rfl⟩
 |false =>
  cases (decide (w.aR<0) || decide (1073741824<w.aR)) with
  |true=>exact⟨_,rfl⟩
  |false =>
   simp only[Ad];cases dP w w.a7 0 with
   |ret r=>exact⟨_,rfl⟩
   |next u =>
    simp only[A0];cases o with
    |ret r=>exact⟨_,rfl⟩
    |next u=>cases dQ w w.heap<;>exact⟨_,rfl⟩
def tx (t:BL):ByteArray:=⟨t.toArray⟩
def pC (t:BL):(tx t).size=t.length:=by show t.toArray.size=_;simp
def pB (s:ByteArray):tx s.data.toList=s:=iP rfl
def nZ (a b:BL):tx a++tx b=tx (a++b):=by
 apply iP;show(tx a++tx b).data.toList=a++b;simp[tx]
def th (t:BL) (s:ByteArray):(tx t++s)++(⟨#[32]⟩:ByteArray)=tx (t++bN s):=by
 have e:(⟨#[32]⟩:ByteArray)=tx [32]:=rfl;rw[e,<-pB s,nZ,nZ,pB,bN,AG]
def k7 {b:Type} (t:BL) (s:ByteArray) (y:ByteArray->Option b) (h:t.length+(bN s).length<=4611686018427387904) :
  (bif decide ((tx t).size+s.size<=4611686018427387904) then(bif decide (((tx t)++s).size+(⟨#[32]⟩:ByteArray).size<=4611686018427387904) then y (((tx t)++s)++(⟨#[32]⟩:ByteArray)) else none) else none)=y (tx (t++bN s)):=by
 have a:=gF s;simp only[bN,A6,Ab,a] at h;have e1:(⟨#[32]⟩:ByteArray).size=1:=rfl;rw[Aj (by rw[pC];omega),Aj (by rw[ByteArray.size_append,pC,e1];omega),th];rfl
theorem oY (N:Nat):∀(l:List Int) (k:Nat) (t:BL),t.length+(I9 l).length<=4611686018427387904->H6 N l k (tx t)=some (tx (t++I9 l))
 |[],k,t,_=>by simp[H6,I9]
 |n::l,k,t,h=>by
  have e:I9 (n::l)=bU n++I9 l:=by simp[I9]
  rw[e,A6] at h;have a:bN ⟨(Lib.itoa n).toArray⟩=bU n:=rfl;rw[H6];simp only[strconv_Itoa,A0];rw[k7 t ⟨(Lib.itoa n).toArray⟩ (fun v=>H6 N l (k+1) v) (by rw[a];omega),a,oY N l (k+1) _ (by rw[A6];omega),e,AG]
def bW (N:Nat) (l:List Int) (t:BL) (h:t.length+(I9 l).length<=4611686018427387904):H5 N l (tx t)=some (tx (t++I9 l)):=by
 unfold H5;rw[oY N l 0 t h];rfl
theorem gS {b:Type} (f:b->BL) (L:List b->Nat->ByteArray->Option ByteArray) (c:∀k a,L [] k a=some a)
  (d:∀x l k t,t.length+(f x).length<=4611686018427387904->L (x::l) k (tx t)=L l (k+1) (tx (t++f x))):∀(l:List b) (k:Nat) (t:BL),t.length+(l.map f).flatten.length<=4611686018427387904->L l k (tx t)=some (tx (t++(l.map f).flatten))
 |[],k,t,_=>by simp[c]
 |x::l,k,t,h=>by
  simp only[AN,List.flatten_cons,A6] at h;rw[d x l k t d9,gS f L c d l (k+1) _ (by rw[A6];omega),AN,List.flatten_cons,AG]
def tY (N:Nat):∀(l:List Ins) (k:Nat) (t:BL),t.length+(l.map Y4).flatten.length<=4611686018427387904->I8 N l k (tx t)=some (tx (t++(l.map Y4).flatten)) :=
 gS Y4 (I8 N) (fun k a=>rfl) fun i l k t h=>by
  simp only[Y4,A6] at h;rw[I8,bW N _ t d9];simp only[A0];by_cases b:i.op=14
  ·rw[Af b] at h;rw[b] at h⊢;simp only[Ag,Ac];rw[k7 _ i.name (fun v=>some v) (by rw[A6];omega)];simp only[A0,Y4,b,if_true,AG]
  ·simp only[b,Ah,Ad,A0,Y4,if_false,List.append_nil]
def tg (N:Nat):∀(l:List Me) (k:Nat) (t:BL),t.length+(l.map bl).flatten.length<=4611686018427387904->H9 N l k (tx t)=some (tx (t++(l.map bl).flatten)) :=
 gS bl (H9 N) (fun k a=>rfl) fun m l k t h=>by
  simp only[bl,A6] at h;rw[H9];rw[k7 t m.name (fun v=>(H5 N [m.args,m.aO,m.aQ,(m.code.length:Int)] v).bind fun b=>((I8 N m.code 0 b).bind fun c=>H9 N l (k+1) c)) d9];rw[bW N _ _ (by rw[A6];omega)];simp only[A0];rw[tY N m.code 0 _ (by simp only[A6];omega)];simp only[A0,bl,AG]
def u9 (N:Nat):∀(l:List Cl) (k:Nat) (t:BL),t.length+(l.map bt).flatten.length<=4611686018427387904->I7 N l k (tx t)=some (tx (t++(l.map bt).flatten)) :=
 gS bt (I7 N) (fun k a=>rfl) fun m l k t h=>by
  simp only[bt,A6] at h;rw[I7];rw[k7 t m.name (fun v=>(H5 N [m.aJ,m.aE,(m.aA.length:Int)] v).bind fun b=>((H9 N m.aA 0 b).bind fun c=>I7 N l (k+1) c)) d9];rw[bW N _ _ (by rw[A6];omega)];simp only[A0];rw[tg N m.aA 0 _ (by simp only[A6];omega)];simp only[A0,bt,AG]
def tn (N:Nat):∀(l:List V) (k:Nat) (t:BL),t.length+(l.map vT).flatten.length<=4611686018427387904->K5 N l k (tx t)=some (tx (t++(l.map vT).flatten)) :=
 gS vT (K5 N) (fun k a=>rfl) fun v l k t h=>by
  rw[K5,bW N _ t h];rfl
def tm (N:Nat):∀(l:List Ob) (k:Nat) (t:BL),t.length+(l.map c6).flatten.length<=4611686018427387904->K9 N l k (tx t)=some (tx (t++(l.map c6).flatten)) :=
 gS c6 (K9 N) (fun k a=>rfl) fun o l k t h=>by
  simp only[c6,A6] at h;rw[K9,bW N _ t d9];simp only[A0];rw[tn N o.aE 0 _ (by rw[A6];omega)];simp only[A0,c6,AG]
def uB (N:Nat) (w:Wd) (h:(U7 w).length<=140737488355328):jH N w=some (tx (U7 w)):=by
 simp only[U7,A6] at h;have e0:(⟨#[]⟩:ByteArray)=tx []:=rfl;unfold jH;rw[e0,bW N _ [] (by simp only[List.length_nil];omega)];simp only[A0,List.nil_append];rw[u9 N w.a7 0 _ d9];simp only[A0];rw[bW N _ _ (by simp only[A6];omega)];simp only[A0];rw[tm N w.heap 0 _ (by simp only[A6];omega)];simp only[A0,U7,AG]
def vN (t:BL):strOfNums (U t)=tx t:=iP (jg t)
def iK {a:Type} {f:a->BL} {bk:a->Nat} {l:List a} (h:∀x∈l,(f x).length<=22*bk x):(l.map f).flatten.length+22<=22*bI bk l:=by
 induction l with
 |nil=>simp[bI]
 |cons x l ih =>
  have c:=h x o7;have d:=ih fun y b=>h y (by simp[b]);rw[kL];simp only[AN,List.flatten_cons,A6];omega
def lj (s:ByteArray):(bN s).length=s.size+1:=by rw[bN,A6,gF];rfl
def iO {n:Nat} (h:n<=maxLen):C8 (n:Int):=by simp only[maxLen] at h;unfold C8;omega
def sr {i:Ins} (h:jt i):(Y4 i).length<=22*dT i:=by
 obtain⟨a,b,_⟩:=h;have c:=M5 a;have d:=M5 b;have e:=lj i.name;unfold Y4 dT V6 e7;rw[A6,cu,A6];split
 ·omega
 ·simp only[List.length_nil];omega
def tz {m:Me} (h:k5 m):(bl m).length<=22*cv m:=by
 obtain⟨_,a,b,c,d,e⟩:=h;have j:=M5 a;have k:=M5 b;have l:=M5 c;have n:=M5 (iO d);have o:=lj m.name;have p:=iK (f:=Y4) (bk:=dT) fun i g=>sr (e i g);unfold bl cv V6 e7;simp only[A6,mY];omega
def tf {c:Cl} (h:iY c):(bt c).length<=22*dH c:=by
 obtain⟨_,a,b,d,e⟩:=h;have j:=M5 a;have k:=M5 b;have l:=M5 (iO d);have m:=lj c.name;have n:=iK (f:=bl) (bk:=cv) fun i g=>tz (e i g);unfold bt dH V6 e7;simp only[A6,mK];omega
def uY {v:V} (h:kF v):(vT v).length<=22*dZ v:=by
 have a:=M5 h.1;have b:=M5 h.2;unfold vT dZ V6;simp only[cu,A6];omega
def tw {o:Ob} (h:kB o):(c6 o).length<=22*dJ o:=by
 obtain⟨a,b,c⟩:=h;have e:=M5 a;have g:=M5 (iO b);have j:=iK (f:=vT) (bk:=dZ) fun i d=>uY (c i d);unfold c6 dJ V6;simp only[cu,A6];omega
def pG {w:Wd} (h:iX w):(U7 w).length<=22*eQ w:=by
 obtain⟨⟨b,c⟩,⟨d,e⟩,g⟩:=h;have j:=M5 g;have k:=M5 (iO b);have l:=M5 (iO d);have m:=iK (f:=bt) (bk:=dH) fun i a=>tf (c i a);have n:=iK (f:=c6) (bk:=dJ) fun i a=>tw (e i a);unfold U7 eQ V6;simp only[cu,mH,A6];omega
theorem nv {w:Wd}:∀{l:List Cl} {k:Nat},l=w.a7.drop k->dP w l k=.next ()->∀j c,k<=j->w.a7[j]?=some c->eL (w.a7.take j) j c=0
 |[],k,h,_,j,c,b,a=>by
  have g:=(AB.1 a).1;have i:=List.drop_eq_nil_iff.1 h.symm;omega
 |d::l,k,h,he,j,c,b,a=>by
  obtain⟨hd,f,_⟩:=fI h;rw[dP] at he;by_cases e:eL (w.a7.take k) k d=0
  ·rw[Aj e] at he;rcases Nat.eq_or_lt_of_le b with rfl|b
   ·rw[hd] at a;cases a;exact e
   ·exact nv f he j c b a
  ·rw[Ai e] at he;cases he
def tj {b:List Cl} {k:Nat} {c:Cl} (h:eL b k c=0):U4 c.name=true/\eu b c.name=false/\jv k c=false/\k8 k c=false:=by
 unfold eL at h;cases a:(!U4 c.name || (eu b c.name || jv k c)) with
 |true=>rw[a] at h;cases h
 |false =>
  rw[a] at h;cases d:k8 k c with
  |true=>rw[d] at h;cases h
  |false =>
   simp only[Bool.or_eq_false_iff,Bool.not_eq_false'] at a;exact⟨a.1,a.2.1,a.2.2,rfl⟩
theorem oA {N:Nat} {w:Wd} {k:Nat} {d:List Me}:∀{l:List Me} {j:Nat},l=d.drop j->Y3 N w k d l j=some (.next ())->∀i m,j<=i->d[i]?=some m->fT N w k (if i=0 then none else d[i-1]?) m=some 0
 |[],j,h,_,i,m,c,a=>by
  have f:=(AB.1 a).1;have b:=List.drop_eq_nil_iff.1 h.symm;omega
 |x::l,j,h,he,i,m,c,a=>by
  obtain⟨o,n,_⟩:=fI h;rw[Y3,Aa] at he;obtain⟨e,f,b⟩:=he;by_cases g:e=0
  ·subst g;rcases Nat.eq_or_lt_of_le c with rfl|c
   ·rw[o] at a;cases a;exact f
   ·exact oA n b i m c a
  ·rw[Ai g] at b;cases b
theorem oJ {N:Nat} {w:Wd}:∀{l:List Cl} {k:Nat},l=w.a7.drop k->Z9 N w l k=some (.next ())->∀j c,k<=j->w.a7[j]?=some c->Y6 w (j:Int)<=6/\c.aA.length<=8/\Y3 N w j c.aA c.aA 0=some (.next ())
 |[],k,h,_,j,c,b,a=>by
  have e:=(AB.1 a).1;have f:=List.drop_eq_nil_iff.1 h.symm;omega
 |d::l,k,h,he,j,c,b,a=>by
  obtain⟨hd,m,_⟩:=fI h;rw[Z9] at he;by_cases e:6<Y6 w (k:Int)
  ·rw[Aj e] at he;cases he
  rw[Ai e] at he;by_cases f:8<(d.aA.length:Int)
  ·rw[Aj f] at he;cases he
  rw[Ai f] at he;simp only[Ad,Aa] at he;obtain⟨o,i,g⟩:=he;cases o with
  |ret r=>cases g
  |next u =>
   rcases Nat.eq_or_lt_of_le b with rfl|b
   ·rw[hd] at a;cases a;exact⟨d9,d9,i⟩
   ·exact oJ m g j c b a
theorem ny {w:Wd}:∀{l:List Ob},dQ w l=.next ()->∀o∈l,eY w o=false/\dS (w.heap.length:Int) o.aE=.next ()
 |[],_,o,a=>by cases a
 |x::l,h,o,a=>by
  rw[dQ] at h;cases b:eY w x with
  |true=>rw[b] at h;cases h
  |false =>
   rw[b] at h;simp only[Ad] at h;cases c:dS (w.heap.length:Int) x.aE with
   |ret r=>rw[c] at h;cases h
   |next u =>
    rw[c] at h;rcases AF.1 a with rfl|a
    ·exact⟨b,c⟩
    ·exact ny h o a
structure lr (N:Nat) (w:Wd):Prop where
 many:4<=w.a7.length/\w.a7.length<=12/\w.heap.length<=60
 aR:0<=w.aR/\w.aR<=1073741824
 cls:∀(j:Nat) c,w.a7[j]?=some c->eL (w.a7.take j) j c=0
 ix:∀(j:Nat) c,w.a7[j]?=some c->Y6 w (j:Int)<=6/\c.aA.length<=8/\Y3 N w j c.aA c.aA 0=some (.next ())
 obj:∀o∈w.heap,eY w o=false/\dS (w.heap.length:Int) o.aE=.next ()
def tC {N:Nat} {w:Wd} (h:fQ N w=some 0):lr N w:=by
 unfold fQ at h;cases p:(decide ((w.a7.length:Int)<4) || (decide (12<(w.a7.length:Int)) || decide (60<(w.heap.length:Int)))) with
 |true=>rw[p] at h;cases h
 |false =>
  rw[p] at h;cases q:(decide (w.aR<0) || decide (1073741824<w.aR)) with
  |true=>rw[q] at h;cases h
  |false =>
   rw[q] at h;simp only[Ad] at h;have f:∀{l:List Cl} {k:Nat} {r:Int},dP w l k=.ret r->r≠0:=by
    intro l
    induction l with
    |nil=>intro k r h;cases h
    |cons c l ih =>
     intro k r h;rw[dP] at h;by_cases a:eL (w.a7.take k) k c=0
     ·rw[Aj a] at h;exact ih h
     ·rw[Ai a] at h;cases h;exact a
   have b:∀{k:Nat} {z:List Me} {l:List Me} {j:Nat} {r:Int},Y3 N w k z l j=some (.ret r)->r≠0:=by
    intro k z l
    induction l with
    |nil=>intro j r h;rw[Y3] at h;cases h
    |cons c l ih =>
     intro j r h;rw[Y3,Aa] at h;obtain⟨e,_,h⟩:=h;by_cases a:e=0
     ·rw[Aj a] at h;exact ih h
     ·rw[Ai a] at h;cases h;exact a
   have g:∀{l:List Cl} {k:Nat} {r:Int},Z9 N w l k=some (.ret r)->r≠0:=by
    intro l
    induction l with
    |nil=>intro k r h;rw[Z9] at h;cases h
    |cons c l ih =>
     intro k r h;rw[Z9] at h;cases A:decide (6<Y6 w (k:Int)) with
     |true=>rw[A] at h;cases h;decide
     |false =>
      rw[A] at h;cases B:decide (8<(c.aA.length:Int)) with
      |true=>rw[B] at h;cases h;decide
      |false =>
       rw[B] at h;simp only[Ad,Aa] at h;obtain⟨o,C,h⟩:=h;cases o with
       |ret D=>cases h;exact b C
       |next u=>exact ih h
   have d:∀{n:Int} {l:List V} {r:Int},dS n l=.ret r->r≠0:=by
    intro n l
    induction l with
    |nil=>intro r h;cases h
    |cons v l ih =>
     intro r h;rw[dS] at h;by_cases a:gJ v n=0
     ·rw[Aj a] at h;exact ih h
     ·rw[Ai a] at h;cases h;exact a
   have i:∀{l:List Ob} {r:Int},dQ w l=.ret r->r≠0:=by
    intro l
    induction l with
    |nil=>intro r h;cases h
    |cons o l ih =>
     intro r h;rw[dQ] at h;cases y:eY w o with
     |true=>rw[y] at h;cases h;decide
     |false =>
      rw[y] at h;simp only[Ad] at h;cases t:dS (w.heap.length:Int) o.aE with
      |ret D=>rw[t] at h;cases h;exact d t
      |next u=>rw[t] at h;exact ih h
   simp only[Bool.or_eq_false_iff,decide_eq_false_iff_not] at p q;cases m:dP w w.a7 0 with
   |ret r=>rw[m] at h;cases h;exact absurd rfl (f m)
   |next u =>
    rw[m] at h;simp only[Aa] at h;obtain⟨o,x,h⟩:=h;cases o with
    |ret r=>cases h;exact absurd rfl (g x)
    |next u =>
     cases c3:dQ w w.heap with
     |ret r=>simp only[c3] at h;cases h;exact absurd rfl (i c3)
     |next u=>exact⟨d9,d9,fun j c s=>nv (k:=0) rfl m j c (Nat.zero_le _) s,fun j c s=>oJ (k:=0) rfl x j c (Nat.zero_le _) s,ny c3⟩
def iI {s:ByteArray} (h:U4 s=true):dF s:=by
 unfold U4 at h;simp only[A7,Ak] at h;refine⟨fun e=>?_,fun e=>?_⟩
 ·have:=gF s;rw[e] at this;simp at this;omega
 ·have:=AD.1 h.1 32 e;revert this;decide
def qu {w:Wd} {c:Int} {m:Me} {i:Ins} (h:dX w c m i=0):i.b=0/\i.c=0/\(i.op=14->dF i.name)/\(i.op≠14->i.name=AK):=by
 unfold dX at h;split at h
 ·cases h
 ·split at h
  ·split at h
   ·cases h
   ·rename_i a;unfold mV at a;simp only[Bool.or_eq_true,A7,Bool.not_eq_true',Ak,decide_eq_false_iff_not,not_or,not_and,Classical.not_not,Bool.not_eq_false] at a;exact⟨a.1.2,a.2,fun d=>iI (a.1.1.1 d),fun d=>a.1.1.2 d⟩
  ·cases h
def sq {N:Nat} {w:Wd} {k:Nat} {p:Option Me} {m:Me} (h:fT N w k p m=some 0):dF m.name/\m.code.length<=60/\∀i∈m.code,i.b=0/\i.c=0/\(i.op=14->dF i.name)/\(i.op≠14->i.name=AK):=by
 unfold fT at h;cases j:gR p m with
 |true=>rw[j] at h;cases h
 |false =>
  rw[j] at h;cases a:fU k m with
  |true =>
   unfold fU at a;simp only[A7,Ak] at a;obtain⟨_,l,_,_,g⟩:=a;obtain⟨q,s,e,_⟩:=(ot l).2;have r:∀q∈H8,U4 q.name=true:=p8;exact⟨by rw[<-e];exact iI (r q s),by rw[g];simp,by rw[g];intro i d;cases d⟩
  |false =>
   rw[a] at h;simp only[Ad,AW] at h;obtain⟨f,o,n⟩:=h;have F:=qY o n;exact⟨iI F.name,F.len.2,fun i d=>qu (F.num i d)⟩
theorem lr.wr {N:Nat} {w:Wd} (h:lr N w) (C:iX w):gd w:=by
 obtain⟨⟨O,y⟩,⟨P,z⟩,A⟩:=C;refine⟨A,h.many.2.1,h.many.2.2,fun c d=>?_,fun o a=>?_⟩
 ·obtain⟨j,k⟩:=List.mem_iff_getElem?.1 d;obtain⟨s,J,K,L⟩:=tj (h.cls j c k);obtain⟨M,t,u⟩:=h.ix j c k;obtain⟨_,g,n,p,H⟩:=y c d;refine⟨iI s,g,n,t,fun m l=>?_⟩;obtain⟨i,B⟩:=List.mem_iff_getElem?.1 l;obtain⟨E,F,G⟩:=sq (oA (j:=0) rfl u i m (Nat.zero_le _) B);obtain⟨_,b,q,I,R,r⟩:=H m l;exact⟨E,b,q,I,F,fun x f=>⟨(r x f).1,(r x f).2.1,G x f⟩⟩
 ·obtain⟨b,q⟩:=h.obj o a;obtain⟨g,n,p⟩:=z o a;refine⟨g,?_,fun v D=>p v D⟩;unfold eY at b;simp only[Bool.or_eq_false_iff,Bool.and_eq_false_iff,Bool.not_eq_false',decide_eq_false_iff_not,Ak] at b;have Q:0<=o.cls/\o.cls<w.a7.length:=by
   have:=h.many.1;rcases b.1 with e|e<;>omega
  obtain⟨c,d⟩:∃c,w.a7[o.cls.toNat]?=some c:=⟨_,A8 d9⟩;have:=(h.ix o.cls.toNat c d).1;have e:((o.cls.toNat:Nat):Int)=o.cls:=d9;rw[e] at this;omega
def ql (N:Nat):fQ N G7=some 0:=l8
def ub : gd G7:=by
 have g:∀s:ByteArray,U4 s=true->dF s:=fun s h=>iI h;have n:∀m∈H8,U4 m.name=true/\C8 m.args/\C8 m.aO/\C8 m.aQ/\m.code=[]:=p8;have j:∀m∈H8,ma m:=fun m f=>by
  obtain⟨a,b,c,d,e⟩:=n m f;exact⟨g _ a,b,c,d,by rw[e];simp,by rw[e];intro i l;cases l⟩
 refine⟨p8,p8,p8,fun c k=>?_,fun o p=>by cases p⟩;simp only[G7,AF,List.not_mem_nil,or_false] at k;rcases k with rfl|rfl|rfl|rfl
 ·exact⟨g _ p8,p8,p8,p8,fun m f=>by cases f⟩
 ·exact⟨g _ p8,p8,p8,p8,fun m f=>by cases f⟩
 ·exact⟨g _ p8,p8,p8,p8,fun m f=>by cases f⟩
 ·exact⟨g _ p8,p8,p8,p8,j⟩
def mC {s:ByteArray} (h:s.size<=12):gu s:=by unfold gu;simp only[maxLen];omega
def nY : iX G7/\eQ G7<=1000:=by
 have p:∀m∈H8,m.name.size<=12/\C8 m.args/\C8 m.aO/\C8 m.aQ/\m.code=[]:=p8;have e:∀(s:ByteArray) (a b:Int) ,s.size<=12->C8 a->C8 b->iY ⟨s,a,b,[]⟩:=fun s a b j k l=>⟨mC j,k,l,Nat.zero_le _,fun m g=>by cases g⟩;refine⟨⟨⟨show(4:Nat)<=maxLen by decide,fun c h=>?_⟩,⟨show(0:Nat)<=maxLen by decide,fun o q=>by cases q⟩,show C8 0 by decide⟩,p8⟩;simp only[G7,AF,List.not_mem_nil,or_false] at h;rcases h with rfl|rfl|rfl|rfl
 ·exact e _ _ _ p8 p8 p8
 ·exact e _ _ _ p8 p8 p8
 ·exact e _ _ _ p8 p8 p8
 ·refine⟨mC p8,show C8 0 by decide,show C8 0 by decide,show(5:Nat)<=maxLen by decide,fun m g=>?_⟩;obtain⟨a,b,c,d,f⟩:=p m g;exact⟨mC a,b,c,d,by rw[f];exact⟨Nat.zero_le _,fun i n=>by cases n⟩⟩
def sX (N:Nat) (b:4194304<=N):jF N=some true:=by
 have k:=pG nY.1;have j:=nY.2;have e:(U7 G7).length<=140737488355328:=d9;have d:O3 N G7=some 0:=by rw[kc N G7 b oE];exact ql N
 have a:O3 N ⟨[],[],0⟩=some 5:=by
  rw[kc N ⟨[],[],0⟩ b ⟨p8,p8,fun c h=>(by cases h),fun o i=>(by cases i)⟩];rfl
 have g:fx N (U (U7 G7))=some (G7,0):=by
  rw[oT N _ (by rw[Z6];omega),jg,tv ub];simp only[d,A0];rfl
 unfold jF jL;simp only[A0,oZ N G7 e,g,uB N G7 e,d,a,vN];have f:(G7.a7.length:Int)=4:=rfl;simp only[f,Ag,Ac,A0]
def sL (a:Wd) (b:Int) (e:iX a) (m:cR b) (n:eQ a+V6 b<=1048576):∃N,kY N a b=some true:=by
 obtain⟨N,j⟩:∃N:Nat,N=4194304:=⟨_,rfl⟩;have c:4194304<=N:=d9;refine⟨N,?_⟩;have k:=ss (w:=a) d9;have o:=pG e;unfold kY;rw[sX N c,kc N a c k];obtain⟨r,f⟩:=sQ N a c;simp only[A0,AQ,Ad,f];by_cases h:r=0
 ·subst h;have l:=(tC f).wr e;rw[oZ N a d9];simp only[Ag,AQ,Ad,A0,Z6];by_cases g:b<0
  ·simp only[g,Ag,Ac,A0]
  ·by_cases d:((U7 a).length:Int)<=b
   ·simp only[g,d,Ag,Ah,Ac,Ad,A0]
   ·have e1:(decide (0<=b) && decide (b<=((U7 a).length:Int)))=true:=by simp only[A7,Ak];omega
    have i:(U (U7 a)).take b.toNat=U ((U7 a).take b.toNat):=(by simp[U,List.map_take]);simp only[g,d,Ah,Ad,A0,e1,Ac,i];rw[oT N _ (by rw[Z6,List.length_take];omega),jg,rO l b.toNat d9];rfl
 ·simp only[h,Ah,Bool.not_false,Ac]
end Go.Proofs.YtibjcppjfkamhaaDoor
