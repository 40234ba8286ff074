import Derived.Test.YtibjcppjfkamhaaGreatDoorE
set_option linter.unusedVariables false
set_option linter.defProp false
set_option linter.unusedSimpArgs false
namespace Go.Proofs.YtibjcppjfkamhaaGreatDoor
open Go.RowKit
open _root_.Bool renaming not_true->IT,and_eq_true->It,not_false->QJ,false_eq_true->Qe
open _root_.ByteArray renaming empty->IS
open _root_.Int renaming le_refl->QQ,toNat_natCast->Qc
open _root_.List renaming getElem?_eq_getElem->No,getElem?_eq_some_iff->OR,length_append->Of,mem_cons->QG,replicate->QH,length_cons->QI,map->QK,mem_of_getElem?->QM,map_cons->QO,all_eq_true->QP,append_assoc->QR,mem_append->QS,length_map->QU,getElem?_set->QV,sum_cons->QX,getElem?_append_right->QY,length_set->Qa,getElem?_eq_none->Qb,nil_append->Qd,mem_singleton->Qf,length_nil->Qh,getElem?_map->Qi,eq_nil_of_length_eq_zero->Qj,ext_getElem?->Ql,getElem?_append_left->Qn,length_take->Qo,mem_cons_of_mem->Qp,length_singleton->Qq,getElem?_take->Qs,size_toArray->Qu,mem_iff_getElem?->Qv,getElem?_cons_succ->Qw,getElem?_cons_zero->Qy
open _root_.Nat renaming ble->AT,le_refl->NO,zero_add->Qg,add_assoc->Qm,mul_le_mul_right->Qr,ble_eq_true_of_le->Qx
open _root_.Option renaming bind_some->A0,map_eq_some_iff->QL,map_some->QZ
structure Ext(w w':Wd):Prop where
 sup:∀(j:Nat) x,w.a7[j]?=some x->x.aQ<j
 cls:∀(j:Nat) x,w.a7[j]?=some x->∃x',w'.a7[j]?=some x'/\x'.aQ=x.aQ/\x'.aG=x.aG
def Ext.len{w w':Wd}(h:Ext w w'):w.a7.length<=w'.a7.length:=by
 rcases Nat.lt_or_ge w'.a7.length w.a7.length with hl|hl
 ·obtain⟨b,a,_⟩:=h.cls w'.a7.length _ (No hl);have:=(OR.1 a).1;omega
 ·exact hl
def FZ(w:Wd)(n:Nat){c:Int}(h:c<0):bg w n c=[]:=by
 cases n with
 |zero=>rfl
 |succ n=>rw[bg,R1 d9]
def Ext.ra{w w':Wd}(h:Ext w w'):∀(c:Nat),c<w.a7.length->∀n b,c<n->c<b->bg w' b (c:Int)=bg w n (c:Int):=by
 intro c
 induction c using Nat.strongRecOn with
 |ind c ih =>
  intro j n b o k;obtain⟨n,rfl⟩:∃m,n=m+1:=⟨n-1,d9⟩;obtain⟨b,rfl⟩:∃m,b=m+1:=⟨b - 1,d9⟩;have f:=No j;obtain⟨p,g,i,_⟩:=h.cls c _ f;have l:=h.sup c _ f;rw[bg,bg,RA (Int.natCast_nonneg c),RA (Int.natCast_nonneg c),Qc,g,f];simp only[i];rcases Int.lt_or_le (w.a7[c]).aQ 0 with a|d
  ·rw[FZ _ _ a,FZ _ _ a]
  ·obtain⟨s,e⟩:=Int.eq_ofNat_of_zero_le d;rw[e] at l⊢;rw[ih s d9 d9 n b d9 d9]
def Ext.aG{w w':Wd}(h:Ext w w'){c:Nat}(f:c<w.a7.length):l8 w' (c:Int)=l8 w (c:Int):=by
 unfold l8;have:=h.len;rw[h.ra c f (w.a7.length+1) (w'.a7.length+1) d9 d9];have a:=Af w (w.a7.length+1) (c:Int);generalize bg w (w.a7.length+1) (c:Int)=l at a;generalize (0:Int)=z
 induction l generalizing z with
 |nil=>rfl
 |cons k l ih =>
  obtain⟨j,m⟩:=a k l9;have b:=No (l:=w.a7) (i:=k.toNat) d9;obtain⟨n,d,_,e⟩:=h.cls _ _ b;simp only[List.foldl_cons,d,b,e];exact ih (fun q g=>a q (by simp[g])) _
def Nf{w w':Wd}{c:Int}{m:Me}{i:Ins}(f:l8 w' c=l8 w c)(hl:w.a7.length<=w'.a7.length)(h:cS w c m i=0):cS w' c m i=0:=by
 unfold cS at h⊢;have key:∀b,gk w c m i=some b->b=true->gk w' c m i=some true:=by
  intro b;unfold gk;rw[f];split
  ·intro e a;rw[e,a]
  split
  ·intro e a;rw[e,a]
  split
  ·intro e a;rw[e,a]
  split
  ·intro e a;rw[e,a]
  split
  ·intro e a;rw[e,a]
  split
  ·intro e a;cases e;simp only[Bool.or_eq_true,It,RF] at a;simp only[Option.some.injEq,Bool.or_eq_true,It,RF];omega
  split
  ·intro e a;rw[e,a]
  split
  ·intro e a;rw[e,a]
  ·intro e;cases e
 cases d:gk w c m i with
 |none=>rw[d] at h;cases h
 |some b =>
  rw[d] at h;cases b with
  |false=>cases h
  |true=>rw[key true d rfl];exact h
def Fu{w w':Wd}{c:Int}{m:Me}(a:l8 w' c=l8 w c)(hl:w.a7.length<=w'.a7.length):∀{l:List Ins} {k:Nat},ee w c m l k=.next ()->ee w' c m l k=.next ()
 |[],_,_=>rfl
 |i::l,k,h=>by
  rw[ee] at h⊢;by_cases hi:cS w c m i=0
  ·rw[RA hi] at h;rw[RA (Nf a hl hi)];exact Fu a hl h
  ·rw[R1 hi] at h;cases h
def G1{w:Wd}{c:Int}{m:Me}:∀{l:List Ins} {k:Nat} {f:dK},ee w c m l k=.ret f->f.err≠0
 |[],_,_,h=>by cases h
 |i::l,k,f,h=>by
  rw[ee] at h;by_cases hi:cS w c m i=0
  ·rw[RA hi] at h;exact G1 h
  ·rw[R1 hi] at h;cases h;exact hi
def wX{N:Nat}{w w':Wd}{c:Int}{m:Me}(k:l8 w' c=l8 w c)(hl:w.a7.length<=w'.a7.length){f:dK}(h:aj N w c m=some f)(a:f.err=0):∃d,aj N w' c m=some d/\d.err=0:=by
 unfold aj at h⊢;split at h
 ·cases h;cases a
 rename_i l;rw[R1 d9];split at h
 ·cases h;cases a
 rename_i e;rw[R1 e];split at h
 ·cases h;cases a
 rename_i g;rw[R1 g];split at h
 ·cases h;cases a
 rename_i i;rw[R1 i];split at h
 ·cases h;cases a
 rename_i j;rw[R1 j];cases b:ee w c m m.code 0 with
 |ret r=>rw[b] at h;cases h;exact absurd a (G1 b)
 |next u=>rw[b] at h;rw[Fu k hl b];exact⟨f,h,a⟩
def zp{N:Nat}{w:Wd}(u:4194304<=N)(many:4<=w.a7.length/\w.a7.length<=12/\w.heap.length<=60)(aC:0<=w.aC/\w.aC<=1073741824)(cls:∀(j:Nat) c,w.a7[j]?=some c->mz w j c)(ak:∀(j:Nat) c,w.a7[j]?=some c->l8 w (j:Int)<=6/\c.aB.length<=8/\dN c.aB/\∀m∈c.aB,pR j m\/∃f,aj N w (j:Int) m=some f/\f.err=0)(obj:∀o∈w.heap,d88 w o):K7 N w/\E8 w:=by
 have e:∀x∈w.a7,0<=x.aG/\x.aG<=6:=fun x l=>by
  obtain⟨j,i⟩:=Qv.1 l;exact(cls j x i).2.2.2.2
 have b:w.a7.length<=1048576:=d9;have r:K7 N w:=⟨many,aC,cls,fun j c s=>by
  obtain⟨p,n,q,g⟩:=ak j c s;refine⟨p,n,q,fun m k=>?_⟩;rcases g m k with h|⟨f,a,d⟩
  ·exact .inl h
  ·exact .inr ⟨f,by rw[rp N w _ m d9 b (mY e b _)];exact a,d⟩,obj⟩
 refine⟨r,b,d9,fun x l=>?_,fun o t=>?_⟩
 ·obtain⟨j,i⟩:=Qv.1 l;obtain⟨_,n,_,g⟩:=ak j x i;refine⟨d9,fun m k=>?_⟩;rcases g m k with⟨_,_,_,_,_,_,_,h⟩|⟨f,a,d⟩
  ·rw[h];simp
  ·unfold aj at a;split at a
   ·cases a;cases d
   split at a
   ·cases a;cases d
   split at a
   ·cases a;cases d
   split at a
   ·cases a;cases d
   split at a
   ·cases a;cases d
   ·omega
 ·have:=(obj o t).2.2.2.1;have:=zK e many.2.1 o.cls;omega
def K7.xC{N:Nat}{w:Wd}(k:4194304<=N)(b:E8 w)(h:K7 N w){j:Nat}{c:Cl}(g:w.a7[j]?=some c){m:Me}(i:m∈c.aB):pR j m\/∃f,aj N w (j:Int) m=some f/\f.err=0:=by
 rcases(h.ak j c g).2.2.2 m i with d|⟨f,a,e⟩
 ·exact .inl d
 ·exact .inr ⟨f,by rw[rp N w _ m d9 b.1 (mY (na h) b.1 _)] at a;exact a,e⟩
def K7.sup{N:Nat}{w:Wd}(h:K7 N w)(j:Nat)(x:Cl)(g:w.a7[j]?=some x):x.aQ<j:=by
 obtain⟨_,_,b,c,_⟩:=h.cls j x g;rcases Nat.lt_or_ge j 4 with a|a
 ·obtain⟨f,d,_,e,_⟩:=b a;rw[e];have:j=0\/j=1\/j=2\/j=3:=d9;rcases this with rfl|rfl|rfl|rfl<;>(cases d;decide)
 ·exact(c a).2.1
def K7.other{w:Wd}{N:Nat}(p:4194304<=N)(y:E8 w)(a:K7 N w){H:List Ob}(n:iK w H){e:Int}(t:0<=e/\e<=1073741824):K7 N ⟨w.a7,H,e⟩/\E8 ⟨w.a7,H,e⟩:=by
 have k:Ext w ⟨w.a7,H,e⟩:=⟨a.sup,fun j x z=>⟨x,z,rfl,rfl⟩⟩;refine zp p ⟨a.many.1,a.many.2.1,n.len⟩ t a.cls (fun j c l=>?_) fun o v=>?_
 ·have q:=(OR.1 l).1;obtain⟨b,d,g,_⟩:=a.ak j c l;refine⟨by rw[k.aG q];exact b,d,g,fun m u=>?_⟩;rcases a.xC p y l u with h|⟨f,i,s⟩
  ·exact .inl h
  ·exact .inr (wX (k.aG q) k.len i s)
 ·obtain⟨b,d,g,r,i⟩:=n.ob o v;exact⟨b,d,g,by rw[zA];exact r,i⟩
def zC{w:Wd}(b:∀x∈w.a7,0<=x.aG/\x.aG<=6)(d:Int)(hd:0<=d):∀(l:List Int) (a:Int),0<=a->a+d+6*l.length<=100000000 ->
  l.foldl (fun n k=>match w.a7[k.toNat]? with|some x=>wr (n+x.aG)|none=>n) (a+d)=l.foldl (fun n k=>match w.a7[k.toNat]? with|some x=>wr (n+x.aG)|none=>n) a+d
 |[],a,_,_=>rfl
 |k::l,a,h0,h1=>by
  simp only[QI] at h1;simp only[List.foldl_cons];cases c:w.a7[k.toNat]? with
  |none=>exact zC b d hd l a h0 d9
  |some x =>
   have:=b x (QM c);simp only;rw[q8 ino,q8 ino,show a+d+x.aG=a+x.aG+d by omega];exact zC b d hd l (a+x.aG) d9 d9
def MQ{w:Wd}{s:ByteArray}{c n:Int}(o:w.a7.length<=12)(j:∀x∈w.a7++[(⟨s,c,n,[]⟩:Cl)],0<=x.aG/\x.aG<=6)(d:Ext w ⟨w.a7++[⟨s,c,n,[]⟩],w.heap,w.aC⟩){k:Nat}(i:c=(k:Int))(f:k<w.a7.length):
  l8 ⟨w.a7++[⟨s,c,n,[]⟩],w.heap,w.aC⟩ (w.a7.length:Int)=l8 w c+n:=by
 have m:0<=n/\n<=6:=j ⟨s,c,n,[]⟩ l9;have b:(w.a7++[(⟨s,c,n,[]⟩:Cl)]).length=w.a7.length+1:=l9;have e1:l8 ⟨w.a7++[⟨s,c,n,[]⟩],w.heap,w.aC⟩ c=l8 w c:=by have e:=d.aG f;rw[<-i] at e;exact e
 rw[<-e1];unfold l8;simp only[b];have hl:=wg ⟨w.a7++[⟨s,c,n,[]⟩],w.heap,w.aC⟩ (w.a7.length+1) c;rw[bg,RA (Int.natCast_nonneg _),Qc];have a:(w.a7++[(⟨s,c,n,[]⟩:Cl)])[w.a7.length]?=some ⟨s,c,n,[]⟩:=by rw[QY (NO _),Nat.sub_self];rfl
 simp only[a,List.foldl_cons,Qc];have l:bg ⟨w.a7++[⟨s,c,n,[]⟩],w.heap,w.aC⟩ (w.a7.length+1+1) c=bg ⟨w.a7++[⟨s,c,n,[]⟩],w.heap,w.aC⟩ (w.a7.length+1) c:=by
  have g:=d.ra k f (w.a7.length+1) (w.a7.length+1+1) d9 d9;have h:=d.ra k f (w.a7.length+1) (w.a7.length+1) d9 d9;rw[<-i] at g h;rw[g,h]
 rw[l,q8 ino];exact zC (w:=⟨w.a7++[⟨s,c,n,[]⟩],w.heap,w.aC⟩) j n m.1 (bg ⟨w.a7++[⟨s,c,n,[]⟩],w.heap,w.aC⟩ (w.a7.length+1) c) 0 d9 d9
def Kz{N:Nat}{w:Wd}(D:4194304<=N)(F:E8 w)(i:K7 N w){s:ByteArray}{c n:Int}(h:(gP w s c n).2.2=0):
  K7 N (gP w s c n).1/\E8 (gP w s c n).1/\(gP w s c n).1=⟨w.a7++[⟨s,c,n,[]⟩],w.heap,w.aC⟩/\Ext w (gP w s c n).1:=by
 unfold gP at h⊢;split at h
 ·cases h
 rename_i y;rw[R1 y];split at h
 ·cases h
 rename_i K;rw[R1 K];split at h
 ·cases h
 rename_i L;rw[R1 L];split at h
 ·cases h
 rename_i M;rw[R1 M];simp only;have B:∀{j:Nat} {x:Cl},w.a7[j]?=some x->(w.a7++[⟨s,c,n,[]⟩])[j]?=some x:=fun {j x} a=>by
  rw[Qn (OR.1 a).1];exact a
 have u:∀{j:Nat} {x:Cl},(w.a7++[⟨s,c,n,[]⟩])[j]?=some x->w.a7[j]?=some x\/(j=w.a7.length/\x=⟨s,c,n,[]⟩):=fun {j x} a=>by
  rcases Nat.lt_trichotomy j w.a7.length with b|b|b
  ·rw[Qn b] at a;exact .inl a
  ·subst b;rw[QY (NO _),Nat.sub_self] at a;cases a;exact .inr ⟨rfl,rfl⟩
  ·rw[Qb F5] at a;cases a
 have l:Ext w ⟨w.a7++[⟨s,c,n,[]⟩],w.heap,w.aC⟩:=⟨i.sup,fun j x a=>⟨x,B a,rfl,rfl⟩⟩;have p:=i.many;obtain⟨G,z⟩:=Int.eq_ofNat_of_zero_le (show 0<=c by omega);have A:G<w.a7.length:=d9;have t:=na i;have k:∀x∈w.a7++[(⟨s,c,n,[]⟩:Cl)],0<=x.aG/\x.aG<=6:=fun x a=>by
  rcases QS.1 a with a|a
  ·exact t x a
  ·have:=Qf.1 a;subst this;have:=mY t F.1 c;exact⟨bL,bL⟩
 have q:=MQ p.2.1 k l z A;have g:(w.a7++[(⟨s,c,n,[]⟩:Cl)]).length=w.a7.length+1:=l9;have E:=zp (w:=⟨w.a7++[⟨s,c,n,[]⟩],w.heap,w.aC⟩) D (by simp only[g];omega) i.aC (fun j x a=>by
  rcases u a with a|⟨rfl,rfl⟩
  ·have b:=(OR.1 a).1;have:=i.cls j x a;unfold mz at this⊢;rw[List.take_append_of_le_length d9];exact this
  ·refine⟨by simpa using fun e=>y (.inl e),fun d hd e=>y (.inr ?_),fun R=>d9,fun _=>⟨bL,bL,fun J=>?_⟩,k _ l9⟩
   ·rw[List.take_append_of_le_length (NO _),List.take_length] at hd;unfold fS;rw[List.any_eq_true];exact⟨d,hd,by simpa using e⟩
   ·simp only at J⊢;omega) (fun j x a=>by
  rcases u a with a|⟨rfl,rfl⟩
  ·have b:=(OR.1 a).1;obtain⟨g1,v,C,_⟩:=i.ak j x a;refine⟨by rw[l.aG b];exact g1,v,C,fun m p=>?_⟩;rcases i.xC D F a p with h|⟨f,O,P⟩
   ·exact .inl h
   ·exact .inr (wX (l.aG b) l.len O P)
  ·exact⟨by rw[q];omega,l9,List.Pairwise.nil,fun m p=>by cases p⟩) fun o Q=>by
  obtain⟨g1,v,C,H,I⟩:=i.obj o Q;obtain⟨S,r⟩:=Int.eq_ofNat_of_zero_le g1;exact⟨g1,v,by simp only[g];omega,by rw[r,l.aG d9,<-r];exact H,I⟩
 exact⟨E.1,E.2,trivial,l⟩
def za{m x:Me}:∀{l:List Me},x∈cO m l->x=m\/x∈l
 |[],h=>by simpa[cO] using h
 |y::l,h=>by
  unfold cO at h;split at h
  ·rcases QG.1 h with h|h
   ·exact .inl h
   ·exact .inr (Qp _ h)
  split at h
  ·rcases QG.1 h with h|h
   ·exact .inl h
   ·exact .inr h
  ·rcases QG.1 h with h|h
   ·exact .inr (by rw[h];simp)
   ·rcases za h with h|h
    ·exact .inl h
    ·exact .inr (Qp _ h)
def EE{y:Me}{l:List Me}(h:dN (y::l)):(∀x∈l,V8 y.name x.name=true)/\dN l:=List.pairwise_cons.1 h
def d68{m:Me}:∀{l:List Me},dN l->(cO m l).length<=l.length+1/\((V3 m.name l).isSome=true->(cO m l).length=l.length)
 |[],_=>⟨by simp[cO],fun h=>by cases h⟩
 |y::l,hr=>by
  obtain⟨b,c⟩:=EE hr;have ih:=d68 (m:=m) c;unfold cO V3;split
  ·exact⟨l9,fun _=>l9⟩
  rename_i f;split
  ·rename_i a;refine⟨l9,fun h=>?_⟩;cases q:V3 m.name l with
   |none=>rw[q] at h;cases h
   |some i =>
    obtain⟨x,d,e⟩:=jQ q;have:=AR (b x (QM d));rw[e,a] at this;cases this
  ·exact⟨by simp only[QI];omega,fun h=>by
    simp only[QI];rw[ih.2 (by cases q:V3 m.name l with|none=>rw[q] at h;cases h|some i=>rfl)]⟩
def EX{m:Me}:∀{l:List Me},dN l->dN (cO m l)
 |[],_=>by simp[cO,dN]
 |y::l,hr=>by
  obtain⟨c,e⟩:=EE hr;have ih:=EX (m:=m) e;unfold cO;split
  ·rename_i d;exact List.pairwise_cons.2 ⟨fun x b=>by rw[<-d];exact c x b,e⟩
  rename_i d;split
  ·rename_i a;exact List.pairwise_cons.2 ⟨fun x b=>by
    rcases QG.1 b with rfl|b
    ·exact a
    ·exact lt_trans a (c x b),hr⟩
  ·rename_i a;refine List.pairwise_cons.2 ⟨fun x b=>?_,ih⟩;rcases za b with rfl|b
   ·cases q:V8 y.name x.name with
    |true=>rfl
    |false=>exact absurd (d43 q (by simpa using a)) d
   ·exact c x b
def L4{N:Nat}{w:Wd}(Q:4194304<=N)(Y:E8 w)(l:K7 N w){c:Int}{m:Me}{f:dK}(V:aj N w c m=some f)(J:f.err=0)(he:w.aC<1073741824)(h:(gw w c m).2=0):
  K7 N (gw w c m).1/\E8 (gw w c m).1/\(gw w c m).1.aC=w.aC+1:=by
 unfold gw at h⊢;by_cases C:0<=c
 ·rw[RA C] at h⊢;cases A:w.a7[c.toNat]? with
  |none=>rw[A] at h;cases h
  |some x =>
   rw[A] at h;simp only at h⊢;split at h
   ·cases h
   rename_i P;rw[R1 P];simp only;have W:=l.many;have u:wr (w.aC+1)=w.aC+1:=q8 (by unfold H8;have:=l.aC;omega);have I:c.toNat<w.a7.length:=(OR.1 A).1;have aH:∀(j:Nat) y,(w.a7.set c.toNat ⟨x.name,x.aQ,x.aG,cO m x.aB⟩)[j]?=some y->∃z,w.a7[j]?=some z/\y.name=z.name/\y.aQ=z.aQ/\y.aG=z.aG/\((j=c.toNat/\z=x/\y.aB=cO m x.aB)\/y.aB=z.aB):=fun j y k=>by
    rw[QV] at k;split at k
    ·rename_i e;subst e;cases k;exact⟨x,A,rfl,rfl,rfl,.inl ⟨rfl,rfl,rfl⟩⟩
    ·exact⟨y,k,rfl,rfl,rfl,.inr rfl⟩
   have r:Ext w ⟨w.a7.set c.toNat ⟨x.name,x.aQ,x.aG,cO m x.aB⟩,w.heap,wr (w.aC+1)⟩:=⟨l.sup,fun j z a=>by
    by_cases e:c.toNat=j
    ·subst e;rw[A] at a;cases a;exact⟨⟨x.name,x.aQ,x.aG,cO m x.aB⟩,by simp only;rw[List.getElem?_set_self I],rfl,rfl⟩
    ·exact⟨z,by simp only;rw[List.getElem?_set_ne e];exact a,rfl,rfl⟩⟩
   have s:∀(j:Nat),∀d∈(w.a7.set c.toNat ⟨x.name,x.aQ,x.aG,cO m x.aB⟩).take j,∃D∈w.a7.take j,D.name=d.name:=fun j d hd=>by
    obtain⟨i,hi⟩:=Qv.1 hd;rw[Qs] at hi;split at hi
    ·rename_i K;obtain⟨z,a,L,_⟩:=aH i d hi
     exact⟨z,Qv.2 ⟨i,by rw[Qs,RA K];exact a⟩,L.symm⟩
    ·cases hi
   have R:=zp (w:=⟨w.a7.set c.toNat ⟨x.name,x.aQ,x.aG,cO m x.aB⟩,w.heap,wr (w.aC+1)⟩) Q (by simp only[Qa];exact W) (by simp only;rw[u];have:=l.aC;omega) (fun j y k=>by
    obtain⟨z,a,e1,E,F,_⟩:=aH j y k
    obtain⟨g1,t,p,G,H⟩:=l.cls j z a;refine⟨by rw[e1];exact g1,fun d hd=>?_,fun g=>?_,fun g=>by rw[E];exact G g,by rw[F];exact H⟩
    ·obtain⟨D,M,O⟩:=s j d hd;rw[e1,<-O];exact t D M
    ·obtain⟨ff,M,O,Z,q4⟩:=p g;exact⟨ff,M,by rw[e1];exact O,by rw[E];exact Z,by rw[F];exact q4⟩) (fun j y k=>by
    have g:=(OR.1 k).1;simp only[Qa] at g;obtain⟨z,a,e1,E,F,b⟩:=aH j y k
    obtain⟨g1,t,p,_⟩:=l.ak j z a;have B:∀q∈z.aB,pR j q\/∃f,aj N ⟨w.a7.set c.toNat ⟨x.name,x.aQ,x.aG,cO m x.aB⟩,w.heap,wr (w.aC+1)⟩ (j:Int) q=some f/\f.err=0:=fun q n=>by
     rcases l.xC Q Y a n with h|⟨f,S,T⟩
     ·exact .inl h
     ·exact .inr (wX (r.aG g) r.len S T)
    rcases b with⟨rfl,rfl,b⟩|b
    ·have hl:=d68 (m:=m) p;refine⟨by rw[r.aG g];exact g1,?_,by rw[b];exact EX p,fun q n=>?_⟩
     ·rw[b];by_cases q:(V3 m.name z.aB).isSome=true
      ·rw[hl.2 q];exact t
      ·have:¬8<=z.aB.length:=fun U=>P ⟨by simpa using q,U⟩;omega
     ·rw[b] at n;rcases za n with rfl|n
      ·right;rw[Int.toNat_of_nonneg C];have:=r.aG g;rw[Int.toNat_of_nonneg C] at this;exact wX this r.len V J
      ·exact B q n
    ·exact⟨by rw[r.aG g];exact g1,by rw[b];exact t,by rw[b];exact p,fun q n=>B q (by rw[<-b];exact n)⟩) fun o X=>by
    obtain⟨g1,t,p,G,H⟩:=l.obj o X;obtain⟨oi,v⟩:=Int.eq_ofNat_of_zero_le g1;exact⟨g1,t,by simp only[Qa];exact p,by rw[v,r.aG d9,<-v];exact G,H⟩
   exact⟨R.1,R.2,u⟩
 ·rw[R1 C] at h;cases h
def DY : ∀(u:Nat) (b:UInt8),b∈Lib.decDigits u->48<=b.toNat/\b.toNat<=57:=by
 intro u
 induction u using Nat.strongRecOn with
 |_ u ih =>
  intro b a;have one:∀d:Nat,d<10->(UInt8.ofNat (48+d)).toNat=48+d:=fun d hd=>F5;rw[Lib.decDigits] at a;split at a
  ·simp only[Qf] at a;subst a;rw[one u (by assumption)];omega
  ·rcases QS.1 a with a|a
   ·exact ih (u / 10) d9 b a
   ·simp only[Qf] at a;subst a;rw[one (u % 10) d9];omega
def yo(u:Nat):Lib.decDigits u≠[]:=by
 rw[Lib.decDigits];split<;>simp
def Iq : ∀(u:Nat),u<18446744073709551616->∀r,Lib.parseUint10 0 (Lib.decDigits u++r)=Lib.parseUint10 u r:=by
 intro u
 induction u using Nat.strongRecOn with
 |_ u ih =>
  intro a r;have one:∀d:Nat,d<10->(UInt8.ofNat (48+d)).toNat=48+d:=fun d hd=>F5;rw[Lib.decDigits];split
  ·rename_i h;simp only[List.cons_append,Qd,Lib.parseUint10,one u h];rw[RA d9,R1 d9,R1 d9];congr 1;omega
  ·rename_i h;rw[QR,ih (u / 10) d9 d9];simp only[List.cons_append,Qd,Lib.parseUint10,one (u % 10) d9];rw[RA d9,R1 d9,R1 d9];congr 1;omega
def Bf{u:Nat}(a:u<18446744073709551616):Lib.parseMag (Lib.decDigits u)=.ok u:=by
 unfold Lib.parseMag;rw[R1 (yo u)];have:=Iq u a [];simpa[Lib.parseUint10] using this
def MG{n:Int}(d:H8 n):Lib.atoiAll (Lib.itoa n)=.ok n:=by
 unfold H8 at d;unfold Lib.itoa;split
 ·rw[Lib.atoiAll_minus,Bf d9];simp only[Lib.signed];rw[R1 d9];congr 1;omega
 ·have a:=Bf (u:=n.toNat) d9;have b:=DY n.toNat;cases hd:Lib.decDigits n.toNat with
  |nil=>exact absurd hd (yo _)
  |cons c r =>
   have e:=b c (by rw[hd];simp);rw[hd] at a;rw[Lib.atoiAll_plain c r d9 d9,a];simp only[Lib.signless];rw[R1 d9];congr 1;omega
def Ei(n:Int):Lib.itoa n≠[]/\(32:UInt8) ∉ Lib.itoa n:=by
 have key:∀u:Nat,(32:UInt8) ∉ Lib.decDigits u:=fun u h=>by
  have:=DY u 32 h;have e:(32:UInt8).toNat=32:=rfl;omega
 unfold Lib.itoa;split
 ·refine⟨l9,fun h=>?_⟩;rcases QG.1 h with h|h
  ·cases h
  ·exact key _ h
 ·exact⟨yo _,key _⟩
abbrev BL := List UInt8
def bp(s:ByteArray):BL:=s.data.toList++[32]
def dS(n:Int):BL:=Lib.itoa n++[32]
def bo(l:List Int):BL:=(l.map dS).flatten
def da(i:Ins):BL:=bo [i.op,i.a]++(if i.op=14 then bp i.name else[])
def dd(m:Me):BL:=bp m.name++(bo [m.args,m.a8,m.aS,(m.code.length:Int)]++(m.code.map da).flatten)
def e8(c:Cl):BL:=bp c.name++(bo [c.aQ,c.aG,(c.aB.length:Int)]++(c.aB.map dd).flatten)
def vT(v:V):BL:=bo [v.k,v.n]
def eD(o:Ob):BL:=bo [o.cls,(o.aG.length:Int)]++(o.aG.map vT).flatten
def cv(w:Wd):BL:=bo [w.aC,(w.a7.length:Int)]++((w.a7.map e8).flatten++(bo [(w.heap.length:Int)]++(w.heap.map eD).flatten))
def U(t:BL):List Int:=t.map fun b=>(b.toNat:Int)
def kx(a b:BL):U (a++b)=U a++U b:=by simp[U]
def gO(t:BL):(U t).length=t.length:=by simp[U]
def Gl(t:BL):(strOfNums (U t)).data.toList=t:=by
 rw[strOfNums_data,U,List.map_map];have:((fun n:Int=>UInt8.ofNat n.toNat)∘fun b:UInt8=>(b.toNat:Int))=id:=by
  funext b;simp
 rw[this,List.map_id]
theorem zm(s:ByteArray):eJ s=U s.data.toList:=rfl
def mW{a b:ByteArray}(h:a.data.toList=b.data.toList):a=b:=by
 apply ByteArray.ext;exact Array.toList_inj.1 h
def iJ(s:ByteArray):s.data.toList.length=s.size:=by rw[Array.length_toList];rfl
def NU{n:Int}(a:H8 n):(dS n).length<=22:=by
 have:=Lib.itoa_length_le n a.1 a.2;simp only[dS,Of,Qq];omega
def wH(N:Nat)(a:List Int)(s:ByteArray)(h:a.length+(bp s).length<=140737488355328):oA N a s=some (a++U (bp s)):=by
 have b:=iJ s;have hl:(eJ s).length=s.size:=by rw[zm,gO,b]
 simp only[bp,Of,Qq,b] at h;unfold oA xt xu;rw[Qx (show a.length+s.size<=140737488355328 by omega)];simp only[Qz,A0];rw[Qx (show((a++eJ s).length+[(32:Int)].length)*1<=140737488355328 by simp only[Of,hl,Qq];omega)];simp only[Qz,A0,bp,kx,zm];rw[QR];rfl
def Fy(N:Nat):∀(l:List Int) (k:Nat) (a:List Int),a.length+(bo l).length<=140737488355328->lY N l k a=some (a++U (bo l))
 |[],k,a,_=>by simp[lY,bo,U]
 |n::l,k,a,h=>by
  have e:bo (n::l)=dS n++bo l:=by simp[bo]
  rw[e,Of] at h;have b:bp ⟨(Lib.itoa n).toArray⟩=dS n:=rfl;rw[lY];simp only[strconv_Itoa,A0];rw[wH N a _ (by rw[b];omega),b];simp only[A0];rw[Fy N l (k+1) _ (by rw[Of,gO];omega),e,kx,QR]
def p5(N:Nat)(a l:List Int)(h:a.length+(bo l).length<=140737488355328):Z6 N a l=some (a++U (bo l)):=by
 unfold Z6;rw[Fy N l 0 a h];rfl
def qu{b:Type}(tx:b->BL)(L:List b->Nat->List Int->Option (List Int))(c:∀k a,L [] k a=some a)(d:∀x l k a,a.length+(tx x).length<=140737488355328->L (x::l) k a=L l (k+1) (a++U (tx x))):∀(l:List b) (k:Nat) (a:List Int),a.length+(l.map tx).flatten.length<=140737488355328->L l k a=some (a++U (l.map tx).flatten)
 |[],k,a,_=>by simp[c,U]
 |x::l,k,a,h=>by
  simp only[QO,List.flatten_cons,Of] at h;rw[d x l k a d9,qu tx L c d l (k+1) _ (by rw[Of,gO];omega),QO,List.flatten_cons,kx,QR]
def d41(N:Nat):∀(l:List Ins) (k:Nat) (a:List Int),a.length+(l.map da).flatten.length<=140737488355328->V6 N l k a=some (a++U (l.map da).flatten) :=
 qu da (V6 N) (fun k a=>rfl) fun i l k a h=>by
  simp only[da,Of] at h;rw[V6,p5 N a _ d9];simp only[A0];by_cases b:i.op=14
  ·rw[RA b] at h;simp only[b,RB,Qz];rw[wH N _ _ (by rw[Of,gO];rw[b] at h;omega)];simp only[A0,da,b,if_true,kx,QR]
  ·simp only[b,RC,R0,A0,da,if_false,kx,U,List.map_nil,List.append_nil]
def LX(N:Nat)(a:List Int)(m:Me)(h:a.length+(dd m).length<=140737488355328):um N a m=some (a++U (dd m)):=by
 simp only[dd,Of] at h;unfold um;rw[wH N a _ d9];simp only[A0];rw[p5 N _ _ (by rw[Of,gO];omega)];simp only[A0];rw[d41 N m.code 0 _ (by simp only[Of,gO];omega)];simp only[A0,dd,kx,QR]
def Km(N:Nat):∀(l:List Me) (k:Nat) (a:List Int),a.length+(l.map dd).flatten.length<=140737488355328->mF N l k a=some (a++U (l.map dd).flatten) :=
 qu dd (mF N) (fun k a=>rfl) fun m l k a h=>by
  rw[mF,LX N a m h];rfl
def Kx(N:Nat):∀(l:List Cl) (k:Nat) (a:List Int),a.length+(l.map e8).flatten.length<=140737488355328->mE N l k a=some (a++U (l.map e8).flatten) :=
 qu e8 (mE N) (fun k a=>rfl) fun c l k a h=>by
  simp only[e8,Of] at h;rw[mE,wH N a _ d9];simp only[A0];rw[p5 N _ _ (by rw[Of,gO];omega)];simp only[A0];rw[Km N c.aB 0 _ (by simp only[Of,gO];omega)];simp only[A0,e8,kx,QR]
def Ku(N:Nat):∀(l:List V) (k:Nat) (a:List Int),a.length+(l.map vT).flatten.length<=140737488355328->mC N l k a=some (a++U (l.map vT).flatten) :=
 qu vT (mC N) (fun k a=>rfl) fun v l k a h=>by
  rw[mC,p5 N a _ h];rfl
def Kl(N:Nat):∀(l:List Ob) (k:Nat) (a:List Int),a.length+(l.map eD).flatten.length<=140737488355328->lz N l k a=some (a++U (l.map eD).flatten) :=
 qu eD (lz N) (fun k a=>rfl) fun o l k a h=>by
  simp only[eD,Of] at h;rw[lz,p5 N a _ d9];simp only[A0];rw[Ku N o.aG 0 _ (by rw[Of,gO];omega)];simp only[A0,eD,kx,QR]
def GR(w:Wd):cv w≠[]:=by
 intro h;have:=congrArg List.length h;simp only[cv,bo,QO,List.flatten_cons,dS,Of,Qq,Qh] at this;omega
def Mf(N:Nat)(w:Wd)(h:(cv w).length<=140737488355328):tN N w=some (U (cv w)):=by
 have b:=GR w;simp only[cv,Of] at h;unfold tN;rw[p5 N [] _ (by simp only[Qh];omega)];simp only[A0,Qd];rw[Kx N w.a7 0 _ (by rw[gO];omega)];simp only[A0];rw[p5 N _ _ (by simp only[Of,gO];omega)];simp only[A0];rw[Kl N w.heap 0 _ (by simp only[Of,gO];omega)];have e:U (bo [w.aC,(w.a7.length:Int)])++U (w.a7.map e8).flatten++U (bo [(w.heap.length:Int)])++U (w.heap.map eD).flatten=U (cv w):=by
  simp only[cv,kx,QR]
 simp only[A0,e];have c:(U (cv w)).isEmpty=false:=by
  cases d:cv w with
  |nil=>exact absurd d b
  |cons a l=>rfl
 rw[c];simp only[QJ,Qz,zm,Gl]
def iP : BL->Option (BL×BL)
 |[]=>none
 |b::r=>if b=32 then some ([],r) else(iP r).map fun p=>(b::p.1,p.2)
def index_one(t:BL):(iP t=none/\Lib.index t [32]=-1)\/∃w r,iP t=some (w,r)/\Lib.index t [32]=(w.length:Int)/\t=w++32::r/\(32:UInt8) ∉ w:=by
 induction t with
 |nil=>exact .inl ⟨rfl,rfl⟩
 |cons b t ih =>
  by_cases a:b=32
  ·subst a;exact .inr ⟨[],t,by simp[iP],by simp[Lib.index],rfl,l9⟩
  ·have g:([32]:BL).isPrefixOf (b::t)=false:=by simp[List.isPrefixOf];exact fun e=>a e.symm
   rcases ih with⟨c,d⟩|⟨w,r,c,d,h,i⟩
   ·exact .inl ⟨by simp[iP,a,c],by simp[Lib.index,g,d]⟩
   ·refine .inr ⟨b::w,r,by simp[iP,a,c],?_,by rw[h];rfl,by simp[i,Ne.symm a]⟩;have f:¬((w.length:Int) == -1)=true:=l9;simp only[Lib.index,g,d,QI];rw[R1 l9,R1 f];omega
def Ed{t w r:BL}(h:iP t=some (w,r)):t=w++32::r/\(32:UInt8) ∉ w:=by
 rcases index_one t with⟨a,_⟩|⟨w',d,a,_,b,c⟩
 ·rw[a] at h;cases h
 ·rw[a] at h;cases h;exact⟨b,c⟩
def Md{w:BL}(r:BL)(h:(32:UInt8) ∉ w):iP (w++32::r)=some (w,r):=by
 induction w with
 |nil=>simp[iP]
 |cons b w ih =>
  have a:b≠32:=fun e=>h (by simp[e]);simp[iP,a,ih (fun e=>h (by simp[e]))]
def OT(t:BL):Lib.cut t [32]=match iP t with
  |some (w,r)=>(w,r,true)
  |none=>(t,[],false):=by
 unfold Lib.cut;rcases index_one t with⟨a,b⟩|⟨w,r,a,b,c,d⟩
 ·rw[a,b];rfl
 ·rw[a,b,RA d9];simp only[Qc,Qq];subst c;simp
def pw(t:BL):Option (ByteArray×BL):=match iP t with
 |some (w,r)=>if w=[] then none else some (⟨w.toArray⟩,r)
 |none=>none
def iC(s:ByteArray):Prop:=s.data.toList≠[]/\(32:UInt8) ∉ s.data.toList
def wK{t:BL}{s:ByteArray}{r:BL}(h:pw t=some (s,r)):t=bp s++r/\iC s:=by
 unfold pw at h;split at h
 ·rename_i w e c;split at h
  ·cases h
  ·rename_i d;cases h;obtain⟨a,b⟩:=Ed c;exact⟨by rw[a];simp[bp],d,b⟩
 ·cases h
def u5{s:ByteArray}(r:BL)(h:iC s):pw (bp s++r)=some (s,r):=by
 have e:bp s++r=s.data.toList++32::r:=by simp[bp]
 unfold pw;rw[e,Md r h.2];simp only[h.1,if_false]
def pn(t:BL):Option (Int×BL):=(pw t).bind fun p=>match Lib.atoiAll p.1.data.toList with
 |.ok n=>if Lib.itoa n=p.1.data.toList then some (n,p.2) else none
 |_=>none
def ia{t:BL}{n:Int}{r:BL}(h:pn t=some (n,r)):t=dS n++r/\H8 n:=by
 unfold pn at h;cases a:pw t with
 |none=>rw[a] at h;cases h
 |some p =>
  rw[a] at h;simp only[A0] at h;split at h
  ·rename_i m c;split at h
   ·rename_i b;cases h;have:=(wK (s:=p.1) (r:=p.2) a).1;exact⟨by rw[this,bp,<-b];rfl,Lib.atoiAll_bounds c⟩
   ·cases h
  ·cases h
def iu{n:Int}(r:BL)(h:H8 n):pn (dS n++r)=some (n,r):=by
 have a:iC ⟨(Lib.itoa n).toArray⟩:=Ei n;have e:dS n=bp ⟨(Lib.itoa n).toArray⟩:=rfl;unfold pn;rw[e,u5 r a];simp only[A0];rw[MG h];simp
def pc(a:Int)(t:BL):Option (Int×BL):=(pn t).bind fun p=>if p.1<0\/a<p.1 then none else some p
def cn{a:Type}(p:BL->Option (a×BL)):Nat->BL->Option (List a×BL)
 |0,t=>some ([],t)
 |n+1,t=>(p t).bind fun x=>(cn p n x.2).bind fun l=>some (x.1::l.1,l.2)
def mo(t:BL):Option (Ins×BL):=(pn t).bind fun a=>(pn a.2).bind fun b=>if a.1=14 then(pw b.2).bind fun s=>some (⟨a.1,b.1,0,0,s.1⟩,s.2) else some (⟨a.1,b.1,0,0,IS⟩,b.2)
def nT(t:BL):Option (Me×BL):=(pw t).bind fun s=>(pn s.2).bind fun a=>(pn a.2).bind fun b=>(pn b.2).bind fun c=>(pc 60 c.2).bind fun n=>(cn mo n.1.toNat n.2).bind fun l=>some (⟨s.1,a.1,b.1,c.1,l.1⟩,l.2)
def nS(t:BL):Option (Cl×BL):=(pw t).bind fun s=>(pn s.2).bind fun a=>(pn a.2).bind fun b=>(pc 8 b.2).bind fun n=>(cn nT n.1.toNat n.2).bind fun l=>some (⟨s.1,a.1,b.1,l.1⟩,l.2)
def pV(t:BL):Option (V×BL):=(pn t).bind fun a=>(pn a.2).bind fun b=>some (⟨a.1,b.1⟩,b.2)
def nU(t:BL):Option (Ob×BL):=(pn t).bind fun a=>(pc 6 a.2).bind fun n=>(cn pV n.1.toNat n.2).bind fun l=>some (⟨a.1,l.1⟩,l.2)
def kU(t:BL):Option (Wd×BL):=(pn t).bind fun e=>(pc 12 e.2).bind fun n=>(cn nS n.1.toNat n.2).bind fun l=>(pc 60 l.2).bind fun m=>(cn nU m.1.toNat m.2).bind fun h=>some (⟨l.1,h.1,e.1⟩,h.2)
structure J8{α:Type}(tx:α->BL)(p:BL->Option (α×BL))(W:α->Prop):Prop where
 there:∀x r,W x->p (tx x++r)=some (x,r)
 back:∀t x r,p t=some (x,r)->t=tx x++r/\W x
def J8.count(a:Int):J8 dS (pc a) fun n=>H8 n/\0<=n/\n<=a:=by
 refine⟨fun n r h=>?_,fun t n r h=>?_⟩
 ·unfold pc;rw[iu r h.1];simp only[A0];rw[R1 d9]
 ·unfold pc at h;cases b:pn t with
  |none=>rw[b] at h;cases h
  |some p =>
   rw[b] at h;simp only[A0] at h;split at h
   ·cases h
   ·cases h;obtain⟨c,d⟩:=ia b;exact⟨c,d,d9,d9⟩
def J8.rep{b:Type}{tx:b->BL}{p:BL->Option (b×BL)}{W:b->Prop}(h:J8 tx p W):∀n:Nat,J8 (fun l=>(l.map tx).flatten) (cn p n) fun l=>l.length=n/\∀x∈l,W x
 |0=>⟨fun l r hl=>by
   have:l=[]:=Qj hl.1;subst this;rfl,fun t l r hl=>by cases hl;exact⟨rfl,rfl,l9⟩⟩
 |n+1=>by
  have ih:=J8.rep h n;refine⟨fun l r hl=>?_,fun t l r hl=>?_⟩
  ·cases l with
   |nil=>simp at hl
   |cons x l =>
    simp only[QO,List.flatten_cons,QR,cn];rw[h.there x _ (hl.2 x l9)];simp only[A0];rw[ih.there l r ⟨by simpa using hl.1,fun y a=>hl.2 y (by simp[a])⟩];rfl
  ·simp only[cn,Option.bind_eq_some_iff] at hl;obtain⟨x,k,m,j,e⟩:=hl;cases e;obtain⟨c,d⟩:=h.back t x.1 x.2 k;obtain⟨f,g,i⟩:=ih.back x.2 m.1 m.2 j;refine⟨by rw[c,f];simp,by simp[g],fun y a=>?_⟩;rcases QG.1 a with rfl|a
   ·exact d
   ·exact i y a
def d12(i:Ins):Prop:=H8 i.op/\H8 i.a/\i.b=0/\i.c=0/\(i.op=14->iC i.name)/\(i.op≠14->i.name=IS)
def d62(m:Me):Prop:=iC m.name/\H8 m.args/\H8 m.a8/\H8 m.aS/\m.code.length<=60/\∀i∈m.code,d12 i
def xT(c:Cl):Prop:=iC c.name/\H8 c.aQ/\H8 c.aG/\c.aB.length<=8/\∀m∈c.aB,d62 m
def Ba(v:V):Prop:=H8 v.k/\H8 v.n
def Ar(o:Ob):Prop:=H8 o.cls/\o.aG.length<=6/\∀v∈o.aG,Ba v
def pY(w:Wd):Prop:=H8 w.aC/\w.a7.length<=12/\w.heap.length<=60/\(∀c∈w.a7,xT c)/\∀o∈w.heap,Ar o
def kr(a b:Int):bo [a,b]=dS a++dS b:=by simp[bo]
def Gj(a b c:Int):bo [a,b,c]=dS a++(dS b++dS c):=by simp[bo]
def Gf(a b c d:Int):bo [a,b,c,d]=dS a++(dS b++(dS c++dS d)):=by simp[bo]
def Ep(a:Int):bo [a]=dS a:=by simp[bo]
def tq{n:Nat}{m:Int}(h:(n:Int)<=m)(a:m<=1000):H8 (n:Int)/\(0:Int)<=(n:Int)/\(n:Int)<=m:=ino
def J8.ins : J8 da mo d12:=by
 refine⟨fun i r h=>?_,fun t i r h=>?_⟩
 ·obtain⟨l,m,o,p,q,u⟩:=h;obtain⟨op,a,b,c,nm⟩:=i;simp only at l m o p q u;subst o p;unfold da mo;simp only[kr,QR];rw[iu _ l];simp only[A0];rw[iu _ m];simp only[A0];by_cases d:op=14
  ·subst d;simp only[if_true];rw[u5 r (q rfl)];rfl
  ·simp only[d,if_false,u d,Qd]
 ·unfold mo at h;simp only[Option.bind_eq_some_iff] at h;obtain⟨a,v,b,w,h⟩:=h;obtain⟨f,g⟩:=ia (n:=a.1) (r:=a.2) v;obtain⟨j,k⟩:=ia (n:=b.1) (r:=b.2) w;split at h
  ·rename_i d;simp only[Option.bind_eq_some_iff] at h;obtain⟨s,x,e⟩:=h;cases e;obtain⟨s1,y⟩:=wK (s:=s.1) (r:=s.2) x;refine⟨?_,g,k,rfl,rfl,fun _=>y,fun h=>absurd d h⟩;rw[f,j,s1];simp only[da,kr,d,if_true,QR]
  ·rename_i d;cases h;refine⟨?_,g,k,rfl,rfl,fun h=>absurd h d,fun _=>rfl⟩;rw[f,j];simp only[da,kr,d,if_false,QR,Qd]
def J8.me : J8 dd nT d62:=by
 refine⟨fun m r h=>?_,fun t m r h=>?_⟩
 ·obtain⟨o,p,q,u,F,v⟩:=h;unfold dd nT;simp only[Gf,QR];rw[u5 _ o];simp only[A0];rw[iu _ p];simp only[A0];rw[iu _ q];simp only[A0];rw[iu _ u];simp only[A0];rw[(J8.count 60).there _ _ (tq d9 G7)];simp only[A0,Qc];rw[(J8.rep J8.ins m.code.length).there m.code r ⟨rfl,v⟩];rfl
 ·unfold nT at h;simp only[Option.bind_eq_some_iff] at h;obtain⟨s,A,a,w,b,x,c,y,n,z,l,hl,e⟩:=h;cases e;obtain⟨s1,E⟩:=wK (s:=s.1) (r:=s.2) A;obtain⟨d,f⟩:=ia (n:=a.1) (r:=a.2) w;obtain⟨g,i⟩:=ia (n:=b.1) (r:=b.2) x;obtain⟨j,k⟩:=ia (n:=c.1) (r:=c.2) y;obtain⟨D,G,H,I⟩:=(J8.count 60).back _ n.1 n.2 z;obtain⟨B,l2,C⟩:=(J8.rep J8.ins n.1.toNat).back _ l.1 l.2 hl;refine⟨?_,E,f,i,k,by show l.1.length<=60;omega,C⟩;have e:((l.1.length:Nat):Int)=n.1:=d9;simp only[dd,Gf,e,QR];rw[s1,d,g,j,D,B]
def J8.cl : J8 e8 nS xT:=by
 refine⟨fun m r h=>?_,fun t m r h=>?_⟩
 ·obtain⟨i,j,k,A,o⟩:=h;unfold e8 nS;simp only[Gj,QR];rw[u5 _ i];simp only[A0];rw[iu _ j];simp only[A0];rw[iu _ k];simp only[A0];rw[(J8.count 8).there _ _ (tq d9 G7)];simp only[A0,Qc];rw[(J8.rep J8.me m.aB.length).there m.aB r ⟨rfl,o⟩];rfl
 ·unfold nS at h;simp only[Option.bind_eq_some_iff] at h;obtain⟨s,v,a,p,b,q,n,u,l,hl,e⟩:=h;cases e;obtain⟨s1,z⟩:=wK (s:=s.1) (r:=s.2) v;obtain⟨c,d⟩:=ia (n:=a.1) (r:=a.2) p;obtain⟨f,g⟩:=ia (n:=b.1) (r:=b.2) q;obtain⟨y,B,C,D⟩:=(J8.count 8).back _ n.1 n.2 u;obtain⟨w,l2,x⟩:=(J8.rep J8.me n.1.toNat).back _ l.1 l.2 hl;refine⟨?_,z,d,g,by show l.1.length<=8;omega,x⟩;have e:((l.1.length:Nat):Int)=n.1:=d9;simp only[e8,Gj,e,QR];rw[s1,c,f,y,w]
def J8.v : J8 vT pV Ba:=by
 refine⟨fun v r h=>?_,fun t v r h=>?_⟩
 ·unfold vT pV;simp only[kr,QR];rw[iu _ h.1];simp only[A0];rw[iu _ h.2];rfl
 ·unfold pV at h;simp only[Option.bind_eq_some_iff] at h;obtain⟨a,i,b,j,e⟩:=h;cases e;obtain⟨c,d⟩:=ia (n:=a.1) (r:=a.2) i;obtain⟨f,g⟩:=ia (n:=b.1) (r:=b.2) j;refine⟨?_,d,g⟩;simp only[vT,kr,QR];rw[c,f]
def J8.ob : J8 eD nU Ar:=by
 refine⟨fun m r h=>?_,fun t m r h=>?_⟩
 ·obtain⟨d,p,f⟩:=h;unfold eD nU;simp only[kr,QR];rw[iu _ d];simp only[A0];rw[(J8.count 6).there _ _ (tq d9 G7)];simp only[A0,Qc];rw[(J8.rep J8.v m.aG.length).there m.aG r ⟨rfl,f⟩];rfl
 ·unfold nU at h;simp only[Option.bind_eq_some_iff] at h;obtain⟨a,g,n,i,l,hl,e⟩:=h;cases e;obtain⟨b,c⟩:=ia (n:=a.1) (r:=a.2) g;obtain⟨o,q,s,u⟩:=(J8.count 6).back _ n.1 n.2 i;obtain⟨j,l2,k⟩:=(J8.rep J8.v n.1.toNat).back _ l.1 l.2 hl;refine⟨?_,c,by show l.1.length<=6;omega,k⟩;have e:((l.1.length:Nat):Int)=n.1:=d9;simp only[eD,kr,e,QR];rw[b,o,j]
def J8.wo : J8 cv kU pY:=by
 refine⟨fun m r h=>?_,fun t m r h=>?_⟩
 ·obtain⟨f,A,B,g,i⟩:=h;unfold cv kU;simp only[kr,Ep,QR];rw[iu _ f];simp only[A0];rw[(J8.count 12).there _ _ (tq d9 G7)];simp only[A0,Qc];rw[(J8.rep J8.cl m.a7.length).there m.a7 _ ⟨rfl,g⟩];simp only[A0];rw[(J8.count 60).there _ _ (tq d9 G7)];simp only[A0,Qc];rw[(J8.rep J8.ob m.heap.length).there m.heap r ⟨rfl,i⟩];rfl
 ·unfold kU at h;simp only[Option.bind_eq_some_iff] at h;obtain⟨a,j,n,q,l,hl,k,p,o,s,e⟩:=h;cases e;obtain⟨b,c⟩:=ia (n:=a.1) (r:=a.2) j;obtain⟨x,F,G,H⟩:=(J8.count 12).back _ n.1 n.2 q;obtain⟨v,l2,w⟩:=(J8.rep J8.cl n.1.toNat).back _ l.1 l.2 hl;obtain⟨u,C,D,E⟩:=(J8.count 60).back _ k.1 k.2 p;obtain⟨y,I,z⟩:=(J8.rep J8.ob k.1.toNat).back _ o.1 o.2 s;refine⟨?_,c,by show l.1.length<=12;omega,by show o.1.length<=60;omega,w,z⟩;have e:((l.1.length:Nat):Int)=n.1:=d9;have d:((o.1.length:Nat):Int)=k.1:=d9;simp only[cv,kr,Ep,e,d,QR];rw[b,x,v,u,y]
def G9{α:Type}(f:F3->Option (α×F3))(p:BL->Option (α×BL))(A:α->Prop):Prop :=
 ∀r:F3,r.s.size<4294967281->∃a b,f r=some (a,b)/\A a/\b.s.size<=r.s.size/\(r.fA=false->b.fA=false) /\
  (r.fA=true->match p r.s.data.toList with
   |some (x,t)=>a=x/\b.fA=true/\b.s.data.toList=t
   |none=>b.fA=false)
section
variable {α β:Type}
def G9.pure{a:α}{A:α->Prop}(h:A a):G9 (fun r=>some (a,r)) (fun t=>some (a,t)) A :=
 fun r _=>⟨a,r,rfl,h,NO _,fun h=>h,fun h=>⟨rfl,h,rfl⟩⟩
def G9.bind{f:F3->Option (α×F3)}{p:BL->Option (α×BL)}{A:α->Prop}(o:G9 f p A){k:α×F3->Option (β×F3)}{q:α×BL->Option (β×BL)}{B:β->Prop}(u:∀a,A a->G9 (fun r=>k (a,r)) (fun t=>q (a,t)) B):G9 (fun r=>(f r).bind k) (fun t=>(p t).bind q) B:=by
 intro r v;obtain⟨a,w,j,l,C,m,c⟩:=o r v;obtain⟨b,y,g1,g,z,d,i⟩:=u a l w d9;refine⟨b,y,by simp only[j,A0,g1],g,d9,fun h=>d (m h),fun h=>?_⟩;have c:=c h;dsimp only;cases e:p r.s.data.toList with
 |none =>
  rw[e] at c;exact d c
 |some x =>
  rw[e] at c;obtain⟨x,t⟩:=x;obtain⟨rfl,n,rfl⟩:=c;exact i n
def G9.bq{L:F3->Option (F3×α)}{p:BL->Option (α×BL)}{A:α->Prop}(e:G9 (fun r=>(L r).map fun y=>(y.2,y.1)) p A){k:F3×α->Option (β×F3)}{q:α×BL->Option (β×BL)}{B:β->Prop}(f:∀a,A a->G9 (fun r=>k (r,a)) (fun t=>q (a,t)) B):G9 (fun r=>(L r).bind k) (fun t=>(p t).bind q) B:=by
 have:=G9.bind e (k:=fun y=>k (y.2,y.1)) f;intro r h;obtain⟨b,c,g1,g⟩:=this r h;refine⟨b,c,?_,g⟩;have d:((L r).map fun y=>(y.2,y.1)).bind (fun y=>k (y.2,y.1))=some (b,c):=g1;show(L r).bind k=some (b,c);rw[<-d];cases L r<;>rfl
def G9.loop{p:BL->Option (α×BL)}{step:F3->Option (α×F3)}(o:G9 step p fun _=>True){L:Nat->Nat->F3->List α->Option (F3×List α)}(m:∀k r l,L 0 k r l=some (r,l))(q:∀n k r l,l.length<=1000->L (n+1) k r l=(step r).bind fun y=>L n (k+1) y.2 (l++[y.1])):
  ∀(n k:Nat) (l:List α),l.length+n<=1000->G9 (fun r=>(L n k r l).map fun y=>(y.2,y.1)) (fun t=>(cn p n t).map fun y=>(l++y.1,y.2)) fun _=>True
 |0,k,l,_=>fun r e=>⟨l,r,by simp[m],trivial,NO _,fun h=>h,fun h=>by simp[cn,h]⟩
 |n+1,k,l,hl=>by
  intro r e;obtain⟨a,g,u,B,C,v,d⟩:=o r e;obtain⟨b,i,g1,z,A,j,c⟩:=G9.loop o m q n (k+1) (l++[a]) F5 g d9;have g1:(L n (k+1) g (l++[a])).map (fun y=>(y.2,y.1))=some (b,i):=g1;refine⟨b,i,?_,trivial,d9,fun h=>j (v h),fun h=>?_⟩
  ·show(L (n+1) k r l).map (fun y=>(y.2,y.1))=some (b,i);rw[q n k r l d9,u,<-g1];rfl
  have d:=d h;dsimp only;cases f:p r.s.data.toList with
  |none =>
   rw[f] at d;simp only[cn,f,Option.bind_none,Option.map_none];exact j d
  |some x =>
   rw[f] at d;obtain⟨x,t⟩:=x;obtain⟨rfl,w,rfl⟩:=d;have c:=c w;dsimp only at c;simp only[cn,f,A0];cases e:cn p n g.s.data.toList with
   |none=>rw[e] at c;exact c
   |some y =>
    rw[e] at c;simp only[QZ,QR,List.singleton_append] at c;exact c
def G9.rep{p:BL->Option (α×BL)}{step:F3->Option (α×F3)}(c:G9 step p fun _=>True){L:Nat->Nat->F3->List α->Option (F3×List α)}(a:∀k r l,L 0 k r l=some (r,l))(d:∀n k r l,l.length<=1000->L (n+1) k r l=(step r).bind fun y=>L n (k+1) y.2 (l++[y.1]))(n:Nat)(b:n<=1000):G9 (fun r=>(L n 0 r []).map fun y=>(y.2,y.1)) (cn p n) fun _=>True:=by
 have:=G9.loop c a d n 0 [] (by simpa using b);have e:(fun t=>(cn p n t).map fun y=>(([]:List α)++y.1,y.2))=cn p n:=by
  funext t;cases cn p n t<;>rfl
 rwa [e] at this
end
def G9.word(N:Nat):G9 (U8 N) pw fun w=>w.size<4294967281:=by
 intro r i;obtain⟨s,o⟩:=r;simp only at i;have l:=iJ s;have c:=OT s.data.toList;unfold U8 strings_Cut;have d:(⟨#[32]⟩:ByteArray).data.toList=[32]:=rfl;rw[RE (show(s.size<4294967281) from i),d];simp only[Qz,A0];cases a:iP s.data.toList with
 |none =>
  rw[a] at c;rw[c];simp only[QJ,Qz,A0];refine⟨_,_,rfl,by show 0<_;omega,NO _,fun _=>rfl,fun h=>?_⟩;simp[pw,a]
 |some y =>
  obtain⟨w,t⟩:=y;rw[a] at c;obtain⟨j,k⟩:=Ed a;have hl:=congrArg List.length j;simp only[Of,QI] at hl;rw[c];simp only[IT,R0,A0];by_cases g:w=[]
  ·subst g;have:(⟨([]:BL).toArray⟩:ByteArray)=⟨#[]⟩:=rfl;rw[this];simp only[RB,Qz];refine⟨_,_,rfl,by show 0<_;omega,NO _,fun _=>rfl,fun h=>?_⟩;simp[pw,a]
  ·have f:¬(⟨w.toArray⟩:ByteArray)=⟨#[]⟩:=fun e=>g (by
    have:=congrArg (fun b:ByteArray=>b.data.toList) e;simpa using this)
   rw[RD f];simp only[R0];refine⟨_,_,rfl,?_,?_,fun h=>h,fun h=>?_⟩
   ·show w.toArray.size<_;rw[Qu];omega
   ·show t.toArray.size<=s.size;rw[Qu];omega
   ·simp[pw,a,g,h]
def G9.num(N:Nat):G9 (u7 N) pn fun _=>True:=by
 unfold u7 pn;refine G9.bind (G9.word N) fun w d=>?_;intro r c;obtain⟨s,o⟩:=r;simp only;have f:=iJ w;unfold strconv_Atoi strconv_Itoa;rw[RE (show(w.size<=281474976710656) by omega)];simp only[Qz,A0];cases b:Lib.atoiAll w.data.toList with
 |ok n =>
  simp only[IT,R0,A0];by_cases a:Lib.itoa n=w.data.toList
  ·have e:(⟨(Lib.itoa n).toArray⟩:ByteArray)=w:=mW a;rw[RE e];simp only[IT,R0,A0];exact⟨_,_,rfl,trivial,NO _,fun h=>h,fun h=>by simp[a,h]⟩
  ·have e:¬(⟨(Lib.itoa n).toArray⟩:ByteArray)=w:=fun e=>a (by rw[<-e]);rw[RD e];simp only[QJ,Qz,A0];exact⟨_,_,rfl,trivial,NO _,fun _=>rfl,fun _=>by simp[a]⟩
 |_ =>
  simp only[QJ,Qz,A0];exact⟨_,_,rfl,trivial,NO _,fun _=>rfl,fun _=>rfl⟩
def G9.count(N:Nat)(a:Int)(d:0<=a):G9 (fun r=>O3 N r a) (pc a) fun n=>0<=n/\n<=a:=by
 unfold O3 pc;refine G9.bind (G9.num N) fun n _=>?_;intro r e;obtain⟨s,o⟩:=r;simp only;by_cases b:n<0
 ·simp only[b,RB,Qz,A0];exact⟨_,_,rfl,⟨QQ _,d⟩,NO _,fun _=>rfl,fun _=>by simp[b]⟩
 ·by_cases c:a<n
  ·simp only[b,c,RB,RC,Qz,R0,A0];exact⟨_,_,rfl,⟨QQ _,d⟩,NO _,fun _=>rfl,fun _=>by simp[c]⟩
  ·simp only[b,c,RC,R0,A0];exact⟨_,_,rfl,⟨d9,d9⟩,NO _,fun h=>h,fun h=>by simp[b,c,h]⟩
def nG(a:Int):(a-((0:Nat):Int)).toNat=a.toNat:=l9
def ib{α:Type}{l:List α}{x:α}{B:Nat}(h:l.length<=1000)(a:B<=1000):AT ((l.length+[x].length)*B) 140737488355328=true:=by
 refine Qx ?_;have:(l.length+[x].length)*B<=1001*1000:=Nat.mul_le_mul (by simp only[Qq];omega) a;omega
def d14(N:Nat)(r:F3):Option (Ins×F3):=(u7 N r).bind fun a=>(u7 N a.2).bind fun b=>bif decide (a.1=14) then(U8 N b.2).bind fun s=>some (⟨a.1,b.1,0,0,s.1⟩,s.2) else some (⟨a.1,b.1,0,0,IS⟩,b.2)
def G9.ins(N:Nat):G9 (d14 N) mo fun _=>True:=by
 unfold d14 mo;refine G9.bind (G9.num N) fun a _=>?_;dsimp only;by_cases h:a=14
 ·simp only[h,RB,Qz,if_true];refine G9.bind (G9.num N) fun b _=>?_;dsimp only;exact G9.bind (G9.word N) fun s _=>by dsimp only;exact G9.pure trivial
 ·simp only[h,RC,R0,if_false];exact G9.bind (G9.num N) fun b _=>by dsimp only;exact G9.pure trivial
def JP(N:Nat)(n k:Nat)(r:F3)(l:List Ins)(hl:l.length<=1000):P9 N (n+1) k r l=(d14 N r).bind fun y=>P9 N n (k+1) y.2 (l++[y.1]):=by
 rw[P9];unfold d14;cases d:u7 N r with
 |none=>rfl
 |some a =>
  simp only[A0];cases e:u7 N a.2 with
  |none=>rfl
  |some b =>
   simp only[A0];by_cases c:a.1=14
   ·simp only[c,RB,Qz];cases f:U8 N b.2 with
    |none=>rfl
    |some s=>simp only[A0,ib hl (show 48<=1000 by decide),Qz]
   ·simp only[c,RC,R0,A0,ib hl (show 48<=1000 by decide),Qz]
def G9.me(N:Nat):G9 (qP N) nT fun _=>True:=by
 unfold qP nT;refine G9.bind (G9.word N) fun w _=>?_;dsimp only;refine G9.bind (G9.num N) fun a _=>?_;dsimp only;refine G9.bind (G9.num N) fun b _=>?_;dsimp only;refine G9.bind (G9.num N) fun c _=>?_;dsimp only;refine G9.bind (G9.count N 60 G7) fun n d=>?_;dsimp only;simp only[nG];exact G9.bq (G9.rep (G9.ins N) (L:=P9 N) (fun k r l=>rfl) (JP N) n.toNat d9) fun l _=>by dsimp only;exact G9.pure trivial
def Jw(N:Nat)(n k:Nat)(r:F3)(l:List Me)(hl:l.length<=1000):M4 N (n+1) k r l=(qP N r).bind fun y=>M4 N n (k+1) y.2 (l++[y.1]):=by
 rw[M4];cases b:qP N r with
 |none=>rfl
 |some a=>simp only[A0,ib hl (show 64<=1000 by decide),Qz]
def xO(N:Nat)(r:F3):Option (Cl×F3):=(U8 N r).bind fun s=>(u7 N s.2).bind fun a=>(u7 N a.2).bind fun b=>(O3 N b.2 8).bind fun n=>(M4 N n.1.toNat 0 n.2 []).bind fun l=>some (⟨s.1,a.1,b.1,l.2⟩,l.1)
def G9.cl(N:Nat):G9 (xO N) nS fun _=>True:=by
 unfold xO nS;refine G9.bind (G9.word N) fun w _=>?_;dsimp only;refine G9.bind (G9.num N) fun a _=>?_;dsimp only;refine G9.bind (G9.num N) fun b _=>?_;dsimp only;refine G9.bind (G9.count N 8 G7) fun n c=>?_;dsimp only;exact G9.bq (G9.rep (G9.me N) (L:=M4 N) (fun k r l=>rfl) (Jw N) n.toNat d9) fun l _=>by dsimp only;exact G9.pure trivial
def IL(N:Nat)(n k:Nat)(r:F3)(l:List Cl)(hl:l.length<=1000):R8 N (n+1) k r l=(xO N r).bind fun y=>R8 N n (k+1) y.2 (l++[y.1]):=by
 rw[R8];unfold xO;cases e:U8 N r with
 |none=>rfl
 |some s =>
  simp only[A0];cases f:u7 N s.2 with
  |none=>rfl
  |some a =>
   simp only[A0];cases g:u7 N a.2 with
   |none=>rfl
   |some b =>
    simp only[A0];cases h:O3 N b.2 8 with
    |none=>rfl
    |some c =>
     simp only[A0,nG];cases i:M4 N c.1.toNat 0 c.2 [] with
     |none=>rfl
     |some d=>simp only[A0,ib hl (show 56<=1000 by decide),Qz]
def xh(N:Nat)(r:F3):Option (V×F3):=(u7 N r).bind fun a=>(u7 N a.2).bind fun b=>some (⟨a.1,b.1⟩,b.2)
def G9.v(N:Nat):G9 (xh N) pV fun _=>True:=by
 unfold xh pV;refine G9.bind (G9.num N) fun a _=>?_;dsimp only;exact G9.bind (G9.num N) fun b _=>by dsimp only;exact G9.pure trivial
def Jv(N:Nat)(n k:Nat)(r:F3)(l:List V)(hl:l.length<=1000):M0 N (n+1) k r l=(xh N r).bind fun y=>M0 N n (k+1) y.2 (l++[y.1]):=by
 rw[M0];unfold xh;cases c:u7 N r with
 |none=>rfl
 |some a =>
  simp only[A0];cases d:u7 N a.2 with
  |none=>rfl
  |some b=>simp only[A0,ib hl (show 16<=1000 by decide),Qz]
def xW(N:Nat)(r:F3):Option (Ob×F3):=(u7 N r).bind fun a=>(O3 N a.2 6).bind fun n=>(M0 N n.1.toNat 0 n.2 []).bind fun l=>some (⟨a.1,l.2⟩,l.1)
def G9.ob(N:Nat):G9 (xW N) nU fun _=>True:=by
 unfold xW nU;refine G9.bind (G9.num N) fun a _=>?_;dsimp only;refine G9.bind (G9.count N 6 G7) fun n b=>?_;dsimp only;exact G9.bq (G9.rep (G9.v N) (L:=M0 N) (fun k r l=>rfl) (Jv N) n.toNat d9) fun l _=>by dsimp only;exact G9.pure trivial
def KI(N:Nat)(n k:Nat)(r:F3)(l:List Ob)(hl:l.length<=1000):R6 N (n+1) k r l=(xW N r).bind fun y=>R6 N n (k+1) y.2 (l++[y.1]):=by
 rw[R6];unfold xW;cases c:u7 N r with
 |none=>rfl
 |some a =>
  simp only[A0];cases e:O3 N a.2 6 with
  |none=>rfl
  |some b =>
   simp only[A0,nG];cases f:M0 N b.1.toNat 0 b.2 [] with
   |none=>rfl
   |some d=>simp only[A0,ib hl (show 32<=1000 by decide),Qz]
def G9.wo(N:Nat):G9 (uf N) kU fun _=>True:=by
 unfold uf kU;refine G9.bind (G9.num N) fun e _=>?_;dsimp only;refine G9.bind (G9.count N 12 G7) fun n b=>?_;dsimp only;simp only[nG];refine G9.bq (G9.rep (G9.cl N) (L:=R8 N) (fun k r l=>rfl) (IL N) n.toNat d9) fun l _=>?_;dsimp only;refine G9.bind (G9.count N 60 G7) fun m a=>?_;dsimp only;exact G9.bq (G9.rep (G9.ob N) (L:=R6 N) (fun k r l=>rfl) (KI N) m.toNat d9) fun l _=>by dsimp only;exact G9.pure trivial
def jd(t:BL):Option Wd:=match kU t with
 |some (w,[])=>some w
 |_=>none
def EJ{t:BL}{w:Wd}(h:jd t=some w):t=cv w/\pY w:=by
 unfold jd at h;split at h
 ·rename_i w' a;cases h;have:=J8.wo.back t w [] a;simpa using this
 ·cases h
def Nr{w:Wd}(h:pY w):jd (cv w)=some w:=by
 have:=J8.wo.there w [] h;rw[List.append_nil] at this;unfold jd;rw[this]
def Ez(N:Nat)(b:List Int)(i:b.length<4294967281):kl N b=match jd (strOfNums b).data.toList with
  |none=>some (⟨[],[],0⟩,2)
  |some w=>(tE N w).bind fun r=>bif (!decide (r=0)) then some (⟨[],[],0⟩,r) else some (w,0):=by
 unfold kl;obtain⟨w,r,g,_,_,_,c⟩:=G9.wo N ⟨strOfNums b,true⟩ (by rw[strOfNums_size];exact i);have c:=c rfl;rw[g];simp only[A0];simp only at c;unfold jd;cases f:kU (strOfNums b).data.toList with
 |none =>
  rw[f] at c;simp only[c,QJ,Qz,A0]
 |some x =>
  obtain⟨x,t⟩:=x;rw[f] at c;obtain⟨rfl,h,d⟩:=c;simp only[h,IT,R0,A0];cases t with
  |nil =>
   have:r.s=⟨#[]⟩:=mW d;simp only[this,RB,IT,R0]
  |cons a t =>
   have:¬r.s=⟨#[]⟩:=fun e=>by rw[e] at d;cases d
   simp only[this,RC,QJ,Qz]
def jb(a:List Cl)(s:ByteArray):Bool:=a.any fun d=>decide (d.name=s)
def uH(k:Nat)(c:Cl):Bool:=match N9.a7[k]? with
 |some f=>!decide (c.name=f.name)
 |none=>false
def rM(k:Nat)(c:Cl):Bool:=(match N9.a7[k]? with
 |some f=>!decide (c.aQ=f.aQ) || !decide (c.aG=0)
 |none=>decide (c.aQ<0) || (decide ((k:Int)<=c.aQ) || (!decide (c.aQ=0) && decide (c.aQ<4)))) || (decide (c.aG<0) || decide (6<c.aG))
def mr(a:List Cl)(k:Nat)(c:Cl):Int:=bif !W9 c.name || (jb a c.name || uH k c) then 7 else bif rM k c then 3 else 0
def kI(w:Wd):List Cl->Nat->M7 Int Unit
 |[],_=>.next ()
 |c::l,k=>bif decide (mr (w.a7.take k) k c=0) then kI w l (k+1) else .ret (mr (w.a7.take k) k c)
def qz(k:Nat)(m:Me):Bool:=decide (k=3) && (U3.any (fun p=>decide (p.name=m.name) && decide (p.aS=m.aS)) && (decide (m.args=1) && (decide (m.a8=0) && decide (m.code=[]))))
def pS(p:Option Me)(m:Me):Bool:=match p with
 |some q=>!V8 q.name m.name
 |none=>false
def B2(N:Nat)(w:Wd)(k:Nat)(p:Option Me)(m:Me):Option Int:=bif pS p m then some 7 else bif qz k m then some 0 else(aj N w (k:Int) m).map (·.err)
def rF(N:Nat)(w:Wd)(k:Nat)(ms:List Me):List Me->Nat->Option (M7 Int Unit)
 |[],_=>some (.next ())
 |m::l,j=>(B2 N w k (if j=0 then none else ms[j-1]?) m).bind fun e=>bif decide (e=0) then rF N w k ms l (j+1) else some (.ret e)
def mT(N:Nat)(w:Wd):List Cl->Nat->Option (M7 Int Unit)
 |[],_=>some (.next ())
 |c::l,k=>bif decide (6<l8 w (k:Int)) then some (.ret 3) else bif decide (8<(c.aB.length:Int)) then some (.ret 5) else(rF N w k c.aB c.aB 0).bind fun o=>match o with
  |.ret r=>some (.ret r)
  |.next ()=>mT N w l (k+1)
def nC(n:Int):List V->M7 Int Unit
 |[]=>.next ()
 |v::l=>bif decide (Z9 v n=0) then nC n l else .ret (Z9 v n)
def qC(w:Wd)(o:Ob):Bool:=(!decide (o.cls=0) && (decide (o.cls<4) || decide ((w.a7.length:Int)<=o.cls))) || !decide ((o.aG.length:Int)=l8 w o.cls)
def mS(w:Wd):List Ob->M7 Int Unit
 |[]=>.next ()
 |o::l=>bif qC w o then .ret 8 else match nC (w.heap.length:Int) o.aG with
  |.ret r=>.ret r
  |.next ()=>mS w l
def rD(N:Nat)(w:Wd):Option Int :=
 bif decide ((w.a7.length:Int)<4) || (decide (12<(w.a7.length:Int)) || decide (60<(w.heap.length:Int))) then some 5
 else bif decide (w.aC<0) || decide (1073741824<w.aC) then some 3
 else match kI w w.a7 0 with
  |.ret r=>some r
  |.next ()=>(mT N w w.a7 0).bind fun o=>match o with
   |.ret r=>some r
   |.next ()=>match mS w w.heap with
    |.ret r=>some r
    |.next ()=>some 0
def d52{c:Type}[DecidableEq c](x s:c):∀v:List (c×Bool),gW s (ec x true v)=(decide (x=s) || gW s v)
 |[]=>by
  by_cases h:s=x
  ·simp[ec,gW,h]
  ·simp[ec,gW,h,Ne.symm h]
 |(y,b)::l=>by
  have ih:=d52 x s l;by_cases h:x=y
  ·subst h;by_cases a:s=x
   ·simp[ec,gW,a]
   ·simp[ec,gW,a,Ne.symm a]
  ·by_cases a:s=y
   ·have:¬x=s:=fun e=>h (e.trans a);simp[ec,gW,h,a]
   ·simp only[ec,R1 h,gW,R1 a];exact ih
def Ls(a:List Cl)(c:Cl)(s:ByteArray):jb (a++[c]) s=(decide (c.name=s) || jb a s):=by
 simp only[jb,List.any_append,List.any_cons,List.any_nil,Bool.or_false];exact Bool.or_comm _ _
theorem uD : N9.a7.length=4:=rfl
def Gb{k:Nat}{f:Cl}(h:N9.a7[k]?=some f):k<4:=by
 have:=(OR.1 h).1
 rwa [uD] at this
def GJ{k:Nat}(h:N9.a7[k]?=none):4<=k:=by
 have:=List.getElem?_eq_none_iff.1 h
 rwa [uD] at this
def EW(N:Nat)(w:Wd)(r:w.a7.length<=1048576):∀(l:List Cl) (k:Nat) (v:List (ByteArray×Bool)),l=w.a7.drop k->v.length<=k->(∀s,gW s v=jb (w.a7.take k) s)->oY N N9 l k v=some (kI w l k)
 |[],k,v,_,_,_=>rfl
 |c::l,k,v,h,hv,hm=>by
  obtain⟨p,hl,i⟩:=X5 h;have i:=of_decide_eq_true i;have t:=zW p;have ih:=EW N w r l (k+1) (ec c.name true v) hl (by have:=zn c.name true v;omega) (fun s=>by rw[d52,hm,t,Ls]);rw[oY,sW,kI,uD];simp only[A0,hm,ih,Qx (show v.length+1<=140737488355328 by omega),Qz];unfold mr uH rM;cases u:W9 c.name with
  |false=>simp
  |true =>
   cases hd:jb (w.a7.take k) c.name with
   |true=>simp
   |false =>
    cases o:N9.a7[k]? with
    |some f =>
     have q:=Gb o;have e1:decide ((k:Int)<((4:Nat):Int))=true:=RE d9;have n:decide (((4:Nat):Int)<=(k:Int))=false:=RD d9;simp only[e1,n,q9,o,A0,Qz,R0,IT,Bool.false_or];by_cases b:c.name=f.name
     ·by_cases a:c.aQ=f.aQ
      ·by_cases d:c.aG=0
       ·simp[b,a,d]
       ·simp[b,a,d]
      ·simp[b,a]
     ·simp[b]
    |none =>
     have q:=GJ o;have e:¬k=0:=d9;have e1:decide ((k:Int)<((4:Nat):Int))=false:=RD d9;have n:decide (((4:Nat):Int)<=(k:Int))=true:=RE d9;simp only[e1,n,A0,Qz,R0,IT,Bool.false_or];by_cases b:c.aQ<0
     ·simp[b]
     ·by_cases a:(k:Int)<=c.aQ
      ·simp[b,a]
      ·by_cases d:c.aQ=0
       ·by_cases g:c.aG<0
        ·simp[e,a,d,g]
        ·by_cases j:6<c.aG
         ·simp[e,a,d,g,j]
         ·simp[e,a,d,g,j]
       ·by_cases m:c.aQ<4
        ·simp[b,a,d,m]
        ·by_cases g:c.aG<0
         ·simp[b,a,d,g,m]
         ·by_cases j:6<c.aG
          ·simp[b,a,d,g,j,m]
          ·simp[b,a,d,g,j,m]
def GF{s:ByteArray}{q:Int}:∀{l:List Me},dN l->l.any (fun p=>decide (p.name=s) && decide (p.aS=q))=match V3 s l with
  |some i=>(match l[i]? with
   |some x=>decide (x.aS=q)
   |none=>false)
  |none=>false
 |[],_=>rfl
 |m::r,h=>by
  have d:=(List.pairwise_cons.1 h).1;have ih:=GF (s:=s) (q:=q) (List.pairwise_cons.1 h).2;rw[List.any_cons,V3];by_cases e:m.name=s
  ·rw[RA e,RE e];have:r.any (fun p=>decide (p.name=s) && decide (p.aS=q))=false:=by
    rw[List.any_eq_false];intro p f;have a:=d p f;have b:¬p.name=s:=fun c=>by
     rw[e,<-c] at a;rw[jU] at a;cases a
    simp[b]
   rw[this];simp
  ·rw[R1 e,RD e,ih];cases V3 s r with
   |none=>rfl
   |some i=>simp
def F0 : dN U3:=by unfold dN;decide +kernel
def Lv : dD N9:=fun x a=>by
 have:x.aB=[]\/x.aB=U3:=by
  simp only[N9,QG,List.not_mem_nil,or_false] at a;rcases a with rfl|rfl|rfl|rfl<;>simp
 rcases this with e|e<;>rw[e]
 ·exact List.Pairwise.nil
 ·exact F0
def wO : E8 N9:=by
 refine⟨G7,G7,fun x b=>?_,fun o c=>by cases c⟩;simp only[N9,QG,List.not_mem_nil,or_false] at b;have a:∀m∈U3,m.code.length<=1048576:=G7;rcases b with rfl|rfl|rfl|rfl
 ·exact⟨G7,fun m a=>by cases a⟩
 ·exact⟨G7,fun m a=>by cases a⟩
 ·exact⟨G7,fun m a=>by cases a⟩
 ·exact⟨G7,a⟩
def KW(s:ByteArray):l7 N9 s 3=match V3 s U3 with
  |some i=>(3,(i:Int))
  |none=>(-1,-1):=by
 unfold l7;have a:N9.a7[(3:Int).toNat]?=some ⟨⟨#[73,110,116]⟩,0,0,U3⟩:=rfl;have e0:N9.a7[(0:Int).toNat]?=some ⟨⟨#[79,98,106,101,99,116]⟩,-1,0,[]⟩:=rfl;have b:U7 N9 s 4 0=none:=by
  rw[U7,RA G7,e0];show U7 N9 s 3 (-1)=none;rw[U7,R1 G7]
 rw[uD,U7,RA G7,a];show(match V3 s U3 with
  |some i=>some ((3:Int),(i:Int))
  |none=>U7 N9 s 4 0).getD (-1,-1)=_
 rw[b];cases V3 s U3<;>rfl
def Ml(N:Nat)(j:1048578<=N)(m:Me):sL N N9 m=some (U3.any (fun p=>decide (p.name=m.name) && decide (p.aS=m.aS)) && (decide (m.args=1) && (decide (m.a8=0) && decide (m.code=[])))):=by
 have hl:∀i,V3 m.name U3=some i->∃x,U3[i]?=some x:=fun i h=>by
  obtain⟨x,b,_⟩:=jQ h;exact⟨x,b⟩
 have k:decide ((m.code.length:Int)=0)=decide (m.code=[]):=by
  cases m.code<;>simp;omega
 unfold sL;rw[mA N N9 3 m.name j Lv wO,KW,GF F0];cases hi:V3 m.name U3 with
 |none=>rfl
 |some i =>
  obtain⟨x,b⟩:=hl i hi;have g:j3 N9.a7 3=some ⟨⟨#[73,110,116]⟩,0,0,U3⟩:=rfl;simp only[A0,g,q9,b,RE (Int.natCast_nonneg i),Qz,k];by_cases a:x.aS=m.aS
  ·by_cases d:m.args=1
   ·by_cases f:m.a8=0
    ·simp[a,d,f]
    ·simp[a,d,f]
   ·simp[a,d]
  ·have c:¬m.aS=x.aS:=fun e=>a e.symm;simp[a,c]
def KQ{m:Me}(h:U3.any (fun p=>decide (p.name=m.name) && decide (p.aS=m.aS))=true):m.aS≠0/\∃p∈U3,p.name=m.name/\p.aS=m.aS:=by
 obtain⟨p,a,h⟩:=List.any_eq_true.1 h;simp only[It,RF] at h;have b:∀q∈U3,q.aS≠0:=G7;exact⟨by rw[<-h.2];exact b p a,p,a,h⟩
def EC(N:Nat)(w:Wd)(k:Nat)(c:Cl)(q:4194304<=N)(i:E8 w)(r:c∈w.a7):∀(l:List Me) (j:Nat),l=c.aB.drop j->oZ N w N9 k c l j=rF N w k c.aB l j
 |[],j,_=>rfl
 |m::l,j,h=>by
  obtain⟨y,hl,b⟩:=X5 h;have b:=of_decide_eq_true b;have v:=(i.2.2.1 c r).1;have ih:=EC N w k c q i r l (j+1) hl;have ep:((bif decide ((0:Int)<(j:Int)) then((j3 c.aB (wr ((j:Int)-(1:Int)))).bind fun e=>some ((!V8 e.name m.name))) else some (false)):Option Bool) =
    some (pS (if j=0 then none else c.aB[j-1]?) m):=by
   by_cases o:j=0
   ·subst o;rfl
   ·have wk:wr ((j:Int)-1)=((j-1:Nat):Int):=by rw[q8 ino];omega
    obtain⟨p,x⟩:∃p,c.aB[j-1]?=some p:=⟨_,No d9⟩;rw[RE (show(0:Int)<(j:Int) by omega),R1 o];simp only[Qz,wk,q9,x,A0,pS]
  have eq:((bif (!decide (m.aS=(0:Int))) then(bif decide ((k:Int)=(3:Int)) then((sL N N9 m).bind fun d=>some (d)) else some (false)) else some (false)):Option Bool)=some (qz k m):=by
   rw[Ml N d9 m];unfold qz;by_cases g:k=3
   ·have a:(k:Int)=3:=d9;cases t:U3.any (fun p=>decide (p.name=m.name) && decide (p.aS=m.aS)) with
    |true =>
     have:=(KQ t).1;simp[g,this]
    |false =>
     by_cases n:m.aS=0<;>simp[g,n]
   ·have a:¬(k:Int)=3:=d9;by_cases n:m.aS=0<;>simp[g,a,n]
  rw[oZ,ep,eq,yC N w _ _ d9 i.1,rF];unfold B2;simp only[A0,ih];cases pS (if j=0 then none else c.aB[j-1]?) m with
  |true=>simp
  |false =>
   cases qz k m with
   |true=>simp
   |false =>
    simp only[R0];obtain⟨f,u⟩:=yu N w (k:Int) m q;rw[u];simp only[A0,QZ];by_cases s:f.err=0
    ·simp[s]
    ·simp[s]
def Em(N:Nat)(w:Wd)(b:4194304<=N)(a:E8 w):∀(l:List Cl) (k:Nat),l=w.a7.drop k->oV N w N9 l k=mT N w l k
 |[],k,_=>rfl
 |c::l,k,h=>by
  obtain⟨d,hl,e⟩:=X5 h;rw[oV,oN N w _ d9 a.1,mT,EC N w k c b a (QM d) c.aB 0 rfl];simp only[A0,Em N w b a l (k+1) hl];rfl
def d65(N:Nat)(w:Wd):∀(l:List V) (k:Nat),oe N w l k=some (nC (w.heap.length:Int) l)
 |[],k=>rfl
 |v::l,k=>by
  rw[oe,D1,nC];simp only[A0,d65 N w l (k+1)];by_cases h:Z9 v (w.heap.length:Int)=0<;>simp[h]
def d28(N:Nat)(w:Wd)(b:1048578<=N)(c:w.a7.length<=1048576)(f:4<=w.a7.length):∀(l:List Ob) (k:Nat),od N w l k=some (mS w l)
 |[],k=>rfl
 |o::l,k=>by
  rw[od,oN N w _ b c,mS,d65];simp only[A0,d28 N w b c f l (k+1)];have e:((bif (!decide (o.cls=(0:Int))) then(bif decide (o.cls<(4:Int)) then some (true) else(bif decide ((w.a7.length:Int)<=o.cls) then some (true) else some ((!decide ((o.aG.length:Int)=l8 w o.cls))))) else some ((!decide ((o.aG.length:Int)=l8 w o.cls)))):Option Bool)=some (qC w o):=by
   unfold qC;by_cases a:o.cls=0
   ·simp[a]
   ·by_cases d:o.cls<4
    ·simp[a,d]
    ·by_cases g:(w.a7.length:Int)<=o.cls<;>simp[a,d,g]
  rw[e];simp only[A0];cases qC w o with
  |true=>rfl
  |false =>
   simp only[R0];cases nC (w.heap.length:Int) o.aG<;>rfl
def DH(N:Nat)(w:Wd)(e:4194304<=N)(b:E8 w):tE N w=rD N w:=by
 unfold tE rD wQ;have e1:((bif decide ((w.a7.length:Int)<(N9.a7.length:Int)) then some (true) else(bif decide ((12:Int)<(w.a7.length:Int)) then some (true) else some (decide ((60:Int)<(w.heap.length:Int))))):Option Bool)=some (decide ((w.a7.length:Int)<4) || (decide (12<(w.a7.length:Int)) || decide (60<(w.heap.length:Int)))):=by
  rw[uD];have:((4:Nat):Int)=4:=rfl;rw[this];by_cases a:(w.a7.length:Int)<4
  ·simp[a]
  ·by_cases g:(12:Int)<(w.a7.length:Int)<;>simp[a,g]
 have c:((bif decide (w.aC<(0:Int)) then some (true) else some (decide ((1073741824:Int)<w.aC))):Option Bool)=some (decide (w.aC<0) || decide (1073741824<w.aC)):=by
  by_cases a:w.aC<0<;>simp[a]
 simp only[A0,e1,c];cases f:(decide ((w.a7.length:Int)<4) || (decide (12<(w.a7.length:Int)) || decide (60<(w.heap.length:Int)))) with
 |true=>rfl
 |false =>
  have d:4<=w.a7.length:=by
   simp only[Bool.or_eq_false_iff,decide_eq_false_iff_not] at f;omega
  simp only[R0];cases (decide (w.aC<0) || decide (1073741824<w.aC)) with
  |true=>rfl
  |false =>
   simp only[R0,EW N w b.1 w.a7 0 [] rfl (NO _) (fun s=>rfl),Em N w e b w.a7 0 rfl,yb,d28 N w d9 b.1 d w.heap 0,A0];cases kI w w.a7 0 with
   |ret r=>rfl
   |next u =>
    cases mT N w w.a7 0 with
    |none=>rfl
    |some o =>
     cases o with
     |ret r=>rfl
     |next u =>
      simp only[A0];cases mS w w.heap<;>rfl
def tx(t:BL):ByteArray:=⟨t.toArray⟩
def Fj(t:BL):(tx t).size=t.length:=by show t.toArray.size=_;simp
def FU(s:ByteArray):tx s.data.toList=s:=mW rfl
def GN(a b:BL):tx a++tx b=tx (a++b):=by
 apply mW;show(tx a++tx b).data.toList=a++b;simp[tx]
def NR(t:BL)(s:ByteArray):(tx t++s)++(⟨#[32]⟩:ByteArray)=tx (t++bp s):=by
 have e:(⟨#[32]⟩:ByteArray)=tx [32]:=rfl;rw[e,<-FU s,GN,GN,FU,bp,QR]
def xY{b:Type}(t:BL)(s:ByteArray)(y:ByteArray->Option b)(h:t.length+(bp s).length<=4611686018427387904):
  (bif decide ((tx t).size+s.size<=4611686018427387904) then(bif decide (((tx t)++s).size+(⟨#[32]⟩:ByteArray).size<=4611686018427387904) then y (((tx t)++s)++(⟨#[32]⟩:ByteArray)) else none) else none)=y (tx (t++bp s)):=by
 have a:=iJ s;simp only[bp,Of,Qq,a] at h;have e1:(⟨#[32]⟩:ByteArray).size=1:=rfl;rw[RE (by rw[Fj];omega),RE (by rw[ByteArray.size_append,Fj,e1];omega),NR];rfl
def d25(N:Nat):∀(l:List Int) (k:Nat) (t:BL),t.length+(bo l).length<=4611686018427387904->kb N l k (tx t)=some (tx (t++bo l))
 |[],k,t,_=>by simp[kb,bo]
 |n::l,k,t,h=>by
  have e:bo (n::l)=dS n++bo l:=by simp[bo]
  rw[e,Of] at h;have a:bp ⟨(Lib.itoa n).toArray⟩=dS n:=rfl;rw[kb];simp only[strconv_Itoa,A0];rw[xY t ⟨(Lib.itoa n).toArray⟩ (fun v=>kb N l (k+1) v) (by rw[a];omega),a,d25 N l (k+1) _ (by rw[Of];omega),e,QR]
def df(N:Nat)(l:List Int)(t:BL)(h:t.length+(bo l).length<=4611686018427387904):iX N l (tx t)=some (tx (t++bo l)):=by
 unfold iX;rw[d25 N l 0 t h];rfl
def qx{b:Type}(f:b->BL)(L:List b->Nat->ByteArray->Option ByteArray)(c:∀k a,L [] k a=some a)(d:∀x l k t,t.length+(f x).length<=4611686018427387904->L (x::l) k (tx t)=L l (k+1) (tx (t++f x))):∀(l:List b) (k:Nat) (t:BL),t.length+(l.map f).flatten.length<=4611686018427387904->L l k (tx t)=some (tx (t++(l.map f).flatten))
 |[],k,t,_=>by simp[c]
 |x::l,k,t,h=>by
  simp only[QO,List.flatten_cons,Of] at h;rw[d x l k t d9,qx f L c d l (k+1) _ (by rw[Of];omega),QO,List.flatten_cons,QR]
def Np(N:Nat):∀(l:List Ins) (k:Nat) (t:BL),t.length+(l.map da).flatten.length<=4611686018427387904->kh N l k (tx t)=some (tx (t++(l.map da).flatten)) :=
 qx da (kh N) (fun k a=>rfl) fun i l k t h=>by
  simp only[da,Of] at h;rw[kh,df N _ t d9];simp only[A0];by_cases b:i.op=14
  ·rw[RA b] at h;rw[b] at h⊢;simp only[RB,Qz];rw[xY _ i.name (fun v=>some v) (by rw[Of];omega)];simp only[A0,da,b,if_true,QR]
  ·simp only[b,RC,R0,A0,da,if_false,List.append_nil]
def NZ(N:Nat):∀(l:List Me) (k:Nat) (t:BL),t.length+(l.map dd).flatten.length<=4611686018427387904->jx N l k (tx t)=some (tx (t++(l.map dd).flatten)) :=
 qx dd (jx N) (fun k a=>rfl) fun m l k t h=>by
  simp only[dd,Of] at h;rw[jx];rw[xY t m.name (fun v=>(iX N [m.args,m.a8,m.aS,(m.code.length:Int)] v).bind fun b=>((kh N m.code 0 b).bind fun c=>jx N l (k+1) c)) d9];rw[df N _ _ (by rw[Of];omega)];simp only[A0];rw[Np N m.code 0 _ (by simp only[Of];omega)];simp only[A0,dd,QR]
def NW(N:Nat):∀(l:List Cl) (k:Nat) (t:BL),t.length+(l.map e8).flatten.length<=4611686018427387904->kg N l k (tx t)=some (tx (t++(l.map e8).flatten)) :=
 qx e8 (kg N) (fun k a=>rfl) fun m l k t h=>by
  simp only[e8,Of] at h;rw[kg];rw[xY t m.name (fun v=>(iX N [m.aQ,m.aG,(m.aB.length:Int)] v).bind fun b=>((jx N m.aB 0 b).bind fun c=>kg N l (k+1) c)) d9];rw[df N _ _ (by rw[Of];omega)];simp only[A0];rw[NZ N m.aB 0 _ (by simp only[Of];omega)];simp only[A0,e8,QR]
def NK(N:Nat):∀(l:List V) (k:Nat) (t:BL),t.length+(l.map vT).flatten.length<=4611686018427387904->lp N l k (tx t)=some (tx (t++(l.map vT).flatten)) :=
 qx vT (lp N) (fun k a=>rfl) fun v l k t h=>by
  rw[lp,df N _ t h];rfl
def NF(N:Nat):∀(l:List Ob) (k:Nat) (t:BL),t.length+(l.map eD).flatten.length<=4611686018427387904->ly N l k (tx t)=some (tx (t++(l.map eD).flatten)) :=
 qx eD (ly N) (fun k a=>rfl) fun o l k t h=>by
  simp only[eD,Of] at h;rw[ly,df N _ t d9];simp only[A0];rw[NK N o.aG 0 _ (by rw[Of];omega)];simp only[A0,eD,QR]
def Nw(N:Nat)(w:Wd)(h:(cv w).length<=140737488355328):wE N w=some (tx (cv w)):=by
 simp only[cv,Of] at h;have e0:(⟨#[]⟩:ByteArray)=tx []:=rfl;unfold wE;rw[e0,df N _ [] (by simp only[Qh];omega)];simp only[A0,Qd];rw[NW N w.a7 0 _ d9];simp only[A0];rw[df N _ _ (by simp only[Of];omega)];simp only[A0];rw[NF N w.heap 0 _ (by simp only[Of];omega)];simp only[A0,cv,QR]
def NV(s:ByteArray):(bp s).length=s.size+1:=by rw[bp,Of,iJ];rfl
def Ef{w:Wd}:∀{l:List Cl} {k:Nat},l=w.a7.drop k->kI w l k=.next ()->∀j c,k<=j->w.a7[j]?=some c->mr (w.a7.take j) j c=0
 |[],k,h,_,j,c,b,a=>by
  have f:=(OR.1 a).1;have g:=List.drop_eq_nil_iff.1 h.symm;omega
 |d::l,k,h,he,j,c,b,a=>by
  obtain⟨hd,hl,_⟩:=X5 h;rw[kI] at he;by_cases e:mr (w.a7.take k) k d=0
  ·rw[RE e] at he;rcases Nat.eq_or_lt_of_le b with rfl|b
   ·rw[hd] at a;cases a;exact e
   ·exact Ef hl he j c b a
  ·rw[RD e] at he;cases he
def N4{b:List Cl}{k:Nat}{c:Cl}(h:mr b k c=0):W9 c.name=true/\jb b c.name=false/\uH k c=false/\rM k c=false:=by
 unfold mr at h;cases a:(!W9 c.name || (jb b c.name || uH k c)) with
 |true=>rw[a] at h;cases h
 |false =>
  rw[a] at h;cases d:rM k c with
  |true=>rw[d] at h;cases h
  |false =>
   simp only[Bool.or_eq_false_iff,Bool.not_eq_false'] at a;exact⟨a.1,a.2.1,a.2.2,rfl⟩
def AM{s:ByteArray}(h:W9 s=true):iC s:=by
 unfold W9 at h;simp only[It,RF] at h;refine⟨fun e=>?_,fun e=>?_⟩
 ·have:=iJ s;rw[e] at this;simp at this;omega
 ·have:=QP.1 h.1 32 e;revert this;decide
def Mt{w:Wd}{c:Int}{m:Me}{i:Ins}(h:cS w c m i=0):i.b=0/\i.c=0/\(i.op=14->iC i.name)/\(i.op≠14->i.name=IS):=by
 unfold cS at h;split at h
 ·cases h
 ·split at h
  ·split at h
   ·cases h
   ·rename_i a;unfold kC at a;simp only[Bool.or_eq_true,It,Bool.not_eq_true',RF,decide_eq_false_iff_not,not_or,not_and,Classical.not_not,Bool.not_eq_false] at a;exact⟨a.1.2,a.2,fun d=>AM (a.1.1.1 d),fun d=>a.1.1.2 d⟩
  ·cases h
def pY.small{w:Wd}(h:pY w):E8 w :=
 ⟨by have:=h.2.1;omega,by have:=h.2.2.1;omega,fun c a=>⟨by have:=(h.2.2.2.1 c a).2.2.2.1;omega,fun m b=>by have:=((h.2.2.2.1 c a).2.2.2.2 m b).2.2.2.2.1;omega⟩,fun o d=>by have:=(h.2.2.2.2 o d).2.1;omega⟩
def MA(N:Nat):rD N N9=some 0:=D6
def kV(r:bC):BL:=(r.l.map bp).flatten
def xj(r:bC):Prop:=∀w∈r.l,iC w/\w.size<4294967281
def C8{α:Type}(f:bC->Option (α×bC))(p:BL->Option (α×BL))(A:α->Prop):Prop :=
 ∀r:bC,xj r->∃a b,f r=some (a,b)/\A a/\xj b/\(r.fA=false->b.fA=false) /\
  (r.fA=true->match p (kV r) with
   |some (x,t)=>a=x/\b.fA=true/\kV b=t
   |none=>b.fA=false)
section
variable {α β:Type}
def C8.pure{a:α}{A:α->Prop}(h:A a):C8 (fun r=>some (a,r)) (fun t=>some (a,t)) A :=
 fun r b=>⟨a,r,rfl,h,b,fun h=>h,fun h=>⟨rfl,h,rfl⟩⟩
def C8.bind{f:bC->Option (α×bC)}{p:BL->Option (α×BL)}{A:α->Prop}(u:C8 f p A){k:α×bC->Option (β×bC)}{q:α×BL->Option (β×BL)}{B:β->Prop}(v:∀a,A a->C8 (fun r=>k (a,r)) (fun t=>q (a,t)) B):C8 (fun r=>(f r).bind k) (fun t=>(p t).bind q) B:=by
 intro r w;obtain⟨a,y,l,m,n,o,c⟩:=u r w;obtain⟨b,z,g1,g,i,d,j⟩:=v a m y n;refine⟨b,z,by simp only[l,A0,g1],g,i,fun h=>d (o h),fun h=>?_⟩;have c:=c h;dsimp only;cases e:p (kV r) with
 |none =>
  rw[e] at c;exact d c
 |some x =>
  rw[e] at c;obtain⟨x,t⟩:=x;obtain⟨rfl,s,rfl⟩:=c;exact j s
def C8.bq{L:bC->Option (bC×α)}{p:BL->Option (α×BL)}{A:α->Prop}(e:C8 (fun r=>(L r).map fun y=>(y.2,y.1)) p A){k:bC×α->Option (β×bC)}{q:α×BL->Option (β×BL)}{B:β->Prop}(f:∀a,A a->C8 (fun r=>k (r,a)) (fun t=>q (a,t)) B):C8 (fun r=>(L r).bind k) (fun t=>(p t).bind q) B:=by
 have:=C8.bind e (k:=fun y=>k (y.2,y.1)) f;intro r h;obtain⟨b,c,g1,g⟩:=this r h;refine⟨b,c,?_,g⟩;have d:((L r).map fun y=>(y.2,y.1)).bind (fun y=>k (y.2,y.1))=some (b,c):=g1;show(L r).bind k=some (b,c);rw[<-d];cases L r<;>rfl
def C8.loop{p:BL->Option (α×BL)}{step:bC->Option (α×bC)}(o:C8 step p fun _=>True){L:Nat->Nat->bC->List α->Option (bC×List α)}(m:∀k r l,L 0 k r l=some (r,l))(q:∀n k r l,l.length<=1000->L (n+1) k r l=(step r).bind fun y=>L n (k+1) y.2 (l++[y.1])):
  ∀(n k:Nat) (l:List α),l.length+n<=1000->C8 (fun r=>(L n k r l).map fun y=>(y.2,y.1)) (fun t=>(cn p n t).map fun y=>(l++y.1,y.2)) fun _=>True
 |0,k,l,_=>fun r e=>⟨l,r,by simp[m],trivial,e,fun h=>h,fun h=>by simp[cn,h]⟩
 |n+1,k,l,hl=>by
  intro r e;obtain⟨a,g,u,B,v,w,d⟩:=o r e;obtain⟨b,i,g1,A,s,j,c⟩:=C8.loop o m q n (k+1) (l++[a]) F5 g v;have g1:(L n (k+1) g (l++[a])).map (fun y=>(y.2,y.1))=some (b,i):=g1;refine⟨b,i,?_,trivial,s,fun h=>j (w h),fun h=>?_⟩
  ·show(L (n+1) k r l).map (fun y=>(y.2,y.1))=some (b,i);rw[q n k r l d9,u,<-g1];rfl
  have d:=d h;dsimp only;cases f:p (kV r) with
  |none =>
   rw[f] at d;simp only[cn,f,Option.bind_none,Option.map_none];exact j d
  |some x =>
   rw[f] at d;obtain⟨x,t⟩:=x;obtain⟨rfl,z,rfl⟩:=d;have c:=c z;dsimp only at c;simp only[cn,f,A0];cases e:cn p n (kV g) with
   |none=>rw[e] at c;exact c
   |some y =>
    rw[e] at c;simp only[QZ,QR,List.singleton_append] at c;exact c
def C8.rep{p:BL->Option (α×BL)}{step:bC->Option (α×bC)}(c:C8 step p fun _=>True){L:Nat->Nat->bC->List α->Option (bC×List α)}(a:∀k r l,L 0 k r l=some (r,l))(d:∀n k r l,l.length<=1000->L (n+1) k r l=(step r).bind fun y=>L n (k+1) y.2 (l++[y.1]))(n:Nat)(b:n<=1000):C8 (fun r=>(L n 0 r []).map fun y=>(y.2,y.1)) (cn p n) fun _=>True:=by
 have:=C8.loop c a d n 0 [] (by simpa using b);have e:(fun t=>(cn p n t).map fun y=>(([]:List α)++y.1,y.2))=cn p n:=by
  funext t;cases cn p n t<;>rfl
 rwa [e] at this
end
def C8.word(N:Nat):C8 (iG N) pw fun w=>w.size<4294967281:=by
 intro r a;obtain⟨l,o⟩:=r;unfold iG;cases l with
 |nil=>exact⟨_,_,rfl,G7,a,fun _=>rfl,fun h=>rfl⟩
 |cons w l =>
  have c:decide ((((w::l).length:Nat):Int)=0)=false:=RD (by simp only[QI];omega);have d:(decide ((0:Int)<=1) && decide ((1:Int)<=((w::l).length:Nat)))=true:=by
   simp only[QI,It,RF];omega
  have b:=a w l9;have e0:j3 (w::l) (0:Int)=some w:=q9 (w::l) 0;simp only[c,d,e0,R0,Qz,A0];refine⟨_,_,rfl,b.2,fun x e=>a x (by simp only[QG];exact .inr e),fun h=>h,fun h=>?_⟩;have:kV ⟨w::l,o⟩=bp w++(l.map bp).flatten:=by simp[kV]
  rw[this,u5 _ b.1];exact⟨rfl,h,rfl⟩
def C8.num(N:Nat):C8 (C9 N) pn fun _=>True:=by
 unfold C9 pn;refine C8.bind (C8.word N) fun w d=>?_;intro r b;obtain⟨s,o⟩:=r;simp only;have f:=iJ w;unfold strconv_Atoi strconv_Itoa;rw[RE (show(w.size<=281474976710656) by omega)];simp only[Qz,A0];cases c:Lib.atoiAll w.data.toList with
 |ok n =>
  simp only[IT,R0,A0];by_cases a:Lib.itoa n=w.data.toList
  ·have e:(⟨(Lib.itoa n).toArray⟩:ByteArray)=w:=mW a;rw[RE e];simp only[IT,R0,A0];exact⟨_,_,rfl,trivial,b,fun h=>h,fun h=>by simp[a,h]⟩
  ·have e:¬(⟨(Lib.itoa n).toArray⟩:ByteArray)=w:=fun e=>a (by rw[<-e]);rw[RD e];simp only[QJ,Qz,A0];exact⟨_,_,rfl,trivial,b,fun _=>rfl,fun _=>by simp[a]⟩
 |_ =>
  simp only[QJ,Qz,A0];exact⟨_,_,rfl,trivial,b,fun _=>rfl,fun _=>rfl⟩
def C8.count(N:Nat)(a:Int)(e:0<=a):C8 (fun r=>Q6 N r a) (pc a) fun n=>0<=n/\n<=a:=by
 unfold Q6 pc;refine C8.bind (C8.num N) fun n _=>?_;intro r d;obtain⟨s,o⟩:=r;simp only;by_cases b:n<0
 ·simp only[b,RB,Qz,A0];exact⟨_,_,rfl,⟨QQ _,e⟩,d,fun _=>rfl,fun _=>by simp[b]⟩
 ·by_cases c:a<n
  ·simp only[b,c,RB,RC,Qz,R0,A0];exact⟨_,_,rfl,⟨QQ _,e⟩,d,fun _=>rfl,fun _=>by simp[c]⟩
  ·cases o with
   |false =>
    simp only[b,c,RC,R0,QJ,Qz,A0];exact⟨_,_,rfl,⟨QQ _,e⟩,d,fun _=>rfl,fun h=>by cases h⟩
   |true =>
    simp only[b,c,RC,R0,IT,A0];exact⟨_,_,rfl,⟨d9,d9⟩,d,fun h=>h,fun h=>by simp[b,c]⟩
def d17(N:Nat)(r:bC):Option (Ins×bC):=(C9 N r).bind fun a=>(C9 N a.2).bind fun b=>bif decide (a.1=14) then(iG N b.2).bind fun s=>some (⟨a.1,b.1,0,0,s.1⟩,s.2) else some (⟨a.1,b.1,0,0,IS⟩,b.2)
def C8.ins(N:Nat):C8 (d17 N) mo fun _=>True:=by
 unfold d17 mo;refine C8.bind (C8.num N) fun a _=>?_;dsimp only;by_cases h:a=14
 ·simp only[h,RB,Qz,if_true];refine C8.bind (C8.num N) fun b _=>?_;dsimp only;exact C8.bind (C8.word N) fun s _=>by dsimp only;exact C8.pure trivial
 ·simp only[h,RC,R0,if_false];exact C8.bind (C8.num N) fun b _=>by dsimp only;exact C8.pure trivial
def KJ(N:Nat)(n k:Nat)(r:bC)(l:List Ins)(hl:l.length<=1000):Y4 N (n+1) k r l=(d17 N r).bind fun y=>Y4 N n (k+1) y.2 (l++[y.1]):=by
 rw[Y4];unfold d17;cases d:C9 N r with
 |none=>rfl
 |some a =>
  simp only[A0];cases e:C9 N a.2 with
  |none=>rfl
  |some b =>
   simp only[A0];by_cases c:a.1=14
   ·simp only[c,RB,Qz];cases f:iG N b.2 with
    |none=>rfl
    |some s=>simp only[A0,ib hl (show 48<=1000 by decide),Qz]
   ·simp only[c,RC,R0,A0,ib hl (show 48<=1000 by decide),Qz]
def xJ(N:Nat)(r:bC):Option (Me×bC):=(iG N r).bind fun s=>(C9 N s.2).bind fun a=>(C9 N a.2).bind fun b=>(C9 N b.2).bind fun c=>(Q6 N c.2 60).bind fun n=>(Y4 N n.1.toNat 0 n.2 []).bind fun l=>some (⟨s.1,a.1,b.1,c.1,l.2⟩,l.1)
def C8.me(N:Nat):C8 (xJ N) nT fun _=>True:=by
 unfold xJ nT;refine C8.bind (C8.word N) fun w _=>?_;dsimp only;refine C8.bind (C8.num N) fun a _=>?_;dsimp only;refine C8.bind (C8.num N) fun b _=>?_;dsimp only;refine C8.bind (C8.num N) fun c _=>?_;dsimp only;refine C8.bind (C8.count N 60 G7) fun n d=>?_;dsimp only;exact C8.bq (C8.rep (C8.ins N) (L:=Y4 N) (fun k r l=>rfl) (KJ N) n.toNat d9) fun l _=>by dsimp only;exact C8.pure trivial
def KE(N:Nat)(n k:Nat)(r:bC)(l:List Me)(hl:l.length<=1000):Y9 N (n+1) k r l=(xJ N r).bind fun y=>Y9 N n (k+1) y.2 (l++[y.1]):=by
 rw[Y9];unfold xJ;cases f:iG N r with
 |none=>rfl
 |some s =>
  simp only[A0];cases g:C9 N s.2 with
  |none=>rfl
  |some a =>
   simp only[A0];cases h:C9 N a.2 with
   |none=>rfl
   |some b =>
    simp only[A0];cases m:C9 N b.2 with
    |none=>rfl
    |some e =>
     simp only[A0];cases i:Q6 N e.2 60 with
     |none=>rfl
     |some c =>
      simp only[A0,nG];cases j:Y4 N c.1.toNat 0 c.2 [] with
      |none=>rfl
      |some d=>simp only[A0,ib hl (show 64<=1000 by decide),Qz]
def xQ(N:Nat)(r:bC):Option (Cl×bC):=(iG N r).bind fun s=>(C9 N s.2).bind fun a=>(C9 N a.2).bind fun b=>(Q6 N b.2 8).bind fun n=>(Y9 N n.1.toNat 0 n.2 []).bind fun l=>some (⟨s.1,a.1,b.1,l.2⟩,l.1)
def C8.cl(N:Nat):C8 (xQ N) nS fun _=>True:=by
 unfold xQ nS;refine C8.bind (C8.word N) fun w _=>?_;dsimp only;refine C8.bind (C8.num N) fun a _=>?_;dsimp only;refine C8.bind (C8.num N) fun b _=>?_;dsimp only;refine C8.bind (C8.count N 8 G7) fun n c=>?_;dsimp only;exact C8.bq (C8.rep (C8.me N) (L:=Y9 N) (fun k r l=>rfl) (KE N) n.toNat d9) fun l _=>by dsimp only;exact C8.pure trivial
def Jx(N:Nat)(n k:Nat)(r:bC)(l:List Cl)(hl:l.length<=1000):X8 N (n+1) k r l=(xQ N r).bind fun y=>X8 N n (k+1) y.2 (l++[y.1]):=by
 rw[X8];unfold xQ;cases e:iG N r with
 |none=>rfl
 |some s =>
  simp only[A0];cases f:C9 N s.2 with
  |none=>rfl
  |some a =>
   simp only[A0];cases g:C9 N a.2 with
   |none=>rfl
   |some b =>
    simp only[A0];cases h:Q6 N b.2 8 with
    |none=>rfl
    |some c =>
     simp only[A0,nG];cases i:Y9 N c.1.toNat 0 c.2 [] with
     |none=>rfl
     |some d=>simp only[A0,ib hl (show 56<=1000 by decide),Qz]
def xg(N:Nat)(r:bC):Option (V×bC):=(C9 N r).bind fun a=>(C9 N a.2).bind fun b=>some (⟨a.1,b.1⟩,b.2)
def C8.v(N:Nat):C8 (xg N) pV fun _=>True:=by
 unfold xg pV;refine C8.bind (C8.num N) fun a _=>?_;dsimp only;exact C8.bind (C8.num N) fun b _=>by dsimp only;exact C8.pure trivial
def KB(N:Nat)(n k:Nat)(r:bC)(l:List V)(hl:l.length<=1000):Y2 N (n+1) k r l=(xg N r).bind fun y=>Y2 N n (k+1) y.2 (l++[y.1]):=by
 rw[Y2];unfold xg;cases c:C9 N r with
 |none=>rfl
 |some a =>
  simp only[A0];cases d:C9 N a.2 with
  |none=>rfl
  |some b=>simp only[A0,ib hl (show 16<=1000 by decide),Qz]
def xX(N:Nat)(r:bC):Option (Ob×bC):=(C9 N r).bind fun a=>(Q6 N a.2 6).bind fun n=>(Y2 N n.1.toNat 0 n.2 []).bind fun l=>some (⟨a.1,l.2⟩,l.1)
def C8.ob(N:Nat):C8 (xX N) nU fun _=>True:=by
 unfold xX nU;refine C8.bind (C8.num N) fun a _=>?_;dsimp only;refine C8.bind (C8.count N 6 G7) fun n b=>?_;dsimp only;exact C8.bq (C8.rep (C8.v N) (L:=Y2 N) (fun k r l=>rfl) (KB N) n.toNat d9) fun l _=>by dsimp only;exact C8.pure trivial
def Js(N:Nat)(n k:Nat)(r:bC)(l:List Ob)(hl:l.length<=1000):X9 N (n+1) k r l=(xX N r).bind fun y=>X9 N n (k+1) y.2 (l++[y.1]):=by
 rw[X9];unfold xX;cases c:C9 N r with
 |none=>rfl
 |some a =>
  simp only[A0];cases e:Q6 N a.2 6 with
  |none=>rfl
  |some b =>
   simp only[A0,nG];cases f:Y2 N b.1.toNat 0 b.2 [] with
   |none=>rfl
   |some d=>simp only[A0,ib hl (show 32<=1000 by decide),Qz]
def Aq(N:Nat)(r:bC):Option (Wd×bC):=(C9 N r).bind fun e=>(Q6 N e.2 12).bind fun n=>(X8 N n.1.toNat 0 n.2 []).bind fun l=>(Q6 N l.1 60).bind fun m=>(X9 N m.1.toNat 0 m.2 []).bind fun h=>some (⟨l.2,h.2,e.1⟩,h.1)
def C8.wo(N:Nat):C8 (Aq N) kU fun _=>True:=by
 unfold Aq kU;refine C8.bind (C8.num N) fun e _=>?_;dsimp only;refine C8.bind (C8.count N 12 G7) fun n b=>?_;dsimp only;refine C8.bq (C8.rep (C8.cl N) (L:=X8 N) (fun k r l=>rfl) (Jx N) n.toNat d9) fun l _=>?_;dsimp only;refine C8.bind (C8.count N 60 G7) fun m a=>?_;dsimp only;exact C8.bq (C8.rep (C8.ob N) (L:=X9 N) (fun k r l=>rfl) (Js N) m.toNat d9) fun l _=>by dsimp only;exact C8.pure trivial
def fB : BL->BL->Option (List ByteArray)
 |a,[]=>if a=[] then some [] else none
 |a,b::t=>if b=32 then(if a=[] then none else(fB [] t).map fun l=>⟨a.toArray⟩::l) else fB (a++[b]) t
def zx : ∀{t a:BL} {l:List ByteArray},fB a t=some l->(32:UInt8) ∉ a->a++t=(l.map bp).flatten/\∀w∈l,iC w/\w.size<=a.length+t.length
 |[],a,l,h,i=>by
  unfold fB at h;split at h
  ·rename_i e;subst e;cases h;simp
  ·cases h
 |b::t,a,l,h,i=>by
  unfold fB at h;split at h
  ·rename_i g;split at h
   ·cases h
   ·rename_i k;cases j:fB [] t with
    |none=>rw[j] at h;cases h
    |some m =>
     rw[j] at h;cases h;obtain⟨d,f⟩:=zx j l9;refine⟨by rw[QO,List.flatten_cons,<-d,g];simp[bp],fun w c=>?_⟩;rcases QG.1 c with rfl|c
     ·refine⟨⟨by simpa using k,by simpa using i⟩,?_⟩;show a.toArray.size<=_;rw[Qu];omega
     ·have:=f w c;simp only[Qh,QI] at this⊢;exact⟨this.1,d9⟩
  ·rename_i g;obtain⟨d,f⟩:=zx h (by simp only[QS,Qf,not_or];exact⟨i,Ne.symm g⟩);refine⟨by simpa using d,fun w c=>?_⟩;have:=f w c;simp only[Of,QI,Qh] at this⊢;exact⟨this.1,d9⟩
def J5(t:BL):Prop:=∃l:List ByteArray,(∀w∈l,iC w)/\t=(l.map bp).flatten
def J5.nil : J5 []:=⟨[],l9,rfl⟩
def J5.app{a b:BL}(e:J5 a)(f:J5 b):J5 (a++b):=by
 obtain⟨l,c,rfl⟩:=e;obtain⟨m,d,rfl⟩:=f;exact⟨l++m,fun w g=>(QS.1 g).elim (c w) (d w),l9⟩
def J5.word{s:ByteArray}(h:iC s):J5 (bp s):=⟨[s],by simpa using h,l9⟩
def J5.num(n:Int):J5 (dS n):=J5.word (s:=⟨(Lib.itoa n).toArray⟩) (Ei n)
def J5.flat{α:Type}(f:α->BL):∀{l:List α},(∀x∈l,J5 (f x))->J5 (l.map f).flatten
 |[],_=>J5.nil
 |x::l,h=>by
  rw[QO,List.flatten_cons];exact(h x l9).app (J5.flat f fun y a=>h y (by simp[a]))
def J5.nQ(l:List Int):J5 (bo l):=J5.flat dS fun n _=>J5.num n
def J5.ins{i:Ins}(h:d12 i):J5 (da i):=by
 unfold da;by_cases a:i.op=14
 ·simp only[a,if_true];exact(J5.nQ _).app (J5.word (h.2.2.2.2.1 a))
 ·simp only[a,if_false,List.append_nil];exact J5.nQ _
def J5.me{m:Me}(h:d62 m):J5 (dd m):=by
 unfold dd;exact(J5.word h.1).app ((J5.nQ _).app (J5.flat da fun i hi=>J5.ins (h.2.2.2.2.2 i hi)))
def J5.cl{c:Cl}(h:xT c):J5 (e8 c):=by
 unfold e8;exact(J5.word h.1).app ((J5.nQ _).app (J5.flat dd fun i hi=>J5.me (h.2.2.2.2 i hi)))
def J5.ob(o:Ob):J5 (eD o):=by
 unfold eD;exact(J5.nQ _).app (J5.flat vT fun v _=>by unfold vT;exact J5.nQ _)
def J5.wo{w:Wd}(h:pY w):J5 (cv w):=by
 unfold cv;exact(J5.nQ _).app ((J5.flat e8 fun c a=>J5.cl (h.2.2.2.1 c a)).app ((J5.nQ _).app (J5.flat eD fun o _=>J5.ob o)))
def KY(s:BL)(r:BL)(d:(32:UInt8) ∉ s):∀a:BL,a++s≠[]->fB a (s++32::r)=(fB [] r).map fun l=>⟨(a++s).toArray⟩::l:=by
 induction s with
 |nil =>
  intro a c;have c:a≠[]:=by simpa using c
  simp[fB,c]
 |cons b s ih =>
  intro a _;have f:b≠32:=fun e=>d (by simp[e]);rw[List.cons_append,fB,R1 f,ih (fun h=>d (by simp[h])) (a++[b]) l9];simp
def EP : ∀(l:List ByteArray),(∀w∈l,iC w)->fB [] (l.map bp).flatten=some l
 |[],_=>rfl
 |w::l,h=>by
  have a:=h w l9;have e:((w::l).map bp).flatten=w.data.toList++32::(l.map bp).flatten:=by simp[bp]
  rw[e,KY w.data.toList _ a.2 [] (by simpa using a.1),EP l fun x b=>h x (by simp[b])];rfl
def Pc(s:ByteArray)(k:Nat)(b:UInt8)(h:s.data.toList[k]?=some b):(s.extract k (k+1)).data.toList=[b]:=by
 obtain⟨a,e⟩:=OR.1 h;have:(s.extract k (k+1)).data.toList=(s.data.toList.drop k).take 1:=by
  rw[ByteArray.data_extract,Array.toList_extract];simp[List.extract_eq_take_drop]
 rw[this,List.drop_eq_getElem_cons a,e];rfl
def CO(N:Nat)(s:ByteArray)(B:s.size<=4294967296):∀(n k:Nat) (v:List ByteArray) (c:ByteArray),n+k=s.size->v.length<=k->c.size<=k ->
  match fB c.data.toList (s.data.toList.drop k) with
  |some l=>Y6 N s n k v c=some (.next (v++l,⟨#[]⟩))
  |none=>Y6 N s n k v c=some (.ret ([],false))\/∃u d,d≠⟨#[]⟩/\Y6 N s n k v c=some (.next (u,d))
 |0,k,v,c,h,C,z=>by
  have:s.data.toList.drop k=[]:=List.drop_eq_nil_of_le (by rw[iJ];omega);rw[this];unfold fB;by_cases e:c.data.toList=[]
  ·rw[RA e];have:c=⟨#[]⟩:=mW (by rw[e]);subst this;simp[Y6]
  ·rw[R1 e];exact .inr ⟨v,c,fun x=>e (by rw[x]),rfl⟩
 |n+1,k,v,c,h,C,z=>by
  have p:k<s.data.toList.length:=by rw[iJ];omega
  have f:s.data.toList[k]?=some (s.data.toList[k]):=No p;generalize s.data.toList[k]=b at f;have hd:s.data.toList.drop k=b::s.data.toList.drop (k+1):=by
   obtain⟨A,e⟩:=OR.1 f;rw[List.drop_eq_getElem_cons p,e]
  have a:=CO N s B n (k+1);rw[hd,Y6,Al,f];simp only[A0];have g:decide ((b.toNat:Int)=32)=decide (b=32):=by
   by_cases q:b=32
   ·subst q;rfl
   ·have:¬(b.toNat:Int)=32:=fun e=>q (UInt8.toNat_inj.1 (by have:(32:UInt8).toNat=32:=rfl;omega));rw[RD q,RD this]
  rw[g];by_cases q:b=32
  ·subst q;simp only[RB,IT,R0];unfold fB;rw[RA rfl];by_cases e:c.data.toList=[]
   ·rw[RA e];have:c=⟨#[]⟩:=mW (by rw[e]);subst this;simp
   ·have j:¬c=⟨#[]⟩:=fun x=>e (by rw[x]);rw[R1 e,RD j];simp only[R0,Qx (show(v.length+[c].length)*16<=140737488355328 by simp only[Qq];omega),Qz,A0];have:=a (v++[c]) ⟨#[]⟩ d9 F5 (by show 0<=_;omega);have e0:(⟨#[]⟩:ByteArray).data.toList=[]:=rfl;rw[e0] at this;cases r:fB [] (s.data.toList.drop (k+1)) with
    |none=>rw[r] at this;exact this
    |some l =>
     rw[r] at this;simp only[QZ];have y:(⟨c.data.toList.toArray⟩:ByteArray)=c:=mW l9;rw[y];simpa using this
  ·have i:(decide ((0:Int)<=(k:Int)) && (decide ((k:Int)<=(k:Int)+1) && decide ((k:Int)+1<=(s.size:Int))))=true:=by
    have:k+1<=s.size:=d9;simp only[It,RF];omega
   have e1:((k:Int)).toNat=k:=d9;have w:((k:Int)+1).toNat=k+1:=d9;have t:=Pc s k b f;have m:(s.extract k (k+1)).size=1:=by rw[<-iJ,t];rfl
   simp only[RD q,QJ,Qz,i,e1,w,m,RE (show c.size+1<=4611686018427387904 by omega),A0];have o:(c++s.extract k (k+1)).data.toList=c.data.toList++[b]:=by
    rw[ByteArray.data_append,Array.toList_append,t]
   have:=a v (c++s.extract k (k+1)) d9 d9 (by rw[<-iJ,o,Of,iJ];simp;omega);rw[o] at this;unfold fB;rw[R1 q];exact this
def Ms(N:Nat)(s:ByteArray)(b:s.size<=4294967296):match fB [] s.data.toList with
  |some l=>qb N s=some (l,true)
  |none=>∃u,qb N s=some (u,false):=by
 have h:=CO N s b s.size 0 [] ⟨#[]⟩ d9 l9 (by show 0<=0;omega);have e0:(⟨#[]⟩:ByteArray).data.toList=[]:=rfl;have e1:(((s.size:Int)-((0:Nat):Int)).toNat)=s.size:=l9;rw[e0,List.drop_zero] at h;unfold qb;rw[e1];cases a:fB [] s.data.toList with
 |some l =>
  rw[a] at h;have h:Y6 N s s.size 0 [] ⟨#[]⟩=some (.next ([]++l,⟨#[]⟩)):=h;rw[h];simp
 |none =>
  rw[a] at h;rcases h with h|⟨u,d,hd,h⟩
  ·rw[h];exact⟨_,rfl⟩
  ·rw[h];refine⟨u,?_⟩;simp[hd]
def Kr(N:Nat)(b:List Int)(I:b.length<4294967281):si N b=match jd (strOfNums b).data.toList with
  |none=>some (⟨[],[],0⟩,2)
  |some w=>(k6 N w).bind fun r=>bif (!decide (r=0)) then some (⟨[],[],0⟩,r) else some (w,0):=by
 have F:(strOfNums b).size<=4294967296:=by rw[strOfNums_size];omega
 have h:=Ms N (strOfNums b) F;unfold si;cases f:fB [] (strOfNums b).data.toList with
 |none =>
  rw[f] at h;obtain⟨u,h⟩:=h;rw[h];have:jd (strOfNums b).data.toList=none:=by
   cases g:jd (strOfNums b).data.toList with
   |none=>rfl
   |some w =>
    obtain⟨i,j⟩:=EJ g;obtain⟨l,z,A⟩:=J5.wo j;rw[i,A,EP l z] at f;cases f
  rw[this];rfl
 |some l =>
  rw[f] at h;have h:qb N (strOfNums b)=some (l,true):=h;rw[h];obtain⟨i,j⟩:=zx f l9;have C:xj ⟨l,true⟩:=fun w E=>by
   have:=j w E;refine⟨this.1,?_⟩;have e:=iJ (strOfNums b);have H:=strOfNums_size b;have:=this.2;simp only[Qh] at this;omega
  have D:kV ⟨l,true⟩=(strOfNums b).data.toList:=i.symm;obtain⟨w,r,g1,_,_,_,c⟩:=C8.wo N ⟨l,true⟩ C;have c:=c rfl;rw[D] at c;simp only[A0,IT,R0,nG];unfold Aq at g1;cases k:C9 N ⟨l,true⟩ with
  |none=>rw[k] at g1;cases g1
  |some e =>
  rw[k] at g1;simp only[A0] at g1⊢;cases o:Q6 N e.2 12 with
  |none=>rw[o] at g1;cases g1
  |some n =>
  rw[o] at g1;simp only[A0] at g1⊢;cases p:X8 N n.1.toNat 0 n.2 [] with
  |none=>rw[p] at g1;cases g1
  |some v =>
  rw[p] at g1;simp only[A0] at g1⊢;cases q:Q6 N v.1 60 with
  |none=>rw[q] at g1;cases g1
  |some m =>
  rw[q] at g1;simp only[A0] at g1⊢;cases s:X9 N m.1.toNat 0 m.2 [] with
  |none=>rw[s] at g1;cases g1
  |some os =>
  rw[s] at g1;simp only[A0,Option.some.injEq,Prod.mk.injEq] at g1⊢;obtain⟨rfl,rfl⟩:=g1;unfold jd;cases g:kU (strOfNums b).data.toList with
  |none =>
   rw[g] at c;have c:os.1.fA=false:=c;simp only[c,QJ,Qz,A0]
  |some x =>
   obtain⟨x,t⟩:=x;rw[g] at c;obtain⟨rfl,B,d⟩:=c;simp only[B,IT,R0,A0];cases hl:os.1.l with
   |nil =>
    have:t=[]:=by rw[<-d];unfold kV;rw[hl];rfl
    subst this;simp
   |cons y G =>
    have:t≠[]:=fun e=>by
     have d:=d;unfold kV at d;rw[hl,e] at d;simp[bp] at d
    cases t with
    |nil=>exact absurd rfl this
    |cons a t =>
     have:decide ((0:Int)<(((y::G).length:Nat):Int))=true:=RE (by simp only[QI];omega);simp only[this,Qz]
def Dp(N:Nat)(x:Cl):∀(l:List Cl) (k:Nat),U4 N x l k=some (bif jb l x.name then .ret 7 else .next ())
 |[],k=>rfl
 |d::l,k=>by
  rw[U4,Dp N x l (k+1)];unfold jb;rw[List.any_cons];by_cases h:d.name=x.name<;>simp[h]
def Dq(N:Nat)(w:Wd):∀(l:List Cl) (k:Nat),l=w.a7.drop k->Q0 N w N9 l k=some (kI w l k)
 |[],k,_=>rfl
 |c::l,k,h=>by
  obtain⟨t,hl,j⟩:=X5 h;have j:=of_decide_eq_true j;have ih:=Dq N w l (k+1) hl;have r:(decide ((0:Int)<=(k:Int)) && decide ((k:Int)<=(w.a7.length:Int)))=true:=by
   simp only[It,RF];omega
  have q:((k:Int)).toNat=k:=d9;rw[Q0,jE,kI];simp only[r,q,Dp,ih,A0,Qz];unfold mr uH rM;generalize jb (w.a7.take k) c.name=g;cases u:W9 c.name with
  |false=>simp
  |true =>
   cases o:N9.a7[k]? with
   |some f =>
    have s:=Gb o;have e1:decide ((k:Int)<(4:Int))=true:=RE d9;simp only[e1,q9,o,A0,Qz,R0,IT,Bool.false_or];by_cases a:c.name=f.name
    ·cases g with
     |true=>simp[a]
     |false =>
      by_cases b:c.aQ=f.aQ
      ·by_cases d:c.aG<0
       ·have:¬c.aG=0:=d9;simp[a,b,d,this]
       ·by_cases n:0<c.aG
        ·have:¬c.aG=0:=d9;simp[a,b,d,n,this]
        ·have:c.aG=0:=d9;simp[a,b,this]
      ·simp[a,b]
    ·simp[a]
   |none =>
    have s:=GJ o;have e1:decide ((k:Int)<(4:Int))=false:=RD d9;simp only[e1,A0,Qz,R0,IT,Bool.false_or];cases g with
    |true=>simp
    |false =>
     by_cases a:c.aQ<0
     ·simp[a]
     ·by_cases b:(k:Int)<=c.aQ
      ·simp[a,b]
      ·by_cases m:c.aQ=0
       ·have i:¬k=0:=d9;by_cases d:c.aG<0
        ·simp[i,b,m,d]
        ·by_cases n:6<c.aG<;>simp[i,b,m,d,n]
       ·have e:0<c.aQ:=d9;by_cases p:c.aQ<4
        ·simp[a,b,m,e,p]
        ·by_cases d:c.aG<0
         ·simp[a,b,m,e,d,p]
         ·by_cases n:6<c.aG<;>simp[a,b,m,e,d,n,p]
def CL(N:Nat)(k:Nat)(m:Me):∀(l:List Me) (j:Nat) (b:Bool),J9 N k m l j b=some (b || (decide (k=3) && (l.any (fun p=>decide (p.name=m.name) && decide (p.aS=m.aS)) && (decide (m.args=1) && (decide (m.a8=0) && decide (m.code=[]))))))
 |[],j,b=>by simp[J9]
 |x::l,j,b=>by
  have n:decide ((m.code.length:Int)=0)=decide (m.code=[]):=by
   cases m.code<;>simp;omega
  have o:decide ((k:Int)=3)=decide (k=3):=by
   by_cases h:k=3
   ·subst h;rfl
   ·rw[RD h,RD d9]
  rw[J9,n,o,List.any_cons];simp only[CL N k m l (j+1)];generalize decide (k=3)=a;generalize decide (x.name=m.name)=c;generalize decide (x.aS=m.aS)=d;generalize decide (m.args=1)=e;generalize decide (m.a8=0)=f;generalize decide (m.code=[])=g;generalize (l.any fun p=>decide (p.name=m.name) && decide (p.aS=m.aS))=i;cases b<;>cases a<;>cases c<;>cases d<;>cases e<;>cases f<;>cases g<;>cases i<;>rfl
def Dj(N:Nat)(w:Wd)(k:Nat)(c:Cl)(i:4194304<=N)(d:E8 w)(n:c∈w.a7)(b:0<=l8 w (k:Int)/\l8 w (k:Int)<=1000000000):∀(l:List Me) (j:Nat),l=c.aB.drop j->Q5 N w N9 k c l j=rF N w k c.aB l j
 |[],j,_=>rfl
 |m::l,j,h=>by
  obtain⟨v,hl,a⟩:=X5 h;have a:=of_decide_eq_true a;have t:=(d.2.2.1 c n).1;have ih:=Dj N w k c i d n b l (j+1) hl;have ep:((bif decide ((0:Int)<(j:Int)) then((j3 c.aB (wr ((j:Int)-(1:Int)))).bind fun e=>some ((!V8 e.name m.name))) else some (false)):Option Bool) =
    some (pS (if j=0 then none else c.aB[j-1]?) m):=by
   by_cases g:j=0
   ·subst g;rfl
   ·have wk:wr ((j:Int)-1)=((j-1:Nat):Int):=by rw[q8 ino];omega
    obtain⟨p,u⟩:∃p,c.aB[j-1]?=some p:=⟨_,No d9⟩;rw[RE (show(0:Int)<(j:Int) by omega),R1 g];simp only[Qz,wk,q9,u,A0,pS]
  have q:j3 N9.a7 (3:Int)=some ⟨⟨#[73,110,116]⟩,0,0,U3⟩:=rfl;have r:J9 N k m U3 0 false=some (qz k m):=by rw[CL];rfl
  obtain⟨f,o⟩:=yu N w (k:Int) m i;rw[Q5,ep,q,rp N w _ _ d9 d.1 b,o,rF];unfold B2;simp only[A0,ih,r,o,QZ];cases pS (if j=0 then none else c.aB[j-1]?) m with
  |true=>simp
  |false =>
   cases qz k m with
   |true=>simp
   |false=>by_cases s:f.err=0<;>simp[s]
def Dr(N:Nat)(w:Wd)(d:4194304<=N)(b:E8 w)(a:∀c:Int,0<=l8 w c/\l8 w c<=1000000000):∀(l:List Cl) (k:Nat),l=w.a7.drop k->Y8 N w N9 l k=mT N w l k
 |[],k,_=>rfl
 |c::l,k,h=>by
  obtain⟨e,hl,f⟩:=X5 h;rw[Y8,Y7 N w _ d9 b.1,mT,Dj N w k c d b (QM e) (a _) c.aB 0 rfl];simp only[A0,Dr N w d b a l (k+1) hl];rfl
def CM(N:Nat)(w:Wd):∀(l:List V) (k:Nat),U6 N w l k=some (nC (w.heap.length:Int) l)
 |[],k=>rfl
 |v::l,k=>by
  rw[U6,ri,nC];simp only[A0,CM N w l (k+1)];by_cases h:Z9 v (w.heap.length:Int)=0<;>simp[h]
def Dn(N:Nat)(w:Wd)(c:1048578<=N)(d:w.a7.length<=1048576)(i:4<=w.a7.length):∀(l:List Ob) (k:Nat),U1 N w l k=some (mS w l)
 |[],k=>rfl
 |o::l,k=>by
  rw[U1,Y7 N w _ c d,mS,CM];simp only[A0,Dn N w c d i l (k+1)];have e:((bif decide (o.cls<(0:Int)) then some (true) else(bif decide ((0:Int)<o.cls) then(bif decide (o.cls<(4:Int)) then some (true) else(bif decide ((w.a7.length:Int)<=o.cls) then some (true) else some ((!decide ((o.aG.length:Int)=l8 w o.cls))))) else(bif decide ((w.a7.length:Int)<=o.cls) then some (true) else some ((!decide ((o.aG.length:Int)=l8 w o.cls)))))):Option Bool)=some (qC w o):=by
   unfold qC;by_cases b:o.cls<0
   ·have:¬o.cls=0:=d9;have h:o.cls<4:=d9;simp[b,this,h]
   ·by_cases f:o.cls=0
    ·have:¬(w.a7.length:Int)<=o.cls:=d9;have a:¬(0:Int)<o.cls:=d9;rw[RD b,RD a,RD this,RE f];rfl
    ·have a:(0:Int)<o.cls:=d9;rw[RD b,RE a,RD f];by_cases g:o.cls<4
     ·simp[g]
     ·by_cases j:(w.a7.length:Int)<=o.cls<;>simp[g,j]
  rw[e];simp only[A0];cases qC w o with
  |true=>rfl
  |false =>
   simp only[R0];cases nC (w.heap.length:Int) o.aG<;>rfl
def zB(N:Nat)(w:Wd)(i:4194304<=N)(d:E8 w):k6 N w=rD N w:=by
 unfold k6 rD lV;have e1:((bif decide ((w.a7.length:Int)<(4:Int)) then some (true) else(bif decide ((12:Int)<(w.a7.length:Int)) then some (true) else some (decide ((60:Int)<(w.heap.length:Int))))):Option Bool)=some (decide ((w.a7.length:Int)<4) || (decide (12<(w.a7.length:Int)) || decide (60<(w.heap.length:Int)))):=by
  by_cases a:(w.a7.length:Int)<4
  ·simp[a]
  ·by_cases p:(12:Int)<(w.a7.length:Int)<;>simp[a,p]
 have g:((bif decide (w.aC<(0:Int)) then some (true) else some (decide ((1073741824:Int)<w.aC))):Option Bool)=some (decide (w.aC<0) || decide (1073741824<w.aC)):=by
  by_cases a:w.aC<0<;>simp[a]
 simp only[A0,e1,g];cases m:(decide ((w.a7.length:Int)<4) || (decide (12<(w.a7.length:Int)) || decide (60<(w.heap.length:Int)))) with
 |true=>rfl
 |false =>
  have h:4<=w.a7.length:=by
   simp only[Bool.or_eq_false_iff,decide_eq_false_iff_not] at m;omega
  simp only[R0];cases (decide (w.aC<0) || decide (1073741824<w.aC)) with
  |true=>rfl
  |false =>
   simp only[R0,Dq N w w.a7 0 rfl,Dn N w d9 d.1 h w.heap 0,A0];cases b:kI w w.a7 0 with
   |ret r=>rfl
   |next u =>
    have e:∀c:Int,0<=l8 w c/\l8 w c<=1000000000:=mY (fun x n=>by
     obtain⟨j,l⟩:=Qv.1 n;obtain⟨_,_,_,f⟩:=N4 (Ef (k:=0) rfl b j x (Nat.zero_le _) l);unfold rM at f;simp only[Bool.or_eq_false_iff,decide_eq_false_iff_not] at f;omega) d.1
    simp only[Dr N w i d e w.a7 0 rfl];cases mT N w w.a7 0 with
    |none=>rfl
    |some o =>
     cases o with
     |ret r=>rfl
     |next u =>
      simp only[A0];cases mS w w.heap<;>rfl
def ov{a:Type}{f:a->BL}{B:Nat}:∀{l:List a},(∀x∈l,(f x).length<=B)->(l.map f).flatten.length<=l.length*B
 |[],_=>l9
 |x::l,h=>by
  have c:=h x l9;have d:=ov (l:=l) fun y b=>h y (Qp _ b);simp only[QO,List.flatten_cons,Of,QI,Nat.add_mul];omega
def pD{l:List Int}(h:∀n∈l,H8 n):(bo l).length<=l.length*22:=ov fun n a=>NU (h n a)
def iZ{n:Int}(h:-1073741824<=n/\n<=1073741824):H8 n:=ino
def zh{s:ByteArray}(h:W9 s=true):(bp s).length<=13:=by
 unfold W9 at h;simp only[It,RF] at h;rw[NV];omega
def Mn{w:Wd}{c:Int}{m:Me}{i:Ins}(t:l8 w c<=78/\w.a7.length<=12)(r:m.args<=4/\m.a8<=6/\m.code.length<=60)(h:cS w c m i=0):d12 i/\(da i).length<=60:=by
 obtain⟨f1,j,k,o⟩:=Mt h;have s:=tZ h;have p:H8 i.op:=ino;have q:H8 i.a:=ino;refine⟨⟨p,q,f1,j,k,o⟩,?_⟩;have g:=pD (l:=[i.op,i.a]) (fun n d=>by simp only[QG,List.mem_nil_iff,or_false] at d;rcases d with rfl|rfl<;>assumption);unfold da;rw[Of];simp only[QI,Qh] at g;by_cases b:i.op=14
 ·rw[RA b];have f:=(Eb h).2;unfold kC at f;simp only[Bool.or_eq_false_iff,Bool.and_eq_false_iff,Bool.not_eq_false',decide_eq_false_iff_not,RF] at f;have d:W9 i.name=true:=by
   rcases f.1.1.1 with e|e
   ·exact absurd b e
   ·exact e
  have:=zh d;omega
 ·rw[R1 b];simp only[Qh];omega
def NH{N:Nat}{w:Wd}{j:Nat}{m:Me}(u:l8 w (j:Int)<=78/\w.a7.length<=12)(h:pR j m\/∃f,aj N w (j:Int) m=some f/\f.err=0):d62 m/\(dd m).length<=4000:=by
 have key:W9 m.name=true/\(0<=m.args/\m.args<=4)/\(0<=m.a8/\m.a8<=6)/\(0<=m.aS/\m.aS<=5)/\m.code.length<=60/\∀i∈m.code,cS w (j:Int) m i=0:=by
  rcases h with⟨_,p,t,e1,o,C,D,c⟩|⟨f,r,s⟩
  ·have a:∀q∈U3,W9 q.name=true/\0<=q.aS/\q.aS<=5:=G7;obtain⟨g1,d,e⟩:=a p t;rw[e1] at g1;rw[o] at d e;exact⟨g1,d9,d9,⟨d,e⟩,by rw[c];simp,by rw[c];intro i hi;cases hi⟩
  ·have F:=ER r s;exact⟨F.name,F.args,F.a8,by rw[F.aS];decide,F.len.2,F.num⟩
 obtain⟨g,v,x,E,b,y⟩:=key;have hi:=fun i hi=>Mn u ⟨v.2,x.2,b⟩ (y i hi);refine⟨⟨AM g,iZ d9,iZ d9,iZ d9,b,fun i h=>(hi i h).1⟩,?_⟩;have z:=zh g;have k:=pD (l:=[m.args,m.a8,m.aS,(m.code.length:Int)]) (fun n a=>by
  simp only[QG,List.mem_nil_iff,or_false] at a;rcases a with rfl|rfl|rfl|rfl<;>exact iZ d9)
 have A:=ov (f:=da) (B:=60) fun i h=>(hi i h).2;unfold dd;simp only[Of,QI,Qh] at k⊢;have:=Qr 60 b;omega
def AK{N:Nat}{w:Wd}(K:4194304<=N)(M:E8 w)(b:K7 N w):pY w/\(cv w).length<=1000000:=by
 have d:=b.many;have y:=zK (na b) d.2.1;have cl:∀c∈w.a7,xT c/\(e8 c).length<=40000:=fun c g=>by
  obtain⟨j,q⟩:=Qv.1 g;have L:=(OR.1 q).1;obtain⟨g1,_,D,r,E⟩:=b.cls j c q;obtain⟨Q,H,_,_⟩:=b.ak j c q;have G:-1<=c.aQ/\c.aQ<=12:=by
   rcases Nat.lt_or_ge j 4 with s|s
   ·obtain⟨f,f1,_,J,_⟩:=D s;have a:∀x∈N9.a7,-1<=x.aQ/\x.aQ<=12:=G7;rw[J];exact a f (QM f1)
   ·have:=r s;omega
  have i:∀m∈c.aB,d62 m/\(dd m).length<=4000:=fun m t=>NH (N:=N) ⟨(y (j:Int)).2,d.2.1⟩ (b.xC K M q t);refine⟨⟨AM g1,iZ d9,iZ d9,H,fun m h=>(i m h).1⟩,?_⟩;have A:=zh g1;have e:=pD (l:=[c.aQ,c.aG,(c.aB.length:Int)]) (fun n a=>by
   simp only[QG,List.mem_nil_iff,or_false] at a;rcases a with rfl|rfl|rfl<;>exact iZ d9)
  have C:=ov (f:=dd) (B:=4000) fun m h=>(i m h).2;unfold e8;simp only[Of,QI,Qh] at e⊢;have:=Qr 4000 H;omega
 have ob:∀o∈w.heap,Ar o/\(eD o).length<=5000:=fun o p=>by
  obtain⟨g1,P,D,r,E⟩:=b.obj o p;have F:o.aG.length<=6:=by
   obtain⟨I,u⟩:=Int.eq_ofNat_of_zero_le g1;have:=(b.ak I _ (No (show I<w.a7.length by omega))).1;rw[u] at r;omega
  have z:∀v∈o.aG,H8 v.k/\H8 v.n:=fun v h=>by
   have:=E v h;unfold Z9 at this;unfold H8
   (repeat' split at this)<;>first|omega|cases this
  refine⟨⟨iZ d9,F,z⟩,?_⟩;have e:=pD (l:=[o.cls,(o.aG.length:Int)]) (fun n a=>by
   simp only[QG,List.mem_nil_iff,or_false] at a;rcases a with rfl|rfl<;>exact iZ d9)
  have C:=ov (f:=vT) (B:=44) (l:=o.aG) fun v h=>pD (l:=[v.k,v.n]) (fun n a=>by
   simp only[QG,List.mem_nil_iff,or_false] at a;rcases a with rfl|rfl
   ·exact(z v h).1
   ·exact(z v h).2)
  unfold eD;simp only[Of,QI,Qh] at e⊢;have:=Qr 44 F;omega
 refine⟨⟨iZ (by have:=b.aC;omega),d.2.1,d.2.2,fun c g=>(cl c g).1,fun o p=>(ob o p).1⟩,?_⟩;have A:=pD (l:=[w.aC,(w.a7.length:Int)]) (fun n a=>by
  simp only[QG,List.mem_nil_iff,or_false] at a;rcases a with rfl|rfl<;>exact iZ (by have:=b.aC;omega))
 have e:=pD (l:=[(w.heap.length:Int)]) (fun n a=>by
  simp only[QG,List.mem_nil_iff,or_false] at a;subst a;exact iZ d9)
 have C:=ov (f:=e8) (B:=40000) fun c g=>(cl c g).2;have O:=ov (f:=eD) (B:=5000) fun o p=>(ob o p).2;unfold cv;simp only[Of,QI,Qh] at A e⊢;have:=Qr 40000 d.2.1;have:=Qr 5000 d.2.2;omega
def zo{N:Nat}{w:Wd}(a:4194304<=N)(b:E8 w)(c:K7 N w):tN N w=some (U (cv w))/\kl N (U (cv w))=some (w,0):=by
 obtain⟨d,f⟩:=AK a b c;refine⟨Mf N w d9,?_⟩;have e:rD N w=some 0:=by rw[<-zB N w a b];exact Mj N w a b c
 rw[Ez N _ (by rw[gO];omega),Gl,Nr d];simp only[DH N w a b,e,A0,RB,IT,R0]
def Nx{w:Wd}{c:Int}{m:Me}{i:Ins}(h:cS w c m i=0)(hl:w.a7.length<=1048576)(k:m.args<=1000)(n:m.a8<=1000)(hs:l8 w c<=1000000000)(l:m.code.length<=1048576):
  -2000000000<=i.a/\i.a<=2000000000/\(i.op≠14->i.name=IS)/\i.b=0/\i.c=0:=by
 have j:kC i=false/\gk w c m i=some true:=by
  unfold cS at h;cases f:gk w c m i with
  |none=>rw[f] at h;cases h
  |some b =>
   rw[f] at h;cases b with
   |false=>simp at h
   |true =>
    cases j:kC i with
    |true=>simp[j] at h
    |false=>exact⟨rfl,rfl⟩
 obtain⟨d,g⟩:=j;have f:(i.op≠14->i.name=IS)/\i.b=0/\i.c=0:=by
  unfold kC at d;by_cases e:i.op=14
  ·simp only[e,RB,IT,Bool.false_and,Bool.true_and,Bool.or_false,Bool.or_eq_false_iff,Bool.not_eq_eq_eq_not,QJ,RF] at d;exact⟨fun h=>absurd e h,d.1.2,d.2⟩
  ·simp only[e,RC,QJ,Bool.false_and,Bool.true_and,Bool.false_or,Bool.or_eq_false_iff,Bool.not_eq_eq_eq_not,RF] at d;exact⟨fun _=>d.1.1,d.1.2,d.2⟩
 refine⟨?_,?_,f.1,f.2.1,f.2.2⟩ <;>
 ·unfold gk at g
  (repeat' split at g)<;>simp at g<;>omega
def bj(s:Int)(y:Me)(f:Int)(i:Ins):Ins :=
 if i.op=1 then⟨3,s,0,0,IS⟩ else if i.op=2 then⟨3,s+1+i.a,0,0,IS⟩ else if i.op=3\/i.op=11 then⟨i.op,s+1+y.args+i.a,0,0,IS⟩
 else if i.op=4 then⟨19,s,i.a,0,IS⟩ else if i.op=12 then⟨20,s,i.a,0,IS⟩ else if i.op=15\/i.op=16 then⟨i.op,f+i.a,0,0,IS⟩
 else if i.op=17 then⟨15,f+y.code.length,0,0,IS⟩ else⟨i.op,i.a,0,0,IS⟩
def jZ(s:Int):Nat->List Ins
 |0=>[]
 |v+1=>⟨11,s+v,0,0,IS⟩::jZ s v
def ix(b:Int):Nat->Nat->List Ins
 |0,_=>[]
 |n+1,k=>⟨6,0,0,0,IS⟩::⟨11,b+k,0,0,IS⟩::ix b n (k+1)
def iH(s:Int):∀n,(jZ s n).length=n
 |0=>rfl
 |n+1=>by simp[jZ,iH s n]
def k7(b:Int):∀n k,(ix b n k).length=2*n
 |0,_=>rfl
 |n+1,k=>by simp[ix,k7 b n (k+1)];omega
def hl(y:Me):Nat:=3+y.args.toNat+2*y.a8.toNat
def eW(y:Me)(s c p:Int)(base:Nat):List Ins :=
 ⟨18,c,y.args,p,IS⟩::⟨21,0,0,0,IS⟩::(jZ s (y.args.toNat+1)++ix (s+1+y.args) y.a8.toNat 0++y.code.map (bj s y ((base+hl y:Nat):Int)))
def jL(y:Me)(s c p:Int)(base:Nat):(eW y s c p base).length=Q8 y:=by
 simp only[eW,QI,Of,iH,k7,QU,Q8];omega
structure d10(y:Me):Prop extends Leafy y where
 num:∀i∈y.code,-2000000000<=i.a/\i.a<=2000000000/\(i.op≠14->i.name=IS)/\i.b=0/\i.c=0
def Dz(N:Nat)(a:gL)(w:Wd)(m:Me)(t:Int)(aH fix:List Int)(d:0<=a.a8/\a.a8<=1000):∀(n:Nat) (v:Nat) (out:List Ins),v<n->v<=100->out.length+v<=900000 ->
  nd N a n w m out t aH fix ((v:Int)-1)=some (w,m,out++jZ a.a8 v,t,aH,fix)
 |0,v,out,h,_,_=>d9
 |n+1,0,out,_,_,_=>by
  rw[nd];have c:¬(0:Int)<=((0:Nat):Int)-1:=d9;simp only[c,RC,R0,jZ,List.append_nil]
 |n+1,v+1,out,h,i,g=>by
  rw[nd];have b:(0:Int)<=(((v+1:Nat):Int)-1):=d9;have e:wr ((((v+1:Nat):Int)-1)-1)=(v:Int)-1:=by rw[q8 ino];omega
  have f:wr (a.a8+(((v+1:Nat):Int)-1))=a.a8+(v:Int):=by rw[q8 ino];omega
  simp only[b,RB,Qz,f,put_eq N w m out t aH fix _ _ _ _ (show out.length<=1000000 by omega),A0,e];rw[Dz N a w m t aH fix d n v _ d9 d9 F5];simp[jZ]
def Ds(N:Nat)(a:gL)(y:Me)(b:Leafy y)(w:Wd)(m:Me)(t:Int)(aH fix:List Int)(c:0<=a.a8/\a.a8<=1000):∀(n:Nat) (k:Nat) (out:List Ins),n+k<=100->out.length+2*n<=900000 ->
  V5 N a y n k w m out t aH fix=some (w,m,out++ix (a.a8+1+y.args) n k,t,aH,fix)
 |0,k,out,_,_=>by simp[V5,ix]
 |n+1,k,out,f,g=>by
  rw[V5];have e:=b.args;have d:wr (wr (wr (a.a8+1)+y.args)+(k:Int))=a.a8+1+y.args+k:=by
   rw[q8 (show H8 (a.a8+1) by unfold H8;omega),q8 (show H8 (a.a8+1+y.args) by unfold H8;omega),q8 ino]
  simp only[d,put_eq N w m out t aH fix _ _ _ _ (show out.length<=1000000 by omega),A0];rw[put_eq N w m _ t aH fix _ _ _ _ F5];simp only[A0];rw[Ds N a y b w m t aH fix c n (k+1) _ d9 F5];simp[ix]
def Dx(N:Nat)(e:gL)(y:Me)(s:d10 y)(V:List Ins)(z:V.length<=100000)(w:Wd)(m:Me)(t:Int)(aH fix:List Int)(B:0<=e.a8/\e.a8<=1000):∀(r:List Ins) (k:Nat) (out:List Ins),(∀i∈r,i∈y.code)->out.length+r.length<=900000 ->
  P6 N e y V r k w m out t aH fix=some (w,m,out++r.map (bj e.a8 y (V.length:Int)),t,aH,fix)
 |[],k,out,_,_=>by simp[P6]
 |x::r,k,out,hr,ho=>by
  simp only[QI] at ho;have u:=hr x l9;obtain⟨H,I,J,K,L⟩:=s.num x u;have M:=s.args;have O:=s.len;have go:=fun v:Ins=>Dx N e y s V z w m t aH fix B r (k+1) (out++[v]) (fun i hi=>hr i (by simp[hi])) F5
  have C:=fun op a b c=>put_eq N w m out t aH fix op a b c (show out.length<=1000000 by omega)
  have D:wr (e.a8+1)=e.a8+1:=q8 ino;have E:wr (e.a8+1+x.a)=e.a8+1+x.a:=q8 ino;have w3:wr (e.a8+1+y.args)=e.a8+1+y.args:=q8 ino;have F:wr (e.a8+1+y.args+x.a)=e.a8+1+y.args+x.a:=q8 ino;have w5:wr ((V.length:Int)+x.a)=V.length+x.a:=q8 ino;have G:wr ((V.length:Int)+(y.code.length:Int))=V.length+y.code.length:=q8 ino;rw[P6];simp only[D,E,w3,F,w5,G,C,A0];have d:∀v:Ins,bj e.a8 y (V.length:Int) x=v->P6 N e y V r (k+1) w m (out++[v]) t aH fix=some (w,m,out++(x::r).map (bj e.a8 y (V.length:Int)),t,aH,fix):=by
   intro v A;rw[go v,QO,A];simp
  by_cases n:x.op=1
  ·simp only[n,RB,Qz,A0];exact d _ (by simp[bj,n])
  by_cases o:x.op=2
  ·simp only[o,RB,Qz,A0];exact d _ (by simp[bj,o])
  by_cases p:x.op=3
  ·simp only[p,RB,Qz,A0];exact d _ (by simp[bj,p])
  by_cases f:x.op=11
  ·simp only[f,RB];exact d _ (by simp[bj,f])
  by_cases q:x.op=4
  ·simp only[q,RB,Qz,A0];exact d _ (by simp[bj,q])
  by_cases g:x.op=12
  ·simp only[g,RB,Qz,A0];exact d _ (by simp[bj,g])
  by_cases h:x.op=15
  ·simp only[h,RB,Qz,A0];exact d _ (by simp[bj,h])
  by_cases j:x.op=16
  ·simp only[j,RB];exact d _ (by simp[bj,j])
  by_cases l:x.op=17
  ·simp only[l,RB,Qz,A0];exact d _ (by simp[bj,l])
  simp only[n,o,p,f,q,g,h,j,l,RC,R0,A0];exact d _ (by simp[bj,n,o,p,f,q,g,h,j,l])
def LN(N:Nat)(hN:1000<=N)(w:Wd)(m:Me)(out:List Ins)(t:Int)(aH fix:List Int)(k:Int)(p:Int)(i:Ins)(y:Me)(c:d10 y)(hi:y.args=i.a)(s:0<=t/\t<=40)(r:out.length<=1000):
  ua N (⟨w,m,out,t,aH,fix⟩:gL) k p i y=some ⟨w,m,out++eW y t k p out.length,t+(1+y.args+y.a8),aH,fix⟩:=by
 have n:=c.args;have o:=c.a8;have q:=c.len;unfold ua;have e1:wr (1+y.args)=1+y.args:=q8 ino;have e:wr (1+y.args+y.a8)=1+y.args+y.a8:=q8 ino;have f:wr (t+(1+y.args+y.a8))=t+(1+y.args+y.a8):=q8 ino;simp only[e1,e,f];rw[put_eq N w m out _ aH fix _ _ _ _ d9];simp only[A0];rw[put_eq N w m _ _ aH fix _ _ _ _ F5];simp only[A0];have d:=Dz N ⟨w,m,out,t,aH,fix⟩ w m (t+(1+y.args+y.a8)) aH fix (by show 0<=t/\t<=1000;omega) N (y.args.toNat+1) ((out++[⟨18,k,i.a,p,IS⟩])++[⟨21,0,0,0,IS⟩]) d9 d9 F5
 have g:(((y.args.toNat+1:Nat):Int)-1)=y.args:=d9;rw[g] at d;rw[d];simp only[A0];have h:(y.a8-((0:Nat):Int)).toNat=y.a8.toNat:=d9;rw[h,Ds N ⟨w,m,out,t,aH,fix⟩ y c.toLeafy w m (t+(1+y.args+y.a8)) aH fix (by show 0<=t/\t<=1000;omega) y.a8.toNat 0 _ d9 (by simp[iH];omega)];simp only[A0];rw[Dx N ⟨w,m,out,t,aH,fix⟩ y c _ (by simp[iH,k7];omega) w m (t+(1+y.args+y.a8)) aH fix (by show 0<=t/\t<=1000;omega) y.code 0 _ (fun j l=>l) (by simp[iH,k7];omega)];simp only[A0];have b:(((((out++[(⟨18,k,i.a,p,IS⟩:Ins)])++[(⟨21,0,0,0,IS⟩:Ins)])++jZ t (y.args.toNat+1))++ix (t+1+y.args) y.a8.toNat 0).length:Nat)=out.length+hl y:=by
  simp only[Of,QI,Qh,iH,k7,hl];omega
 rw[b,eW,<-hi];simp
inductive O4 where
 |pl (i:Ins)
 |pc (y:Me) (s c p:Int)
def O4.out(b:Nat):O4->List Ins
 |.pl i=>[i]
 |.pc y s c p=>eW y s c p b
def O4.len : O4->Nat
 |.pl _=>1
 |.pc y _ _ _=>Q8 y
def O4.ek : O4->Bool
 |.pl _=>false
 |.pc _ _ _ _=>true
def eO(i:Ins):Bool:=decide (i.op=15) || decide (i.op=16)
def gx : List O4->Nat->List Ins
 |[],_=>[]
 |x::l,b=>x.out b++gx l (b+x.len)
def Z4 : List O4->Nat->List Int
 |[],_=>[]
 |x::l,b=>(b:Int)::Z4 l (b+x.len)
def eL : List O4->Nat->List Int
 |[],_=>[]
 |.pl i::l,b=>if eO i=true then(b:Int)::eL l (b+1) else eL l (b+1)
 |.pc y s c p::l,b=>eL l (b+Q8 y)
def pa(i:Ins)(a:Int):Ins:=⟨i.op,a,i.b,i.c,i.name⟩
def fu(b:List Int)(i:Ins):Ins:=if eO i=true then pa i ((b[i.a.toNat]?).getD 0) else i
def eK(a:List Int):List O4->Nat->List Ins
 |[],_=>[]
 |.pl i::l,b=>fu a i::eK a l (b+1)
 |.pc y s c p::l,b=>eW y s c p b++eK a l (b+Q8 y)
def nA(w:Wd)(c:Int)(name:ByteArray):Option Me:=if(l7 w name c).2<0 then none else(j3 w.a7 (l7 w name c).1).bind fun x=>j3 x.aB (l7 w name c).2
def dz(w:Wd)(sites:List Int)(L k:Nat)(i:Ins)(size:Nat)(t:Int):Option (Me×Int) :=
 if i.op=14 then match sites[k]? with
  |some c=>if 0<=c then match nA w c i.name with
   |some y=>if gU y=true/\y.args=i.a/\size+Q8 y+L<=240+k/\t+1+y.args+y.a8<=40 then some (y,c) else none
   |none=>none
   else none
  |none=>none
 else none
def cZ(k:Nat)(i:Ins):Ins:=if i.op=14 then⟨i.op,i.a,i.b,k,i.name⟩ else i
def K6(w:Wd)(sites:List Int)(L:Nat):List Ins->Nat->Nat->Int->List O4×Int
 |[],_,_,t=>([],t)
 |i::r,k,size,t=>match dz w sites L k i size t with
  |some (y,c)=>let q:=K6 w sites L r (k+1) (size+Q8 y) (t+(1+y.args+y.a8));(.pc y t c k::q.1,q.2)
  |none=>let q:=K6 w sites L r (k+1) (size+1) t;(.pl (cZ k i)::q.1,q.2)
def eZ(w:Wd):Prop:=∀(k:Nat) (x:Cl),w.a7[k]?=some x->∀y∈x.aB,d10 y
def x5{w:Wd}{c:Int}{name:ByteArray}{y:Me}(h:nA w c name=some y):∃(k:Nat) (x:Cl),w.a7[k]?=some x/\y∈x.aB:=by
 unfold nA at h;split at h
 ·cases h
 ·cases a:j3 w.a7 (l7 w name c).1 with
  |none=>rw[a] at h;cases h
  |some x =>
   rw[a] at h;exact⟨_,x,(l6 a).2,QM (l6 h).2⟩
def LI{y:Me}(h:gU y=true):∀i∈y.code,i.op≠14:=by
 unfold gU at h;simp only[It,Bool.not_eq_true',List.any_eq_false] at h;intro i hi e;exact h.2 i hi (by simp[sends,e])
def qh{w:Wd}{sites:List Int}{L k:Nat}{i:Ins}{size:Nat}{t:Int}{y:Me}{c:Int}(h:dz w sites L k i size t=some (y,c)):
  i.op=14/\sites[k]?=some c/\0<=c/\nA w c i.name=some y/\gU y=true/\y.args=i.a/\size+Q8 y+L<=240+k/\t+1+y.args+y.a8<=40:=by
 unfold dz at h;split at h
 ·rename_i b;split at h
  ·rename_i c' e;split at h
   ·rename_i d;split at h
    ·rename_i j g;split at h
     ·rename_i f;cases h;exact⟨b,e,d,g,f⟩
     ·cases h
    ·cases h
   ·cases h
  ·cases h
 ·cases h
def zO(N:Nat)(hN:1048578<=N)(W:Wd)(a:dD W)(hs:E8 W)(m:Me)(out:List Ins)(t:Int)(aH fix:List Int)(c:Int)(name:ByteArray):
  uh N (⟨W,m,out,t,aH,fix⟩:gL) c name=some (nA W c name,⟨W,m,out,t,aH,fix⟩):=by
 unfold uh nA;rw[mA N W c name hN a hs];simp only[A0];by_cases h:(l7 W name c).2<0
 ·simp only[h,RB,Qz,if_true]
 ·obtain⟨x,y,b,d,_⟩:=p6 (w:=W) (s:=name) (c:=c) d9;simp only[h,RC,R0,if_false,b,d,A0]
def yn(N:Nat)(hN:4194304<=N)(W:Wd)(B:dD W)(hs:E8 W)(F:eZ W)(sites:List Int)(M:Me)(hM:M.code.length<=60):∀(r:List Ins) (k:Nat) (out:List Ins) (t:Int) (aH fix:List Int) (b:Bool),
  r=M.code.drop k->k<=M.code.length->out.length+M.code.length<=240+k->0<=t/\t<=40->aH.length=k->fix.length<=k ->
  kc N sites M r k W M out t aH fix b=some (W,M,out++gx (K6 W sites M.code.length r k out.length t).1 out.length,(K6 W sites M.code.length r k out.length t).2,
   aH++Z4 (K6 W sites M.code.length r k out.length t).1 out.length,fix++eL (K6 W sites M.code.length r k out.length t).1 out.length,b || (K6 W sites M.code.length r k out.length t).1.any O4.ek)
 |[],k,out,t,aH,fix,b,_,_,_,_,_,_=>by simp[kc,K6,gx,Z4,eL]
 |x::r,k,out,t,aH,fix,b,hd,hk,ho,ht,aa,hfix=>by
  obtain⟨hx,hr,K⟩:=X5 hd;have hk:k<M.code.length:=by have:=of_decide_eq_true K;omega
  have ga:AT ((aH.length+[(out.length:Int)].length)*8) 140737488355328=true:=p9 F5;have gf:AT ((fix.length+[(out.length:Int)].length)*8) 140737488355328=true:=p9 F5;have go:∀v:Ins,AT ((out.length+[v].length)*48) 140737488355328=true:=fun v=>p9 F5;have plain:dz W sites M.code.length k x out.length t=none->((((((bif decide (x.op=(15:Int)) then some (true) else some (decide (x.op=(16:Int)))):Option Bool).bind fun D=>(((bif D then(bif AT ((fix.length+[(out.length:Int)].length)*8) 140737488355328 then some ((fix++[(out.length:Int)])) else none) else some (fix)):Option (List Int)).bind fun E=>(((bif decide (x.op=(14:Int)) then some ((⟨x.op,x.a,x.b,(k:Int),x.name⟩:Ins)) else some (x)):Option Ins).bind fun q=>(bif AT ((out.length+[q].length)*48) 140737488355328 then some ((W,M,(out++[q]),t,(aH++[(out.length:Int)]),E,b)) else none))))):Option (Wd×Me×(List Ins)×Int×(List Int)×(List Int)×Bool)).bind fun(Q,R,S,T,U,V,X)=>kc N sites M r (k+1) Q R S T U V X) =
    some (W,M,out++gx (K6 W sites M.code.length (x::r) k out.length t).1 out.length,(K6 W sites M.code.length (x::r) k out.length t).2,
   aH++Z4 (K6 W sites M.code.length (x::r) k out.length t).1 out.length,fix++eL (K6 W sites M.code.length (x::r) k out.length t).1 out.length,b || (K6 W sites M.code.length (x::r) k out.length t).1.any O4.ek):=by
   intro m;have ih:=fun(v:Ins) (Z:List Int) (H:Z.length<=k+1)=>yn N hN W B hs F sites M hM r (k+1) (out++[v]) t (aH++[(out.length:Int)]) Z b hr d9 F5 ht (by simp[aa]) H;have z:∀v:Ins,(out++[v]).length=out.length+1:=fun v=>l9;simp only[z] at ih;rw[K6,m];simp only[gx,Z4,eL,O4.out,O4.len,List.any_cons,O4.ek,Bool.false_or];by_cases i:x.op=15
   ·have l:eO (cZ k x)=true:=(by simp[eO,cZ,i]);have hp:cZ k x=x:=by simp[cZ,i]
    rw[hp] at l;have d:¬x.op=14:=d9;simp only[i,gf,go,RB,RC,Qz,R0,A0,l,if_true,hp,show((15:Int)=14)=False by decide];rw[ih x _ F5];simp
   by_cases j:x.op=16
   ·have l:eO (cZ k x)=true:=(by simp[eO,cZ,j]);have hp:cZ k x=x:=by simp[cZ,j]
    rw[hp] at l;have d:¬x.op=14:=d9;simp only[j,gf,go,RB,RC,Qz,R0,A0,l,if_true,hp,show((16:Int)=14)=False by decide,show((16:Int)=15)=False by decide];rw[ih x _ F5];simp
   have l:eO (cZ k x)=false:=by
    by_cases d:x.op=14<;>simp[eO,cZ,d,i,j]
   by_cases d:x.op=14
   ·have hp:cZ k x=⟨x.op,x.a,x.b,k,x.name⟩:=(by simp[cZ,d]);rw[hp] at l;simp only[d,go,RB,RC,Qz,R0,A0,hp,show((14:Int)=16)=False by decide,show((14:Int)=15)=False by decide];rw[ih _ _ d9];rw[d] at l;simp[l]
   ·have hp:cZ k x=x:=(by simp[cZ,d]);rw[hp] at l;simp only[i,j,d,go,RC,Qz,R0,A0,hp];rw[ih _ _ d9];simp[l]
  rw[kc];rw[ga,Qz];by_cases d:x.op=14
  ·by_cases I:k<sites.length
   ·obtain⟨c,m⟩:∃c,sites[k]?=some c:=⟨_,No I⟩;have e:(k:Int)<(sites.length:Int):=d9;have n:j3 sites (k:Int)=some c:=by rw[q9,m]
    by_cases p:0<=c
    ·cases s:nA W c x.name with
     |none =>
      have f:dz W sites M.code.length k x out.length t=none:=(by simp only[dz,d,if_true,m,p,s]);have:=plain f;simp only[e,d,n,p,RB,Qz,A0,zO N d9 W B hs,s];simp only[d,RB] at this;exact this
     |some y =>
      obtain⟨kk,xx,J,O⟩:=x5 s;have C:=F kk xx J y O;have ya:=C.args;have yt:=C.a8;have yc:=C.len;have A:=size_eq N y C.toLeafy;have hsb:Q8 y<=1000:=by unfold Q8;omega
      have w1:wr ((out.length:Int)+((Q8 y:Nat):Int))=out.length+Q8 y:=q8 ino;have w2:wr ((out.length:Int)+((Q8 y:Nat):Int)+(M.code.length:Int))=out.length+Q8 y+M.code.length:=q8 ino;have w3:wr ((out.length:Int)+((Q8 y:Nat):Int)+(M.code.length:Int)-(k:Int))=out.length+Q8 y+M.code.length-k:=q8 ino;have w4:wr (t+1)=t+1:=q8 ino;have w5:wr (t+1+y.args)=t+1+y.args:=q8 ino;have w6:wr (t+1+y.args+y.a8)=t+1+y.args+y.a8:=q8 ino;by_cases g:gU y=true/\y.args=x.a/\out.length+Q8 y+M.code.length<=240+k/\t+1+y.args+y.a8<=40
      ·have G:dz W sites M.code.length k x out.length t=some (y,c):=by simp only[dz,d,if_true,m,p,s];rw[RA g]
       obtain⟨f1,o,Y,u⟩:=g;have h:((out.length:Int)+Q8 y+M.code.length-k)<=240:=d9;simp only[e,d,n,p,RB,Qz,A0,zO N d9 W B hs,s,yV,f1,o,A,w1,w2,w3,w4,h];rw[<-o];simp only[w5,w6,u,RB];rw[LN N d9 W M out t _ fix c (k:Int) x y C o ht d9];simp only[A0,Qz];rw[yn N hN W B hs F sites M hM r (k+1) _ _ _ _ true hr d9 (by simp[jL];omega) d9 (by simp[aa]) d9];rw[K6,G];simp[gx,Z4,eL,O4.out,O4.len,O4.ek,jL]
      ·have f:dz W sites M.code.length k x out.length t=none:=by simp only[dz,d,if_true,m,p,s];rw[R1 g]
       have:=plain f;have L:(((bif gU y then(bif decide (y.args=x.a) then((tC N y).bind fun P=>(bif decide ((wr ((wr ((wr ((out.length:Int)+P))+(M.code.length:Int)))-(k:Int)))<=(240:Int)) then some (decide ((wr ((wr ((wr (t+(1:Int)))+y.args))+y.a8))<=(40:Int))) else some (false))) else some (false)) else some (false))):Option Bool)=some false:=by
        rw[A];simp only[A0,w1,w2,w3,w4,w5,w6];by_cases f1:gU y=true
        ·by_cases o:y.args=x.a
         ·by_cases Y:out.length+Q8 y+M.code.length<=240+k
          ·have u:¬t+1+y.args+y.a8<=40:=fun u=>g ⟨f1,o,Y,u⟩;have h:((out.length:Int)+Q8 y+M.code.length-k)<=240:=d9;simp only[f1,RE o,RE h,RD u,Qz]
          ·have h:¬((out.length:Int)+Q8 y+M.code.length-k)<=240:=d9;simp only[f1,RE o,RD h,Qz,R0]
         ·simp only[f1,RD o,Qz,R0]
        ·simp only[Bool.not_eq_true] at f1;simp only[f1,R0]
       simp only[e,d,n,p,RB,Qz,A0,zO N d9 W B hs,s,yV,L,R0];simp only[d,RB] at this;exact this
    ·have f:dz W sites M.code.length k x out.length t=none:=(by simp only[dz,d,if_true,m,p,if_false]);have:=plain f;simp only[e,d,n,p,RB,RC,Qz,R0,A0];simp only[d,RB] at this;exact this
   ·have m:sites[k]?=none:=Qb d9;have e:¬(k:Int)<(sites.length:Int):=d9;have f:dz W sites M.code.length k x out.length t=none:=by simp only[dz,d,if_true,m]
    have:=plain f;simp only[e,d,RB,RC,Qz,R0,A0];simp only[d,RB] at this;exact this
  ·have f:dz W sites M.code.length k x out.length t=none:=(by simp only[dz,d,if_false]);have:=plain f;simp only[d,RC,R0,A0];simp only[d,RC] at this;exact this
def vn(N:Nat)(d f:List Int):∀(l:List O4) (k:Nat) (pre:List Ins),f.drop k=eL l pre.length->(∀i,O4.pl i∈l->eO i=true->∃a,j3 d i.a=some a) ->
  ke N d f (eL l pre.length) k (pre++gx l pre.length)=some (pre++eK d l pre.length)
 |[],k,pre,_,_=>by simp[eL,ke,gx,eK]
 |.pl i::l,k,pre,hd,hj=>by
  have e:∀i,O4.pl i∈l->eO i=true->∃a,j3 d i.a=some a:=fun i hi=>hj i (by simp[hi]);have b:∀v:Ins,(pre++[v]).length=pre.length+1:=fun v=>l9;have e1:∀v:Ins,pre++(v::gx l (pre.length+1))=(pre++[v])++gx l (pre.length+1):=fun v=>l9;by_cases n:eO i=true
  ·obtain⟨a,m⟩:=hj i l9 n;simp only[eL,n,if_true] at hd⊢;obtain⟨r,u,_⟩:=X5 hd.symm;have j:j3 (pre++(i::gx l (pre.length+1))) (pre.length:Int)=some i:=by rw[q9];simp
   have ih:=vn N d f l (k+1) (pre++[pa i a]) (by rw[b];exact u.symm) e;simp only[b] at ih;rw[ke];simp only[gx,O4.out,O4.len,List.singleton_append,q9,r,A0];rw[<-q9,j];simp only[A0,m,Qc];rw[List.set_append_right _ _ (NO _),Nat.sub_self,List.set_cons_zero];have q:=e1 (pa i a);unfold pa at q ih;rw[q,ih];simp only[eK,fu,n,if_true,pa];rw[fC (l6 m).1] at m;rw[m];simp
  ·have g:eO i=false:=by cases h:eO i<;>simp_all
   have o:eL (O4.pl i::l) pre.length=eL l (pre.length+1):=(by simp[eL,g]);rw[o] at hd⊢;have ih:=vn N d f l k (pre++[i]) (by rw[b];exact hd) e;simp only[b] at ih;show ke N d f (eL l (pre.length+1)) k (pre++(i::gx l (pre.length+1)))=some (pre++(fu d i::eK d l (pre.length+1)));rw[e1,ih];simp[fu,g]
 |.pc y s c p::l,k,pre,hd,hj=>by
  have e:∀i,O4.pl i∈l->eO i=true->∃a,j3 d i.a=some a:=fun i hi=>hj i (by simp[hi]);have b:(pre++eW y s c p pre.length).length=pre.length+Q8 y:=by simp[jL]
  have o:eL (O4.pc y s c p::l) pre.length=eL l (pre.length+Q8 y):=by simp[eL]
  rw[o] at hd⊢;have ih:=vn N d f l k (pre++eW y s c p pre.length) (by rw[b];exact hd) e;simp only[b] at ih;simp only[gx,O4.out,O4.len,eK,<-QR,ih]
def zI(w:Wd)(sites:List Int)(L:Nat):∀(r:List Ins) (k size:Nat) (t:Int),(K6 w sites L r k size t).1.length=r.length
 |[],_,_,_=>rfl
 |i::r,k,size,t=>by
  rw[K6];split<;>simp[zI w sites L r]
def Da : ∀(l:List O4) (b:Nat),(Z4 l b).length=l.length
 |[],_=>rfl
 |x::l,b=>by simp[Z4,Da l]
def yr(w:Wd)(sites:List Int)(L:Nat):∀(r:List Ins) (k size:Nat) (t:Int) (i:Ins),O4.pl i∈(K6 w sites L r k size t).1->eO i=true->i∈r
 |[],_,_,_,i,h,_=>by cases h
 |x::r,k,size,t,i,h,hj=>by
  rw[K6] at h;split at h
  ·simp only[QG,reduceCtorEq,false_or] at h;exact Qp _ (yr w sites L r _ _ _ i h hj)
  ·simp only[QG,O4.pl.injEq] at h;rcases h with h|h
   ·have hp:cZ k x=x:=by
     rw[h] at hj;unfold cZ at hj⊢;split
     ·rename_i a;rw[RA a] at hj;simp[eO,a] at hj
     ·rfl
    rw[h,hp];simp
   ·exact Qp _ (yr w sites L r _ _ _ i h hj)
def Kg{N:Nat}{w:Wd}(h:K7 N w):∀x∈w.a7,0<=x.aG/\x.aG<=6:=fun x b=>by
 obtain⟨j,a⟩:=Qv.1 b;have:=h.cls j x a;exact⟨this.2.2.2.2.1,this.2.2.2.2.2⟩
def FC{N:Nat}{w:Wd}(hN:4194304<=N)(hs:E8 w)(h:K7 N w):eZ w:=fun k x e y f=>by
 have mp:=Ge d9 hs.1 h e f;have a:=mY (Kg h) hs.1 (k:Int);have c:=h.many;have g:=mp.args;have l:=mp.a8;have j:=mp.len;refine⟨⟨g,l,j,fun i hi=>LQ N w _ y i d9 hs.1 (mp.num i hi),fun i hi d=>d77 N w _ y i d9 (mp.num i hi) d⟩,fun i hi=>?_⟩;have b:=mp.num i hi;rw[Bk N w k y i d9 hs.1 d9 d9 d9 a d9] at b;exact Nx (Option.some.inj b) hs.1 d9 d9 a.2 d9
def pW : List O4->Nat
 |[]=>0
 |x::l=>x.len+pW l
def zD(w:Wd)(sites:List Int)(L:Nat):∀(r:List Ins) (k size:Nat) (t:Int),r.length+k=L->size+r.length<=240->size+pW (K6 w sites L r k size t).1<=240
 |[],k,size,t,_,h=>by simpa[K6,pW] using h
 |i::r,k,size,t,hk,h=>by
  simp only[QI] at hk h;rw[K6];split
  ·rename_i y c a;have:=(qh a).2.2.2.2.2.2.1;have ih:=zD w sites L r (k+1) (size+Q8 y) (t+(1+y.args+y.a8)) d9 d9;simp only[pW,O4.len];omega
  ·have ih:=zD w sites L r (k+1) (size+1) t d9 d9;simp only[pW,O4.len];omega
def ur(w:Wd)(a:eZ w)(sites:List Int)(L:Nat):∀(r:List Ins) (k size:Nat) (t:Int) (y:Me) (s c p:Int),O4.pc y s c p∈(K6 w sites L r k size t).1->d10 y/\gU y=true
 |[],_,_,_,_,_,_,_,h=>by cases h
 |i::r,k,size,t,y,s,c,p,h=>by
  rw[K6] at h;split at h
  ·rename_i m c' f;rcases QG.1 h with h|h
   ·cases h;obtain⟨_,_,_,g,b,_⟩:=qh f;obtain⟨j,l,d,e⟩:=x5 g;exact⟨a j l d y e,b⟩
   ·exact ur w a sites L r _ _ _ y s c p h
  ·rcases QG.1 h with h|h
   ·cases h
   ·exact ur w a sites L r _ _ _ y s c p h
def kB(w:Wd)(c k:Int)(sites:List Int):Fs×Bool :=
 if c<0\/(w.a7.length:Int)<=c\/k<0 then(⟨0,IS,0,0,[]⟩,false) else
 match w.a7[c.toNat]? with
 |none=>(⟨0,IS,0,0,[]⟩,false)
 |some x=>match x.aB[k.toNat]? with
  |none=>(⟨0,IS,0,0,[]⟩,false)
  |some m=>let q:=K6 w sites m.code.length m.code 0 0 m.a8
   if q.1.any O4.ek=true then(⟨c,m.name,w.aC,q.2,eK (Z4 q.1 0) q.1 0⟩,true) else(⟨0,IS,0,0,[]⟩,false)
def MS(N:Nat)(hN:4194304<=N)(w:Wd)(hs:E8 w)(hp:K7 N w)(c k:Int)(sites:List Int):vd N w c k sites=some (kB w c k sites):=by
 have u:=FC hN hs hp;unfold vd kB;by_cases b:c<0
 ·simp[b]
 by_cases f:(w.a7.length:Int)<=c
 ·simp[b,f]
 by_cases c3:k<0
 ·simp[b,f,c3]
 obtain⟨x,q,e⟩:=V7 (l:=w.a7) (i:=c) d9 d9;by_cases r:(x.aB.length:Int)<=k
 ·have:x.aB[k.toNat]?=none:=Qb d9;simp[b,f,c3,r,e,q,this]
 obtain⟨m,v,p⟩:=V7 (l:=x.aB) (i:=k) d9 d9;have g:=u _ x q m (QM v);have d:=g.len;have z:=g.a8;have n:∀i,O4.pl i∈(K6 w sites m.code.length m.code 0 0 m.a8).1->eO i=true->∃a,j3 (Z4 (K6 w sites m.code.length m.code 0 0 m.a8).1 0) i.a=some a:=fun i hi j=>by
  have h:=yr w sites m.code.length m.code 0 0 m.a8 i hi j;have y:=g.jump i h (by simp only[eO,Bool.or_eq_true,RF] at j;exact j);obtain⟨a,A,o⟩:=V7 (l:=Z4 (K6 w sites m.code.length m.code 0 0 m.a8).1 0) (i:=i.a) y.1 (by rw[Da,zI];exact y.2);exact⟨a,o⟩
 have e1:=yn N hN w hp.cM hs u sites m d m.code 0 [] m.a8 [] [] false rfl d9 F5 d9 rfl l9;simp only[Qh,Qd,Bool.false_or] at e1;simp only[b,f,c3,r,e,p,RC,R0,A0,e1,q,v,or_self,if_false];cases B:(K6 w sites m.code.length m.code 0 0 m.a8).1.any O4.ek with
 |false=>simp
 |true =>
  have s:=vn N (Z4 (K6 w sites m.code.length m.code 0 0 m.a8).1 0) (eL (K6 w sites m.code.length m.code 0 0 m.a8).1 0) (K6 w sites m.code.length m.code 0 0 m.a8).1 0 [] rfl n;simp only[Qh,Qd] at s;simp only[IT,R0,s,A0,if_true]
def gj(N:Nat)(w:Wd)(t:List Tl)(c k:Int):List Int:=(qa N w t c k).getD []
def pO(N:Nat)(w:Wd)(t:List Tl)(c k:Nat):List Fs:=if(kB w (c:Int) (k:Int) (gj N w t c k)).2=true then[(kB w (c:Int) (k:Int) (gj N w t c k)).1] else[]
def dE(N:Nat)(w:Wd)(t:List Tl)(c:Nat):List Me->Nat->List Fs
 |[],_=>[]
 |_::r,k=>pO N w t c k++dE N w t c r (k+1)
def iM(N:Nat)(w:Wd)(t:List Tl):List Cl->Nat->List Fs
 |[],_=>[]
 |x::r,c=>dE N w t c x.aB 0++iM N w t r (c+1)
def MN(N:Nat)(w:Wd)(t:List Tl)(c k:Nat):(pO N w t c k).length<=1:=by
 unfold pO;split<;>simp
def d49(N:Nat)(w:Wd)(t:List Tl)(c:Nat):∀(r:List Me) (k:Nat),(dE N w t c r k).length<=r.length
 |[],_=>NO _
 |x::r,k=>by
  have:=MN N w t c k;have:=d49 N w t c r (k+1);simp only[dE,Of,QI];omega
section
variable (N:Nat)(hN:4194304<=N)(w:Wd)(hs:E8 w)(hp:K7 N w)(t:List Tl)
include hN hs hp
def Lj(c k:Int):qa N w t c k=some (gj N w t c k):=by
 obtain⟨L,a⟩:=Ha N w t c k d9 hp.cM hs;rw[gj,a];rfl
def yS(c:Nat):∀(r:List Me) (k:Nat) (a:List Fs),a.length+r.length<=1000000->mM N w t c r k a=some (a++dE N w t c r k)
 |[],k,a,_=>by simp[mM,dE]
 |x::r,k,a,h=>by
  simp only[QI] at h;rw[mM,Lj N hN w hs hp t];simp only[A0,MS N hN w hs hp];have g:∀v:Fs,AT ((a.length+[v].length)*64) 140737488355328=true:=fun v=>p9 F5;cases b:(kB w (c:Int) (k:Int) (gj N w t c k)).2 with
  |true =>
   simp only[Qz,g,A0];rw[yS c r (k+1) _ F5];simp[dE,pO,b]
  |false =>
   simp only[R0,A0];rw[yS c r (k+1) _ d9];simp[dE,pO,b]
def Cu : ∀(r:List Cl) (c:Nat) (a:List Fs),(∀x∈r,x.aB.length<=8)->a.length+8*r.length<=1000000->mN N w t r c a=some (a++iM N w t r c)
 |[],c,a,_,_=>by simp[mN,iM]
 |x::r,c,a,hm,h=>by
  simp only[QI] at h;have d:=hm x l9;have hl:=d49 N w t c x.aB 0;rw[mN,yS N hN w hs hp t c x.aB 0 a d9];simp only[A0,Cu r (c+1) (a++dE N w t c x.aB 0) (fun y b=>hm y (by simp[b])) F5,iM,QR]
def Kq : wu N w t=some (iM N w t w.a7 0):=by
 unfold wu;have b:=hp.many;rw[Cu N hN w hs hp t w.a7 0 [] (fun x a=>by
  obtain⟨i,hi⟩:=Qv.1 a;exact(hp.ak i x hi).2.1) F5]
 simp
end
section
variable (N:Nat)(hN:4194304<=N)(w:Wd)(hs:E8 w)(hp:K7 N w)(t:List Tl)
include hN hs hp
end
def bM : List O4->Nat->Nat
 |_,0=>0
 |[],_+1=>0
 |x::l,p+1=>x.len+bM l p
def ze : ∀{l:List O4} {p:Nat} {x:O4},l[p]?=some x->bM l (p+1)=bM l p+x.len
 |[],p,x,h=>by simp at h
 |y::l,0,x,h=>by
  simp only[Qy,Option.some.injEq] at h;subst h;cases l<;>simp[bM]
 |y::l,p+1,x,h=>by
  rw[bM,bM,ze (p:=p) (l:=l) (by simpa using h)];omega
def O4.lP(x:O4):1<=x.len:=by
 cases x with
 |pl i=>exact NO _
 |pc y s c p=>simp only[O4.len,Q8];omega
def d89 : ∀{l:List O4} {p q:Nat},p<q->q<=l.length->bM l p<bM l q
 |[],p,q,h,a=>by simp at a;omega
 |x::l,p,0,h,a=>d9
 |x::l,0,q+1,h,a=>by
  have:=x.lP;simp only[bM];omega
 |x::l,p+1,q+1,h,a=>by
  have:=d89 (l:=l) (p:=p) (q:=q) d9 (by simpa using a);simp only[bM];omega
def Dl : ∀(l:List O4) (b p:Nat),p<l.length->(Z4 l b)[p]?=some ((b+bM l p:Nat):Int)
 |[],b,p,h=>by simp at h
 |x::l,b,0,h=>by simp[Z4,bM]
 |x::l,b,p+1,h=>by
  rw[Z4,Qw,Dl l (b+x.len) p (by simpa using h),bM,Qm]
def zR(a:List Int):∀(l:List O4) (b:Nat),(eK a l b).length=bM l l.length
 |[],b=>rfl
 |.pl i::l,b=>by simp[eK,bM,zR a l (b+1),O4.len];omega
 |.pc y s c p::l,b=>by simp[eK,bM,zR a l (b+Q8 y),O4.len,jL]
def AF(a:List Int):∀(l:List O4) (b p:Nat) (i:Ins),l[p]?=some (.pl i)->(eK a l b)[bM l p]?=some (fu a i)
 |[],b,p,i,h=>by simp at h
 |.pl j::l,b,0,i,h=>by
  simp only[Qy,Option.some.injEq,O4.pl.injEq] at h;subst h;rfl
 |.pc y s c q::l,b,0,i,h=>by simp at h
 |.pl j::l,b,p+1,i,h=>by
  rw[bM,eK,show(O4.pl j).len+bM l p=bM l p+1 by simp[O4.len];omega,Qw];exact AF a l (b+1) p i (by simpa using h)
 |.pc y s c q::l,b,p+1,i,h=>by
  rw[bM,eK,QY (by simp[O4.len,jL])];simp only[O4.len,jL,Nat.add_sub_cancel_left];exact AF a l (b+Q8 y) p i (by simpa using h)
def zf(d:List Int):∀(l:List O4) (b p:Nat) (y:Me) (s c q:Int),l[p]?=some (.pc y s c q)->∀r,r<Q8 y->(eK d l b)[bM l p+r]?=(eW y s c q (b+bM l p))[r]?
 |[],b,p,y,s,c,q,h,r,a=>by simp at h
 |.pl j::l,b,0,y,s,c,q,h,r,a=>by simp at h
 |.pc y' s' c' q'::l,b,0,y,s,c,q,h,r,a=>by
  simp only[Qy,Option.some.injEq,O4.pc.injEq] at h;obtain⟨rfl,rfl,rfl,rfl⟩:=h;simp only[bM,eK,Qg,Nat.add_zero];rw[Qn (by rw[jL];exact a)]
 |.pl j::l,b,p+1,y,s,c,q,h,r,a=>by
  rw[bM,eK,show(O4.pl j).len+bM l p+r=bM l p+r+1 by simp[O4.len];omega,Qw,zf d l (b+1) p y s c q (by simpa using h) r a];congr 2;simp[O4.len];omega
 |.pc y' s' c' q'::l,b,p+1,y,s,c,q,h,r,a=>by
  rw[bM,eK,QY (by simp[O4.len,jL];omega)];simp only[O4.len,jL];rw[show Q8 y'+bM l p+r-Q8 y'=bM l p+r by omega,zf d l (b+Q8 y') p y s c q (by simpa using h) r a];congr 2;omega
def qY(w:Wd)(a:eZ w)(sites:List Int)(L:Nat):∀(r:List Ins) (k size:Nat) (t:Int),t<=(K6 w sites L r k size t).2
 |[],k,size,t=>QQ _
 |i::r,k,size,t=>by
  rw[K6];split
  ·rename_i y c f;obtain⟨_,_,_,g,_⟩:=qh f;obtain⟨h,j,d,e⟩:=x5 g;have b:=(a h j d y e).toLeafy;have:=qY w a sites L r (k+1) (size+Q8 y) (t+(1+y.args+y.a8));have l:=b.args;have m:=b.a8;simp only;omega
  ·exact qY w a sites L r (k+1) (size+1) t
def zS(w:Wd)(d:eZ w)(sites:List Int)(L:Nat):∀(r:List Ins) (k size:Nat) (t:Int) (p:Nat) (i:Ins),r[p]?=some i->∃a sz,t<=a /\
  ((dz w sites L (k+p) i sz a=none/\(K6 w sites L r k size t).1[p]?=some (.pl (cZ (k+p) i))) \/
   ∃y c,dz w sites L (k+p) i sz a=some (y,c)/\(K6 w sites L r k size t).1[p]?=some (.pc y a c ((k+p:Nat):Int))/\a+1+y.args+y.a8<=(K6 w sites L r k size t).2)
 |[],k,size,t,p,i,h=>by simp at h
 |j::r,k,size,t,p,i,h=>by
  rw[K6];cases e:dz w sites L k j size t with
  |none =>
   cases p with
   |zero =>
    simp only[Qy,Option.some.injEq] at h;subst h;exact⟨t,size,QQ _,.inl ⟨e,rfl⟩⟩
   |succ p =>
    obtain⟨a,sz,f,b⟩:=zS w d sites L r (k+1) (size+1) t p i (by simpa using h);refine⟨a,sz,f,?_⟩;rw[show k+1+p=k+(p+1) by omega] at b;simpa using b
  |some q =>
   obtain⟨y,c⟩:=q;obtain⟨_,_,_,m,_⟩:=qh e;obtain⟨n,o,g1,l⟩:=x5 m;have g:=(d n o g1 y l).toLeafy;have s:=g.args;have u:=g.a8;cases p with
   |zero =>
    simp only[Qy,Option.some.injEq] at h;subst h;have:=qY w d sites L r (k+1) (size+Q8 y) (t+(1+y.args+y.a8));exact⟨t,size,QQ _,.inr ⟨y,c,e,rfl,bL⟩⟩
   |succ p =>
    obtain⟨a,sz,f,b⟩:=zS w d sites L r (k+1) (size+Q8 y) (t+(1+y.args+y.a8)) p i (by simpa using h);refine⟨a,sz,d9,?_⟩;rw[show k+1+p=k+(p+1) by omega] at b;simpa using b
def cH(w:Wd)(H:List Ob)(self:V)(args a8 aA:List V)(i:Ins):Option (List Ob×List V×List V×Int) :=
 if i.op=1 then some (H,a8,aA++[self],0)
 else if i.op=2 then(j3 args i.a).map fun v=>(H,a8,aA++[v],0)
 else if i.op=3 then(j3 a8 i.a).map fun v=>(H,a8,aA++[v],0)
 else if i.op=4 then some (H,a8,aA++[jY H self i.a],0)
 else if i.op=5 then some (H,a8,aA++[⟨3,i.a⟩],0)
 else if i.op=6 then some (H,a8,aA++[⟨0,0⟩],0)
 else if i.op=7 then some (H,a8,aA++[⟨1,0⟩],0)
 else if i.op=8 then some (H,a8,aA++[⟨2,0⟩],0)
 else if i.op=9 then aA.getLast?.map fun v=>(H,a8,aA.dropLast,0)
 else if i.op=10 then aA.getLast?.map fun v=>(H,a8,aA++[v],0)
 else if i.op=11 then aA.getLast?.bind fun v=>if 0<=i.a/\i.a<a8.length then some (H,a8.set i.a.toNat v,aA.dropLast,0) else none
 else if i.op=12 then aA.getLast?.bind fun v=>(im H self i.a v).map fun h=>(h,a8,aA.dropLast,0)
 else if i.op=19 then(j3 a8 i.a).map fun t=>(H,a8,aA++[jY H t i.b],0)
 else if i.op=20 then(j3 a8 i.a).bind fun t=>aA.getLast?.bind fun v=>(im H t i.b v).map fun h=>(h,a8,aA.dropLast,0)
 else if i.op=13 then(if 60<=H.length then some (H,a8,aA,15) else some (H++[⟨i.a,QH (l8 w i.a).toNat ⟨0,0⟩⟩],a8,aA++[⟨4,(H.length:Int)⟩],0))
 else some (H,a8,aA,0)
def jA(c:Cf)(f:j4)(F:List j4)(r:List Ob×List V×List V×Int):Cf:={ c with heap:=r.1,fs:={ f with a8:=r.2.1,aA:=r.2.2.1 }::F,err:=r.2.2.2 }
def wF(w:Wd)(c:Cf)(C:c.err=0)(f:j4)(F:List j4)(i:Ins):k9 w c f F i=(cH w c.heap f.aP f.args f.a8 f.aA i).map (jA c f F):=by
 obtain⟨H,s,t,fs,b,e,ev⟩:=c;simp only at C;subst C;unfold k9 cH;by_cases o:i.op=1
 ·simp only[RA o];rfl
 simp only[R1 o];by_cases p:i.op=2
 ·simp only[RA p,Option.map_map];rfl
 simp only[R1 p];by_cases q:i.op=3
 ·simp only[RA q,Option.map_map];rfl
 simp only[R1 q];by_cases r:i.op=4
 ·simp only[RA r];rfl
 simp only[R1 r];by_cases x:i.op=5
 ·simp only[RA x];rfl
 simp only[R1 x];by_cases y:i.op=6
 ·simp only[RA y];rfl
 simp only[R1 y];by_cases z:i.op=7
 ·simp only[RA z];rfl
 simp only[R1 z];by_cases A:i.op=8
 ·simp only[RA A];rfl
 simp only[R1 A];by_cases B:i.op=9
 ·simp only[RA B,cc,Option.map_map];rfl
 simp only[R1 B];by_cases g:i.op=10
 ·simp only[RA g,Option.map_map];rfl
 simp only[R1 g];by_cases h:i.op=11
 ·simp only[RA h,cc];cases D:f.aA.getLast? with
  |none=>rfl
  |some v =>
   simp only[QZ,A0];by_cases n:0<=i.a/\i.a<f.a8.length
   ·rw[RA n,RA n];rfl
   ·rw[R1 n,R1 n];rfl
 simp only[R1 h];by_cases j:i.op=12
 ·simp only[RA j,cc];cases D:f.aA.getLast? with
  |none=>rfl
  |some v =>
   simp only[QZ,A0];cases im H f.aP i.a v<;>rfl
 simp only[R1 j];by_cases l:i.op=19
 ·simp only[RA l,Option.map_map];rfl
 simp only[R1 l];by_cases m:i.op=20
 ·simp only[RA m,cc];cases E:j3 f.a8 i.a with
  |none=>rfl
  |some u =>
   cases D:f.aA.getLast? with
   |none=>rfl
   |some v =>
    simp only[QZ,A0];cases im H u i.b v<;>rfl
 simp only[R1 m];by_cases k:i.op=13
 ·simp only[RA k];by_cases d:60<=H.length
  ·rw[RA d,RA d];rfl
  ·rw[R1 d,R1 d];rfl
 simp only[R1 k];rfl
def zN{T:List V}{n:Nat}{a:Int}{v:V}(h:j3 (T.take n) a=some v):j3 T a=some v:=by
 obtain⟨c,b⟩:=l6 h;rw[fC c];rw[Qs] at b;split at b
 ·exact b
 ·cases b
def KM{w:Wd}{H:List Ob}{self:V}{args T aA:List V}{n:Nat}{i:Ins}{r:List Ob×List V×List V×Int}(E:n<=T.length)(h:cH w H self args (T.take n) aA i=some r):
  ∃l,cH w H self args T aA i=some (r.1,l,r.2.2.1,r.2.2.2)/\l.take n=r.2.1/\l.length=T.length/\r.2.1.length=n:=by
 have hl:(T.take n).length=n:=by rw[Qo];omega
 unfold cH at h⊢;by_cases p:i.op=1
 ·rw[RA p] at h⊢;cases h;exact⟨T,rfl,rfl,rfl,hl⟩
 rw[R1 p] at h⊢;by_cases q:i.op=2
 ·rw[RA q] at h⊢;rw[QL] at h;obtain⟨v,b,rfl⟩:=h;rw[b];exact⟨T,rfl,rfl,rfl,hl⟩
 rw[R1 q] at h⊢;by_cases s:i.op=3
 ·rw[RA s] at h⊢;rw[QL] at h;obtain⟨v,b,rfl⟩:=h;rw[zN b];exact⟨T,rfl,rfl,rfl,hl⟩
 rw[R1 s] at h⊢;by_cases t:i.op=4
 ·rw[RA t] at h⊢;cases h;exact⟨T,rfl,rfl,rfl,hl⟩
 rw[R1 t] at h⊢;by_cases x:i.op=5
 ·rw[RA x] at h⊢;cases h;exact⟨T,rfl,rfl,rfl,hl⟩
 rw[R1 x] at h⊢;by_cases y:i.op=6
 ·rw[RA y] at h⊢;cases h;exact⟨T,rfl,rfl,rfl,hl⟩
 rw[R1 y] at h⊢;by_cases z:i.op=7
 ·rw[RA z] at h⊢;cases h;exact⟨T,rfl,rfl,rfl,hl⟩
 rw[R1 z] at h⊢;by_cases A:i.op=8
 ·rw[RA A] at h⊢;cases h;exact⟨T,rfl,rfl,rfl,hl⟩
 rw[R1 A] at h⊢;by_cases B:i.op=9
 ·rw[RA B] at h⊢;rw[QL] at h;obtain⟨v,b,rfl⟩:=h;rw[b];exact⟨T,rfl,rfl,rfl,hl⟩
 rw[R1 B] at h⊢;by_cases c:i.op=10
 ·rw[RA c] at h⊢;rw[QL] at h;obtain⟨v,b,rfl⟩:=h;rw[b];exact⟨T,rfl,rfl,rfl,hl⟩
 rw[R1 c] at h⊢;by_cases d:i.op=11
 ·rw[RA d] at h⊢;obtain⟨v,b,h⟩:=M6 h;rw[b];by_cases m:0<=i.a/\i.a<((T.take n).length:Int)
  ·rw[RA m] at h;cases h;simp only[A0];rw[RA ⟨m.1,d9⟩];exact⟨T.set i.a.toNat v,rfl,by rw[List.take_set],Qa,by rw[Qa,hl]⟩
  ·rw[R1 m] at h;cases h
 rw[R1 d] at h⊢;by_cases e:i.op=12
 ·rw[RA e] at h⊢;obtain⟨v,b,h⟩:=M6 h;rw[QL] at h;obtain⟨C,o,rfl⟩:=h;rw[b];simp only[A0];rw[o];exact⟨T,rfl,rfl,rfl,hl⟩
 rw[R1 e] at h⊢;by_cases g:i.op=19
 ·rw[RA g] at h⊢;rw[QL] at h;obtain⟨v,b,rfl⟩:=h;rw[zN b];exact⟨T,rfl,rfl,rfl,hl⟩
 rw[R1 g] at h⊢;by_cases j:i.op=20
 ·rw[RA j] at h⊢;obtain⟨u,D,h⟩:=M6 h;obtain⟨v,b,h⟩:=M6 h;rw[QL] at h;obtain⟨C,o,rfl⟩:=h;rw[zN D,b];simp only[A0];rw[o];exact⟨T,rfl,rfl,rfl,hl⟩
 rw[R1 j] at h⊢;by_cases f:i.op=13
 ·rw[RA f] at h⊢;by_cases k:60<=H.length
  ·rw[RA k] at h⊢;cases h;exact⟨T,rfl,rfl,rfl,hl⟩
  ·rw[R1 k] at h⊢;cases h;exact⟨T,rfl,rfl,rfl,hl⟩
 rw[R1 f] at h⊢;cases h;exact⟨T,rfl,rfl,rfl,hl⟩
def sy{a b:List V}{v:V}(h:b.getLast?=some v):(a++b).getLast?=some v/\(a++b).dropLast=a++b.dropLast:=by
 obtain⟨c,rfl⟩:=List.getLast?_eq_some_iff.1 h;rw[<-QR];simp
structure uZ(G:List V)(s:Int)(y:Me)(sf:V)(ag tm:List V):Prop where
 s0:0<=s
 s1:s+1+y.args+y.a8<=G.length
 iB:0<=y.args
 ju:0<=y.a8
 la:(ag.length:Int)=y.args
 lt:(tm.length:Int)=y.a8
 nN:G[s.toNat]?=some sf
 nM:∀(a:Nat) v,ag[a]?=some v->G[s.toNat+1+a]?=some v
 jj:∀(a:Nat) v,tm[a]?=some v->G[s.toNat+1+y.args.toNat+a]?=some v
def OE{w:Wd}{H:List Ob}{self gs:V}{args a8 aA gargs G base:List V}{s:Int}{y:Me}{f:Int}{i:Ins}(b:uZ G s y self args a8)(Y:i.op<=13)(N:1<=i.op){r:List Ob×List V×List V×Int}(h:cH w H self args a8 aA i=some r):
  ∃t,cH w H gs gargs G (base++aA) (bj s y f i)=some (r.1,t,base++r.2.2.1,r.2.2.2)/\uZ t s y self args r.2.1/\t.length=G.length/\∀n:Nat,(n:Int)<=s->t.take n=G.take n:=by
 have X:s.toNat<G.length:=by have:=b.s0;have:=b.s1;have:=b.iB;have:=b.ju;omega
 have A:j3 G s=some self:=by rw[fC b.s0];exact b.nN
 unfold cH at h;by_cases p:i.op=1
 ·rw[RA p] at h;cases h;refine⟨G,?_,b,rfl,fun _ _=>rfl⟩;unfold cH bj;simp only[RA p,A];simp
 rw[R1 p] at h;by_cases x:i.op=2
 ·rw[RA x] at h;rw[QL] at h;obtain⟨v,d,rfl⟩:=h;obtain⟨O,B⟩:=l6 d;have K:j3 G (s+1+i.a)=some v:=by
   rw[fC (by have:=b.s0;omega),<-b.nM _ _ B];congr 1;have:=b.s0;omega
  refine⟨G,?_,b,rfl,fun _ _=>rfl⟩;unfold cH bj;simp only[R1 p,RA x,K];simp
 rw[R1 x] at h;by_cases C:i.op=3
 ·rw[RA C] at h;rw[QL] at h;obtain⟨v,d,rfl⟩:=h;obtain⟨O,B⟩:=l6 d;have K:j3 G (s+1+y.args+i.a)=some v:=by
   rw[fC (by have:=b.s0;have:=b.iB;omega),<-b.jj _ _ B];congr 1;have:=b.s0;have:=b.iB;omega
  refine⟨G,?_,b,rfl,fun _ _=>rfl⟩;unfold cH bj;simp only[C];simp[K]
 rw[R1 C] at h;by_cases z:i.op=4
 ·rw[RA z] at h;cases h;refine⟨G,?_,b,rfl,fun _ _=>rfl⟩;unfold cH bj;simp only[z];simp[A]
 rw[R1 z] at h;have c:(i.op=5\/i.op=6\/i.op=7\/i.op=8\/i.op=9\/i.op=10)->bj s y f i=⟨i.op,i.a,0,0,IS⟩:=fun M=>by
  unfold bj;rw[R1 p,R1 x,R1 d9,R1 z,R1 d9,R1 d9,R1 d9]
 by_cases D:i.op=5
 ·rw[RA D] at h;cases h;refine⟨G,?_,b,rfl,fun _ _=>rfl⟩;rw[c d9];unfold cH;simp only[D];simp
 rw[R1 D] at h;by_cases E:i.op=6
 ·rw[RA E] at h;cases h;refine⟨G,?_,b,rfl,fun _ _=>rfl⟩;rw[c d9];unfold cH;simp only[E];simp
 rw[R1 E] at h;by_cases F:i.op=7
 ·rw[RA F] at h;cases h;refine⟨G,?_,b,rfl,fun _ _=>rfl⟩;rw[c d9];unfold cH;simp only[F];simp
 rw[R1 F] at h;by_cases I:i.op=8
 ·rw[RA I] at h;cases h;refine⟨G,?_,b,rfl,fun _ _=>rfl⟩;rw[c d9];unfold cH;simp only[I];simp
 rw[R1 I] at h;by_cases J:i.op=9
 ·rw[RA J] at h;rw[QL] at h;obtain⟨v,d,rfl⟩:=h;obtain⟨e1,o⟩:=sy (a:=base) d;refine⟨G,?_,b,rfl,fun _ _=>rfl⟩;rw[c d9];unfold cH;simp only[J,e1,o];simp
 rw[R1 J] at h;by_cases g:i.op=10
 ·rw[RA g] at h;rw[QL] at h;obtain⟨v,d,rfl⟩:=h;obtain⟨e1,o⟩:=sy (a:=base) d;refine⟨G,?_,b,rfl,fun _ _=>rfl⟩;rw[c d9];unfold cH;simp only[g,e1];simp
 rw[R1 g] at h;by_cases j:i.op=11
 ·rw[RA j] at h;obtain⟨v,d,h⟩:=M6 h;obtain⟨e1,o⟩:=sy (a:=base) d;by_cases L:0<=i.a/\i.a<(a8.length:Int)
  ·rw[RA L] at h;cases h;have P:=b.s0;have Q:=b.s1;have R:=b.iB;have S:=b.ju;have T:=b.lt;have U:=b.la;refine⟨G.set (s+1+y.args+i.a).toNat v,?_,⟨P,by rw[Qa];exact Q,R,S,U,by rw[Qa];exact T,?_,fun a u m=>?_,fun a u m=>?_⟩,Qa,fun n hn=>?_⟩
   ·unfold cH bj;simp only[j,e1,o];simp;omega
   ·rw[List.getElem?_set_ne d9];exact b.nN
   ·have W:a<args.length:=(OR.1 m).1;rw[List.getElem?_set_ne d9];exact b.nM a u m
   ·by_cases q:a=i.a.toNat
    ·subst q;have hl:i.a.toNat<a8.length:=d9;rw[List.getElem?_set_self hl] at m;cases m;rw[show s.toNat+1+y.args.toNat+i.a.toNat=(s+1+y.args+i.a).toNat by omega,List.getElem?_set_self d9]
    ·rw[List.getElem?_set_ne (Ne.symm q)] at m;rw[List.getElem?_set_ne d9];exact b.jj a u m
   ·rw[List.take_set_of_le d9]
  ·rw[R1 L] at h;cases h
 rw[R1 j] at h;by_cases k:i.op=12
 ·rw[RA k] at h;obtain⟨v,d,h⟩:=M6 h;rw[QL] at h;obtain⟨Z,M,rfl⟩:=h;obtain⟨e1,o⟩:=sy (a:=base) d;refine⟨G,?_,b,rfl,fun _ _=>rfl⟩;unfold cH bj;simp only[k,A,e1,o];simp[A,M]
 rw[R1 k] at h;have l:i.op=13:=d9;rw[R1 d9,R1 d9,RA l] at h;by_cases e:60<=H.length
 ·rw[RA e] at h;cases h;refine⟨G,?_,b,rfl,fun _ _=>rfl⟩;unfold cH bj;simp only[l];simp[e]
 ·rw[R1 e] at h;cases h;refine⟨G,?_,b,rfl,fun _ _=>rfl⟩;unfold cH bj;simp only[l];simp[e]
inductive dM(w:Wd)(fuel:Int)(L:St->Int->ByteArray->Int×Int)(Q:Int->Int->Fs×Bool):Cf->Cf->Prop
 |refl (c:Cf):dM w fuel L Q c c
 |step {c c1 c2:Cf}:c.err=0->c.fs≠[]->Wk w Q c->L6 w fuel L Q c=some c1->mu fuel c1<mu fuel c->dM w fuel L Q c1 c2->dM w fuel L Q c c2
section
variable {w:Wd}{fuel:Int}{L:St->Int->ByteArray->Int×Int}{Q:Int->Int->Fs×Bool}
def dM.trans{a b c:Cf}(h:dM w fuel L Q a b)(d:dM w fuel L Q b c):dM w fuel L Q a c:=by
 induction h with
 |refl=>exact d
 |step e f g i j _ ih=>exact .step e f g i j (ih d)
def dM.path{a b:Cf}(h:dM w fuel L Q a b):Path w fuel L Q a b:=by
 induction h with
 |refl=>exact .refl _
 |step c d _ e _ _ ih=>exact .step c d e ih
end
def qF(w:Wd)(S:Int->Int->List Int):Int->Int->Fs×Bool:=fun k j=>kB w k j (S k j)
def bN(w:Wd)(S:Int->Int->List Int)(k j:Int)(m:Me):List O4×Int:=K6 w (S k j) m.code.length m.code 0 0 m.a8
def d19{w:Wd}{S:Int->Int->List Int}{k j:Int}{x:Cl}{m:Me}(b:j3 w.a7 k=some x)(a:j3 x.aB j=some m):
  qF w S k j=if(bN w S k j m).1.any O4.ek=true then(⟨k,m.name,w.aC,(bN w S k j m).2,eK (Z4 (bN w S k j m).1 0) (bN w S k j m).1 0⟩,true) else(⟨0,IS,0,0,[]⟩,false):=by
 have c:=fo b;have d:=fo a;unfold qF kB;rw[R1 d9,(l6 b).2];simp only;rw[(l6 a).2];rfl
def zL(w:Wd)(a:eZ w)(sites:List Int)(L:Nat):∀(r:List Ins) (k size:Nat) (t:Int),t<=40->(K6 w sites L r k size t).2<=40
 |[],k,size,t,h=>h
 |i::r,k,size,t,h=>by
  rw[K6];split
  ·rename_i y c b;have:=(qh b).2.2.2.2.2.2.2;exact zL w a sites L r _ _ _ d9
  ·exact zL w a sites L r _ _ t h
def FP : ∀l:List O4,bM l l.length=pW l
 |[]=>rfl
 |x::l=>by simp only[QI,bM,pW,FP l]
def MX(l:List O4):bM l 0=0:=by cases l<;>rfl
structure FF(w:Wd)(S:Int->Int->List Int)(g p:j4)(m:Me):Prop where
 aZ:g.aZ=true
 bn:p.aZ=false
 cls:g.aE=p.aE
 j9:g.aJ=p.aJ
 self:g.aP=p.aP
 args:g.args=p.args
 ak:∃x,j3 w.a7 p.aE=some x/\j3 x.aB p.aJ=some m
 bt:p.code=m.code
 codeF:g.code=eK (Z4 (bN w S p.aE p.aJ m).1 0) (bN w S p.aE p.aJ m).1 0
 len:(g.a8.length:Int)=(bN w S p.aE p.aJ m).2
 eE:(p.a8.length:Int)=m.a8
 tk:g.a8.take p.a8.length=p.a8
inductive FR(w:Wd)(S:Int->Int->List Int):j4->j4->Prop
 |same {f:j4}:f.aZ=false->FR w S f f
 |aZ {g p:j4} {m:Me}:FF w S g p m->g.aA=p.aA->0<=p.aH->g.aH=(bM (bN w S p.aE p.aJ m).1 p.aH.toNat:Int)->FR w S g p
inductive eG(w:Wd)(S:Int->Int->List Int):List j4->List j4->Prop
 |nil:eG w S [] []
 |cons {g p:j4} {G P:List j4}:FR w S g p->eG w S G P->eG w S (g::G) (p::P)
structure re(w:Wd)(S:Int->Int->List Int)(g h p:j4)(m y:Me)(q:Nat)(s c:Int):Prop where
 ff:FF w S g p m
 item:(bN w S p.aE p.aJ m).1[q]?=some (.pc y s c (q:Int))
 aH:p.aH=(q:Int)+1
 uN:h.aZ=false
 bu:h.code=y.code
 ji:0<=h.aH
 aa:g.aH=((bM (bN w S p.aE p.aJ m).1 q+hl y:Nat):Int)+h.aH
 aA:g.aA=p.aA++h.aA
 ms:m.a8<=s
 a8:uZ g.a8 s y h.aP h.args h.a8
 leaf:gU y=true
structure cy(a b:Cf):Prop where
 heap:a.heap=b.heap
 sends:a.sends=b.sends
 turns:a.turns=b.turns
 back:a.back=b.back
 err:a.err=b.err
inductive CR(w:Wd)(S:Int->Int->List Int)(a b:Cf):Prop
 |out:cy a b->eG w S a.fs b.fs->CR w S a b
 |px {g h p:j4} {G P:List j4} {m y:Me} {q:Nat} {s c:Int}:cy a b->a.fs=g::G->b.fs=h::p::P->eG w S G P->re w S g h p m y q s c->CR w S a b
def eG.len{w:Wd}{S:Int->Int->List Int}{F G:List j4}(h:eG w S F G):F.length=G.length:=by
 induction h with
 |nil=>rfl
 |cons _ _ ih=>simp[ih]
def FF.push{w:Wd}{S:Int->Int->List Int}{g p:j4}{m:Me}(h:FF w S g p m)(v u:V):FF w S (L9 g v) (L9 p u) m :=
 ⟨h.aZ,h.bn,h.cls,h.j9,h.self,h.args,h.ak,h.bt,h.codeF,h.len,h.eE,h.tk⟩
def FR.push{w:Wd}{S:Int->Int->List Int}{g p:j4}(h:FR w S g p)(v:V):FR w S (L9 g v) (L9 p v):=by
 cases h with
 |same h=>exact .same h
 |aZ h a b c=>exact .aZ (h.push v v) (by simp[L9,a]) b c
def FI{w:Wd}{S:Int->Int->List Int}{a b:Cf}(hS:cy a b)(c:eG w S a.fs b.fs)(v:V):cy (cm a v) (cm b v)/\eG w S (cm a v).fs (cm b v).fs:=by
 unfold cm;cases e:b.fs with
 |nil =>
  rw[e] at c;have:a.fs=[]:=by
   cases d:a.fs with
   |nil=>rfl
   |cons x l=>rw[d] at c;cases c
  simp only[this];exact⟨⟨hS.heap,hS.sends,hS.turns,rfl,hS.err⟩,.nil⟩
 |cons p P =>
  rw[e] at c;cases d:a.fs with
  |nil=>rw[d] at c;cases c
  |cons g G =>
   rw[d] at c;cases c with
   |cons f h=>exact⟨⟨hS.heap,hS.sends,hS.turns,hS.back,hS.err⟩,.cons (f.push v) h⟩
section
variable {w:Wd}{fuel:Int}{S:Int->Int->List Int}
def A6(W:cI w)(e:eZ w){k j:Int}{x:Cl}{m:Me}(c:j3 w.a7 k=some x)(b:j3 x.aB j=some m)(f:0<=m.a8)(self:V)(args:List V):FR w S (fH (qF w S) k j m self args) (fH bQ k j m self args):=by
 have d:fH bQ k j m self args=⟨k,j,false,m.code,self,args,QH m.a8.toNat ⟨0,0⟩,[],0⟩:=qm (fun _ _=>rfl) k j m self args;rw[d];unfold fH;rw[d19 c b];by_cases h:(bN w S k j m).1.any O4.ek=true
 ·rw[RA h];simp only[if_true];have a:=qY w e (S k j) m.code.length m.code 0 0 m.a8;have a:m.a8<=(bN w S k j m).2:=a;refine .aZ (m:=m) ⟨rfl,rfl,rfl,rfl,rfl,rfl,⟨x,c,b⟩,rfl,rfl,?_,?_,?_⟩ rfl (QQ _) ?_
  ·simp only[List.length_replicate];omega
  ·simp only[List.length_replicate];omega
  ·simp only[List.length_replicate,List.take_replicate];congr 1;omega
  ·simp[MX]
 ·rw[R1 h];exact .same rfl
def EF(W:cI w)(s:eZ w){a b i:Cf}(hS:cy a b)(d:eG w S a.fs b.fs){k j:Int}{self:V}{args:List V}(h:fO w fuel bQ b k j self args=some i):
  ∃g,fO w fuel (qF w S) a k j self args=some g/\cy g i/\eG w S g.fs i.fs:=by
 obtain⟨x,m,o,n,h⟩:=lW h;have p:=d.len;unfold fO;simp only[o,n,A0];rcases h with⟨g1,rfl⟩|⟨g1,f,rfl⟩|⟨g1,f,e,v,u,h⟩|⟨g1,f,e,r,rfl⟩|⟨g1,f,e,r,rfl⟩
 ·rw[RA g1];exact⟨_,rfl,⟨hS.heap,hS.sends,hS.turns,hS.back,rfl⟩,d⟩
 ·rw[R1 (by simpa using g1)];have:fuel<=a.sends:=by rw[hS.sends];exact f
  refine⟨I7 a 13,?_,⟨hS.heap,hS.sends,hS.turns,hS.back,rfl⟩,d⟩;by_cases q:m.aS=0
  ·rw[R1 (by simpa using q),RA this]
  ·rw[RA q,RA this]
 ·rw[R1 (by simpa using g1),RA e,R1 (by rw[hS.sends];omega),u];simp only[A0];have c:cy { a with sends:=a.sends+1 } { b with sends:=b.sends+1 }:=⟨hS.heap,by simp only;rw[hS.sends],hS.turns,hS.back,hS.err⟩;rcases h with⟨l,rfl⟩|⟨l,rfl⟩
  ·rw[RA l];exact⟨_,rfl,⟨c.heap,c.sends,c.turns,c.back,rfl⟩,d⟩
  ·rw[R1 (by simpa using l)];obtain⟨y,z⟩:=FI c (w:=w) (S:=S) d (ck m.aS self v).1;exact⟨_,rfl,y,z⟩
 ·rw[R1 (by simpa using g1),R1 (by simpa using e),R1 (by rw[hS.sends];omega),RA d9];exact⟨_,rfl,⟨hS.heap,hS.sends,hS.turns,hS.back,rfl⟩,d⟩
 ·rw[R1 (by simpa using g1),R1 (by simpa using e),R1 (by rw[hS.sends];omega),R1 d9];have t:0<=m.a8:=(W.a8 x (Z5 o) m (Z5 n)).1;exact⟨_,rfl,⟨hS.heap,by simp only;rw[hS.sends],hS.turns,hS.back,hS.err⟩,.cons (A6 W s o n t self args) d⟩
end
def NQ(a:List Int)(i:Ins):(fu a i).op=i.op/\(fu a i).b=i.b/\(fu a i).name=i.name:=by
 unfold fu pa;split<;>exact⟨rfl,rfl,rfl⟩
def Ok(b:List Int)(i:Ins)(h:i.op≠15)(c:i.op≠16):(fu b i).a=i.a:=by
 unfold fu eO;rw[RD h,RD c];rfl
def N6(b:List Int)(i:Ins)(h:i.op=15\/i.op=16):(fu b i).a=(b[i.a.toNat]?).getD 0:=by
 unfold fu eO pa;rcases h with h|h<;>rw[h]<;>rfl
def Lp(k:Nat)(i:Ins):(cZ k i).op=i.op/\(cZ k i).a=i.a/\(cZ k i).b=i.b/\(cZ k i).name=i.name:=by
 unfold cZ;split<;>exact⟨rfl,rfl,rfl,rfl⟩
def Lr{w:Wd}{H:List Ob}{self:V}{args a8 aA:List V}{i c:Ins}(d:c.op=i.op)(e:c.a=i.a)(f:c.b=i.b):cH w H self args a8 aA c=cH w H self args a8 aA i:=by
 unfold cH;rw[d,e,f]
section
variable {w:Wd}{S:Int->Int->List Int}{fuel:Int}
def FB{N:Nat}(W:cI w)(a:eZ w):∀k j,(qF w S k j).2=true->0<=(qF w S k j).1.a8/\(qF w S k j).1.a8<=1000:=by
 intro k j h;have g:¬(k<0\/(w.a7.length:Int)<=k\/j<0):=fun n=>by
  unfold qF kB at h;rw[RA n] at h;cases h
 obtain⟨x,f,d⟩:=V7 (l:=w.a7) (i:=k) d9 d9;cases b:x.aB[j.toNat]? with
 |none =>
  unfold qF kB at h;rw[R1 g,f] at h;simp only[b] at h;cases h
 |some m =>
  have c:j3 x.aB j=some m:=by rw[fC d9,b]
  rw[d19 d c] at h⊢;by_cases e:(bN w S k j m).1.any O4.ek=true
  ·rw[RA e];have o:m.a8<=(bN w S k j m).2:=qY w a (S k j) m.code.length m.code 0 0 m.a8;have q:=(a _ x f m (QM b)).toLeafy.a8;have p:(bN w S k j m).2<=40:=zL w a (S k j) m.code.length m.code 0 0 m.a8 d9;simp only;omega
  ·rw[R1 e] at h;cases h
def FF.e9{g p:j4}{m:Me}(W:cI w)(h:FF w S g p m):g.code.length<=240/\p.code.length<=60:=by
 obtain⟨x,c,b⟩:=h.ak;have a:=W.code x (Z5 c) m (Z5 b);refine⟨?_,by rw[h.bt];exact a⟩;rw[h.codeF,zR,FP];have:=zD w (S p.aE p.aJ) m.code.length m.code 0 0 m.a8 rfl d9;simpa[bN] using this
def FR.wk{g p:j4}{n:Int}{d:Nat}(W:cI w)(h:FR w S g p)(f:dm w n d p):cN g:=by
 obtain⟨m,o,R⟩:=f;obtain⟨i,_,_,_,_,l,_⟩:=R.len;cases h with
 |same q=>exact⟨d9,by rw[R.code];have:=R.me.len;omega,fun v a b=>(R.ae v a).num b⟩
 |aZ e c j k=>exact⟨by rw[c];omega,by have:=(e.e9 W).1;omega,fun v a b=>by rw[c] at a;exact(R.ae v a).num b⟩
def eG.wk{G P:List j4}{n:Int}(W:cI w)(h:eG w S G P)(b:∀p∈P,∃d,dm w n d p):∀g∈G,cN g:=by
 induction h with
 |nil=>intro g e;cases e
 |@cons g p G P c i ih =>
  intro x a;rcases QG.1 a with rfl|a
  ·obtain⟨d,hd⟩:=b p l9;exact c.wk W hd
  ·exact ih (fun q f=>b q (by simp[f])) x a
def Eu{N:Nat}(W:cI w)(d:eZ w){a b:Cf}(I:cd w fuel b)(g:a.heap=b.heap)(i:-1000000<=a.sends/\a.sends<=100000)(l:a.turns=b.turns)(hl:a.fs.length<=900)(e:∀f∈a.fs,cN f):Wk w (qF w S) a:=by
 have c:=I.wk W (Q:=bQ) (fun k j h=>by cases h);exact⟨c.cls,c.ak,c.aG,FB (N:=N) W d,by rw[g];exact c.heap,hl,e,i,by rw[l];exact c.turns⟩
def FF.sE{g p:j4}{m:Me}(h:FF w S g p m){q:Nat}{i:Ins}(hi:(bN w S p.aE p.aJ m).1[q]?=some (.pl i)):j3 g.code ((bM (bN w S p.aE p.aJ m).1 q:Nat):Int)=some (fu (Z4 (bN w S p.aE p.aJ m).1 0) i):=by
 rw[q9,h.codeF];exact AF _ _ 0 q i hi
def FF.mQ{g p:j4}{m y:Me}{s c:Int}(h:FF w S g p m){q:Nat}(hi:(bN w S p.aE p.aJ m).1[q]?=some (.pc y s c (q:Int))){r:Nat}(a:r<Q8 y):
  j3 g.code ((bM (bN w S p.aE p.aJ m).1 q+r:Nat):Int)=(eW y s c (q:Int) (bM (bN w S p.aE p.aJ m).1 q))[r]?:=by
 rw[q9,h.codeF,zf _ _ 0 q y s c _ hi r a,Qg]
def LP{y:Me}{s c p:Int}{b r:Nat}(a:r<y.code.length):(eW y s c p b)[hl y+r]?=(y.code[r]?).map (bj s y ((b+hl y:Nat):Int)):=by
 unfold eW hl;rw[show 3+y.args.toNat+2*y.a8.toNat+r=(1+y.args.toNat+2*y.a8.toNat+r)+1+1 by omega,Qw,Qw,
  QY (by simp[iH,k7];omega)]
 simp only[Of,iH,k7];rw[show 1+y.args.toNat+2*y.a8.toNat+r-(y.args.toNat+1+2*y.a8.toNat)=r by omega,Qi]
def FF.item{g p:j4}{m:Me}(j:eZ w)(h:FF w S g p m)(b:0<=p.aH){i:Ins}(hi:j3 p.code p.aH=some i):
  (bN w S p.aE p.aJ m).1[p.aH.toNat]?=some (.pl (cZ p.aH.toNat i)) \/
  ∃y t c sz,dz w (S p.aE p.aJ) m.code.length p.aH.toNat i sz t=some (y,c)/\m.a8<=t/\(bN w S p.aE p.aJ m).1[p.aH.toNat]?=some (.pc y t c ((p.aH.toNat:Nat):Int))/\t+1+y.args+y.a8<=(bN w S p.aE p.aJ m).2:=by
 rw[h.bt,fC b] at hi;obtain⟨t,sz,d,a⟩:=zS w j (S p.aE p.aJ) m.code.length m.code 0 0 m.a8 p.aH.toNat i hi;rw[Qg] at a;rcases a with⟨_,a⟩|⟨y,c,a,e,f⟩
 ·exact .inl a
 ·exact .inr ⟨y,t,c,sz,a,d,e,f⟩
def FW(k j:Int)(m:Me):(bN w S k j m).1.length=m.code.length:=zI w (S k j) m.code.length m.code 0 0 m.a8
def oz{a:Cf}{g g1:j4}{G:List j4}{b:Cf}(j:a.err=0)(c:a.fs=g::G)(d:Wk w (qF w S) a)(e:L6 w fuel (fun _ k s=>l7 w s k) (qF w S) a=some b)(f:b.fs=g1::G)(h:b.sends=a.sends)(i:b.turns=a.turns)(l:bA g1+1<=bA g):
  dM w fuel (fun _ k s=>l7 w s k) (qF w S) a b:=by
 refine .step j (by rw[c];simp) d e ?_ (.refl _);simp only[mu,c,f,h,i,QO,QX];omega
end
structure d15(w:Wd)(S:Int->Int->List Int)(g p:j4)(iF i:Ins):Prop where
 st:g.aA=p.aA
 self:g.aP=p.aP
 args:g.args=p.args
 cls:g.aE=p.aE
 j9:g.aJ=p.aJ
 tk:g.a8.take p.a8.length=p.a8
 tl:p.a8.length<=g.a8.length
 aH:j3 g.code g.aH=some iF
 op:iF.op=i.op
 nm:iF.name=i.name
 b:iF.b=i.b
 a:i.op≠15->i.op≠16->iF.a=i.a
 e9:g.code.length<=240
 next:∀T Tp S',T.length=g.a8.length->Tp.length=p.a8.length->T.take p.a8.length=Tp->FR w S { g with aH:=g.aH+1,a8:=T,aA:=S' } { p with aH:=p.aH+1,a8:=Tp,aA:=S' }
 jmp:i.op=15\/i.op=16->0<=iF.a/\(iF.a<g.aH+1↔i.a<p.aH+1)/\∀S',FR w S { g with aH:=iF.a,aA:=S' } { p with aH:=i.a,aA:=S' }
section
variable {w:Wd}{S:Int->Int->List Int}{fuel:Int}
def E7(W:cI w){p:j4}{i:Ins}(b:p.aZ=false)(e:p.code.length<=240)(hi:j3 p.code p.aH=some i)(f:i.op=15\/i.op=16->0<=i.a):d15 w S p p i i :=
 ⟨rfl,rfl,rfl,rfl,rfl,List.take_length,NO _,hi,rfl,rfl,rfl,fun _ _=>rfl,e,fun T Tp c g j d=>by
  have:T=Tp:=by rw[<-d,List.take_of_length_le d9]
  subst this;exact .same b,fun h=>⟨f h,Iff.rfl,fun c=>.same b⟩⟩
def LJ(W:cI w)(D:eZ w){g p:j4}{m:Me}{i:Ins}(h:FF w S g p m)(k:g.aA=p.aA)(I:0<=p.aH)(aa:g.aH=(bM (bN w S p.aE p.aJ m).1 p.aH.toNat:Int))(hi:j3 p.code p.aH=some i)(c:(bN w S p.aE p.aJ m).1[p.aH.toNat]?=some (.pl (cZ p.aH.toNat i)))(G:i.op=15\/i.op=16->0<=i.a/\i.a<m.code.length):
  d15 w S g p (fu (Z4 (bN w S p.aE p.aJ m).1 0) (cZ p.aH.toNat i)) i:=by
 obtain⟨e1,B,C⟩:=NQ (Z4 (bN w S p.aE p.aJ m).1 0) (cZ p.aH.toNat i);obtain⟨d,r,z,A⟩:=Lp p.aH.toNat i;have j:=fo hi;rw[h.bt] at j;have E:p.a8.length<=g.a8.length:=by
  have J:=h.len;have K:=h.eE;have:m.a8<=(bN w S p.aE p.aJ m).2:=qY w D (S p.aE p.aJ) m.code.length m.code 0 0 m.a8;omega
 refine⟨k,h.self,h.args,h.cls,h.j9,h.tk,E,by rw[aa];exact h.sE c,by rw[e1,d],by rw[C,A],by rw[B,z],fun u v=>by rw[Ok _ _ (by rw[d];exact u) (by rw[d];exact v),r],(h.e9 W).1,fun T Tp t x o y=>?_,fun b=>?_⟩
 ·refine .aZ (m:=m) ⟨h.aZ,h.bn,h.cls,h.j9,h.self,h.args,h.ak,h.bt,h.codeF,by simp only;rw[x];exact h.len,by simp only;rw[o];exact h.eE,by simp only;rw[o];exact y⟩ rfl bL ?_;simp only;rw[show(p.aH+1).toNat=p.aH.toNat+1 by omega,ze c,aa];simp[O4.len]
 ·obtain⟨H,L⟩:=G b;have f:i.a.toNat<(bN w S p.aE p.aJ m).1.length:=by rw[FW];omega
  have n:(fu (Z4 (bN w S p.aE p.aJ m).1 0) (cZ p.aH.toNat i)).a=((bM (bN w S p.aE p.aJ m).1 i.a.toNat:Nat):Int):=by
   rw[N6 _ _ (by rw[d];exact b),r,Dl _ 0 _ f,Qg];rfl
  rw[n];refine⟨d9,?_,fun t=>.aZ (m:=m) ⟨h.aZ,h.bn,h.cls,h.j9,h.self,h.args,h.ak,h.bt,h.codeF,h.len,h.eE,h.tk⟩ rfl H rfl⟩;rw[aa];have s:p.aH.toNat<(bN w S p.aE p.aJ m).1.length:=by rw[FW];omega
  constructor
  ·intro F;by_cases e:i.a<p.aH+1
   ·exact e
   ·have:=d89 (l:=(bN w S p.aE p.aJ m).1) (p:=p.aH.toNat) (q:=i.a.toNat) d9 d9;omega
  ·intro F;by_cases e:i.a.toNat=p.aH.toNat
   ·rw[e];omega
   ·have:=d89 (l:=(bN w S p.aE p.aJ m).1) (p:=i.a.toNat) (q:=p.aH.toNat) d9 d9;omega
def AJ{f:j4}{v:V}(h:f.aA.getLast?=some v):cc f=some (v,{ f with aA:=f.aA.dropLast }):=by
 unfold cc;rw[h];rfl
def Eh(W:cI w)(hL:eZ w){a b Z:Cf}{g p:j4}{G P:List j4}{d i:Ins}(hS:cy a b)(j:a.fs=g::G)(hb:b.fs=p::P)(K:eG w S G P)(R:d15 w S g p d i)(he:b.err=0)(I:cd w fuel b)(Wk0:Wk w (qF w S) a)(hi:j3 p.code p.aH=some i)(hop:i.op<=17)(c:L6 w fuel (fun _ k s=>l7 w s k) bQ b=some Z):
  ∃n,dM w fuel (fun _ k s=>l7 w s k) (qF w S) a n/\cy n Z/\(Z.err=0->eG w S n.fs Z.fs):=by
 have O:a.err=0:=by rw[hS.err];exact he
 have hgl:=fo R.aH;have hglen:=R.e9;have H:bA { g with aH:=g.aH+1 }+1=bA g:=qp hgl.2;have step:∀n,L6 w fuel (fun _ k s=>l7 w s k) (qF w S) a=some n->mu fuel n<mu fuel a->dM w fuel (fun _ k s=>l7 w s k) (qF w S) a n:=fun n h1 h2=>.step O (by rw[j];simp) Wk0 h1 h2 (.refl _);have aa:L6 w fuel (fun _ k s=>l7 w s k) (qF w S) a=(if d.op=14 then kq w fuel (fun _ k s=>l7 w s k) (qF w S) a { g with aH:=g.aH+1 } G d g.aH
  else if d.op=15 then some (cQ a { g with aH:=g.aH+1 } G d.a)
  else if d.op=16 then(cc { g with aH:=g.aH+1 }).map (kN a G d)
  else if d.op=17 then(cc { g with aH:=g.aH+1 }).map fun q=>cm { a with fs:=G } q.1
  else if d.op=18 then mU w a { g with aH:=g.aH+1 } G d
  else if d.op=21 then some (iv fuel { a with fs:={ g with aH:=g.aH+1 }::G })
  else k9 w a { g with aH:=g.aH+1 } G d):=by
  unfold L6;rw[j];simp only[R.aH,A0]
 rw[R.op] at aa;unfold L6 at c;rw[hb] at c;simp only[hi,A0] at c;have T:∀(X:List V) (to t:Int),0<=to->(to<g.aH+1↔t<p.aH+1)->FR w S { g with aH:=to,aA:=X } { p with aH:=t,aA:=X } ->
   cy (cQ a { g with aH:=g.aH+1,aA:=X } G to) (cQ b { p with aH:=p.aH+1,aA:=X } P t)/\eG w S (cQ a { g with aH:=g.aH+1,aA:=X } G to).fs (cQ b { p with aH:=p.aH+1,aA:=X } P t).fs /\
   mu fuel (cQ a { g with aH:=g.aH+1,aA:=X } G to)<mu fuel a:=by
  intro X to t h0 D z;have ht:=I.turns;unfold cQ;simp only;by_cases E:to<g.aH+1
  ·rw[RA E,RA (D.1 E)];refine⟨⟨hS.heap,hS.sends,by simp only;rw[hS.turns],hS.back,by simp only;rw[hS.turns,hS.err]⟩,.cons z K,?_⟩;have:=hS.turns;have e1:bA { g with aH:=to,aA:=X }<=bA g+240:=by
    unfold bA;simp only;omega
   simp only[mu,j,QO,QX];omega
  ·rw[R1 E,R1 (fun h=>E (D.2 h))];refine⟨⟨hS.heap,hS.sends,hS.turns,hS.back,hS.err⟩,.cons z K,?_⟩;have e1:bA { g with aH:=to,aA:=X }+1<=bA g:=by
    unfold bA;simp only;omega
   simp only[mu,j,QO,QX];omega
 by_cases M:i.op=14
 ·rw[RA M] at c aa;obtain⟨x,cl,m,k0,Y,hy,E,Q,h⟩:=mX c;simp only at Y hy E Q;have ea:d.a=i.a:=R.a d9 d9;have key:L6 w fuel (fun _ k s=>l7 w s k) (qF w S) a=(if(l7 w i.name (y9 b.heap x)).2<0 then some (I7 { a with fs:={ g with aH:=g.aH+1 }::G,ev:=a.ev++[(P7 { g with aH:=g.aH+1 } m d g.aH,y9 b.heap x)] } 10)
    else fO w fuel (qF w S) { a with fs:={ g with aH:=g.aH+1,aA:=p.aA.take (p.aA.length-i.a.toNat-1) }::G,ev:=a.ev++[(P7 { g with aH:=g.aH+1 } m d g.aH,y9 b.heap x)] }
     (l7 w i.name (y9 b.heap x)).1 (l7 w i.name (y9 b.heap x)).2 x (p.aA.drop (p.aA.length-i.a.toNat))):=by
   rw[aa];unfold kq;simp only[ea,R.st,R.nm,R.cls,R.j9,hS.heap];rw[RA ⟨k0,Y⟩];simp only[hy,E,Q,A0]
  rcases h with⟨h2,rfl⟩|⟨h2,h⟩
  ·rw[RA h2] at key;refine⟨_,step _ key ?_,⟨hS.heap,hS.sends,hS.turns,hS.back,rfl⟩,fun e=>by cases e⟩;simp only[mu,j,I7,QO,QX];omega
  ·rw[R1 d9] at key;have z:=R.next g.a8 p.a8 (p.aA.take (p.aA.length-i.a.toNat-1)) rfl rfl R.tk;obtain⟨n,l,B,L⟩:=EF (fuel:=fuel) W hL (a:={ a with fs:={ g with aH:=g.aH+1,aA:=p.aA.take (p.aA.length-i.a.toNat-1) }::G,ev:=a.ev++[(P7 { g with aH:=g.aH+1 } m d g.aH,y9 b.heap x)] })
    (by exact⟨hS.heap,hS.sends,hS.turns,hS.back,hS.err⟩) (by exact .cons z K) h
   rw[<-key] at l;refine⟨n,step n l ?_,B,fun _=>L⟩;rw[key] at l;obtain⟨x2,m2,J,F,hh⟩:=lW l;have e0:bA { g with aH:=g.aH+1,aA:=p.aA.take (p.aA.length-i.a.toNat-1) }+1=bA g:=H;rcases hh with⟨_,rfl⟩|⟨_,_,rfl⟩|⟨_,A,_,v,_,hh⟩|⟨_,_,_,_,rfl⟩|⟨_,A,_,_,rfl⟩
   ·simp only[mu,j,I7,QO,QX];omega
   ·simp only[mu,j,I7,QO,QX];omega
   ·rcases hh with⟨_,rfl⟩|⟨_,rfl⟩
    ·simp only at A;simp only[mu,j,I7,QO,QX];omega
    ·rw[tn];simp only at A;simp only[mu,j,QO,QX];omega
   ·simp only[mu,j,I7,QO,QX];omega
   ·simp only at A;have hnew:bA (fH (qF w S) (l7 w i.name (y9 b.heap x)).1 (l7 w i.name (y9 b.heap x)).2 m2 x (p.aA.drop (p.aA.length-i.a.toNat)))<=320:=by
     have C:=A6 (S:=S) W hL J F (W.a8 x2 (Z5 J) m2 (Z5 F)).1 x (p.aA.drop (p.aA.length-i.a.toNat));have hc60:=W.code x2 (Z5 J) m2 (Z5 F);generalize hg:fH (qF w S) (l7 w i.name (y9 b.heap x)).1 (l7 w i.name (y9 b.heap x)).2 m2 x (p.aA.drop (p.aA.length-i.a.toNat))=ng at C;have ji:ng.aH=0:=by rw[<-hg];unfold fH;split<;>rfl
     unfold bA;rw[ji];have hcl:ng.code.length<=240:=by
      cases C with
      |same hs=>rw[qm (fun _ _=>rfl)];simp only;omega
      |aZ hff=>exact(hff.e9 W).1
     split<;>omega
    simp only[mu,j,QO,QX];omega
 rw[R1 M] at c aa;by_cases u:i.op=15
 ·rw[RA u] at c aa;cases c;obtain⟨j0,j1,j2⟩:=R.jmp (.inl u);obtain⟨l,B,L⟩:=T p.aA d.a i.a j0 j1 (j2 p.aA);rw[<-R.st] at l B L;refine⟨_,step _ aa L,?_,fun _=>?_⟩
  ·rw[R.st] at l⊢;exact l
  ·rw[R.st] at B⊢;exact B
 rw[R1 u] at c aa;by_cases y:i.op=16
 ·rw[RA y] at c aa;rw[QL] at c;obtain⟨⟨v,f2⟩,hv,rfl⟩:=c;obtain⟨o,U⟩:=fi hv;simp only at o U;subst U;have hg:cc { g with aH:=g.aH+1 }=some (v,{ g with aH:=g.aH+1,aA:=p.aA.dropLast }):=by
   rw[AJ (f:={ g with aH:=g.aH+1 }) (v:=v) (by rw[show({ g with aH:=g.aH+1 }:j4).aA=g.aA from rfl,R.st];exact o)];simp only[R.st]
  rw[hg] at aa;simp only[QZ] at aa;have hn:=R.next g.a8 p.a8 p.aA.dropLast rfl rfl R.tk;obtain⟨j0,j1,j2⟩:=R.jmp (.inr y);unfold kN at aa⊢;by_cases Y:v.k=1
  ·rw[RA Y] at aa⊢;obtain⟨l,B,L⟩:=T p.aA.dropLast d.a i.a j0 j1 (j2 p.aA.dropLast);exact⟨_,step _ aa L,l,fun _=>B⟩
  ·rw[R1 Y] at aa⊢;have Q:mu fuel { a with fs:={ g with aH:=g.aH+1,aA:=p.aA.dropLast }::G }<mu fuel a:=by
    have e0:bA { g with aH:=g.aH+1,aA:=p.aA.dropLast }+1=bA g:=H;simp only[mu,j,QO,QX];omega
   by_cases k2:v.k=2
   ·rw[RA k2] at aa⊢;exact⟨_,step _ aa Q,⟨hS.heap,hS.sends,hS.turns,hS.back,hS.err⟩,fun _=>.cons hn K⟩
   ·rw[R1 k2] at aa⊢;exact⟨_,step _ aa Q,⟨hS.heap,hS.sends,hS.turns,hS.back,rfl⟩,fun e=>by cases e⟩
 rw[R1 y] at c aa;by_cases N:i.op=17
 ·rw[RA N] at c aa;rw[QL] at c;obtain⟨⟨v,f2⟩,hv,rfl⟩:=c;obtain⟨o,_⟩:=fi hv;simp only at o;rw[AJ (f:={ g with aH:=g.aH+1 }) (v:=v) (by rw[show({ g with aH:=g.aH+1 }:j4).aA=g.aA from rfl,R.st];exact o)] at aa;obtain⟨l,B⟩:=FI (w:=w) (S:=S) (a:={ a with fs:=G }) (b:={ b with fs:=P }) ⟨hS.heap,hS.sends,hS.turns,hS.back,hS.err⟩ K v;refine⟨_,step _ aa ?_,l,fun _=>B⟩;rw[tn];simp only[mu,j,QO,QX];omega
 rw[R1 N,R1 (show¬i.op=18 by omega),R1 (show¬i.op=21 by omega)] at c aa;rw[wF w b he,QL] at c;obtain⟨r,hr,rfl⟩:=c;simp only at hr;rw[<-R.tk] at hr;obtain⟨T',t1,t2,t3,t4⟩:=KM R.tl hr;rw[wF w a O] at aa;simp only at aa;have t1':cH w a.heap g.aP g.args g.a8 g.aA d=some (r.1,T',r.2.2.1,r.2.2.2):=by
  rw[Lr (i:=i) R.op (R.a u y) R.b,R.self,R.args,R.st,hS.heap,t1]
 rw[t1'] at aa;simp only[QZ] at aa;refine⟨_,step _ aa ?_,⟨rfl,hS.sends,hS.turns,hS.back,rfl⟩,fun _=>.cons ?_ K⟩
 ·have e0:bA { g with aH:=g.aH+1,a8:=T',aA:=r.2.2.1 }+1=bA g:=H;simp only[mu,jA,j,QO,QX];omega
 ·exact R.next T' r.2.1 r.2.2.1 t3 t4 t2
end
section
variable {w:Wd}{S:Int->Int->List Int}{fuel:Int}
def wG{a:Cf}{g:j4}{G:List j4}{b:Ins}{r:List Ob×List V×List V×Int}(e:a.err=0)(d:a.fs=g::G)(aa:j3 g.code g.aH=some b)(h:¬(14<=b.op/\b.op<=18))(c:b.op≠21)(f:cH w a.heap g.aP g.args g.a8 g.aA b=some r)(L:St->Int->ByteArray->Int×Int)(Q:Int->Int->Fs×Bool):L6 w fuel L Q a=some (jA a { g with aH:=g.aH+1 } G r):=by
 unfold L6;rw[d];simp only[aa,A0];rw[R1 d9,R1 d9,R1 d9,R1 d9,R1 d9,R1 c,wF w a e];simp only[f,QZ]
def Fi{H:List Ob}{self v:V}{args T X:List V}{k:Int}(a:0<=k)(b:k<T.length):cH w H self args T (X++[v]) ⟨11,k,0,0,IS⟩=some (H,T.set k.toNat v,X,0):=by
 unfold cH;simp[a,b]
def OA{H:List Ob}{self:V}{args T X:List V}:cH w H self args T X ⟨6,0,0,0,IS⟩=some (H,T,X++[⟨0,0⟩],0):=by
 unfold cH;simp
def d31{a:Cf}{G:List j4}(q:a.err=0)(C:∀g,cN g->Wk w (qF w S) { a with fs:=g::G }){s:Int}(I:0<=s){X:List V}:∀(n:Nat) (vs:List V) (g:j4),vs.length=n->g.aA=X++vs->0<=g.aH->(∀r,r<n->j3 g.code (g.aH+r)=(jZ s n)[r]?) ->
  s.toNat+n<=g.a8.length->cN g->∃l,dM w fuel (fun _ k s=>l7 w s k) (qF w S) { a with fs:=g::G } { a with fs:={ g with aH:=g.aH+n,a8:=l,aA:=X }::G } /\
   l.length=g.a8.length/\(∀j,j<s.toNat\/s.toNat+n<=j->l[j]?=g.a8[j]?)/\∀(j:Nat) v,vs[j]?=some v->l[s.toNat+j]?=some v
 |0,vs,g,t,f,F,x,hl,d=>by
  obtain rfl:=Qj t;rw[List.append_nil] at f;refine⟨g.a8,?_,rfl,fun _ _=>rfl,fun j v h=>by simp at h⟩;have:({ g with aH:=g.aH+((0:Nat):Int),a8:=g.a8,aA:=X }:j4)=g:=by
   rw[<-f];simp
  rw[this];exact .refl _
 |n+1,vs,g,t,f,F,x,hl,d=>by
  obtain⟨b,v,rfl⟩:∃b v,vs=b++[v]:=by
   cases B:vs.getLast? with
   |none=>rw[List.getLast?_eq_none_iff] at B;subst B;simp at t
   |some v=>obtain⟨b,h⟩:=List.getLast?_eq_some_iff.1 B;exact⟨b,v,h⟩
  simp only[Of,Qq] at t;have p:b.length=n:=d9;have hi:j3 g.code g.aH=some ⟨11,s+n,0,0,IS⟩:=by
   have:=x 0 d9;simpa[jZ] using this
  have A:=fo hi;have c:g.aA=(X++b)++[v]:=by rw[f];simp
  have D:cH w a.heap g.aP g.args g.a8 g.aA ⟨11,s+n,0,0,IS⟩=some (a.heap,g.a8.set (s+n).toNat v,X++b,0):=by
   rw[c];exact Fi d9 d9
  have m:=wG (fuel:=fuel) (a:={ a with fs:=g::G }) q rfl hi bL bL D (fun _ k s=>l7 w s k) (qF w S);have o:cN { g with aH:=g.aH+1,a8:=g.a8.set (s+n).toNat v,aA:=X++b }:=⟨by have:=d.aA;rw[c] at this;simp at this⊢;omega,d.code,fun u i H=>d.num u (by rw[c];simp only[QS] at i⊢;exact .inl i) H⟩;obtain⟨l,t1,t2,t3,J⟩:=d31 q C I n b { g with aH:=g.aH+1,a8:=g.a8.set (s+n).toNat v,aA:=X++b } p rfl bL (fun r D=>by
   have:=x (r+1) d9;simp only[jZ,Qw] at this;rw[<-this];congr 1;simp only;omega) (by simp only[Qa];omega) o
  refine⟨l,?_,by rw[t2];simp,fun j K=>?_,fun j u i=>?_⟩
  ·refine .trans (oz (a:={ a with fs:=g::G }) q rfl (C g d) m (g1:={ g with aH:=g.aH+1,a8:=g.a8.set (s+n).toNat v,aA:=X++b }) rfl rfl rfl ?_) ?_
   ·have:=qp A.2;unfold bA at this⊢;simp only at this⊢;omega
   ·have e:({ g with aH:=g.aH+((n+1:Nat):Int),a8:=l,aA:=X }:j4)={ ({ g with aH:=g.aH+1,a8:=g.a8.set (s+n).toNat v,aA:=X++b }:j4) with aH:=g.aH+1+(n:Int),a8:=l,aA:=X }:=by
     simp only[j4.mk.injEq,true_and];omega
    rw[e];have E:jA { a with fs:=g::G } { g with aH:=g.aH+1 } G (a.heap,g.a8.set (s+n).toNat v,X++b,0)={ a with fs:={ g with aH:=g.aH+1,a8:=g.a8.set (s+n).toNat v,aA:=X++b }::G }:=by
     unfold jA;simp only[q]
    rw[E];exact t1
  ·rw[t3 j d9,List.getElem?_set_ne d9]
  ·by_cases y:j=n
   ·subst y;rw[QY d9,p,Nat.sub_self] at i;simp only[Qy,Option.some.injEq] at i;subst i;rw[t3 _ d9,show(s+(j:Int)).toNat=s.toNat+j by omega,List.getElem?_set_self d9]
   ·have z:j<b.length:=by
     have:=(OR.1 i).1;simp at this;omega
    rw[Qn z] at i;exact J j u i
def EV{a:Cf}{G:List j4}(l:a.err=0)(x:∀g,cN g->Wk w (qF w S) { a with fs:=g::G }){b:Int}(E:0<=b):∀(n k:Nat) (g:j4),0<=g.aH->(∀r,r<2*n->j3 g.code (g.aH+r)=(ix b n k)[r]?) ->
  b.toNat+k+n<=g.a8.length->cN g->g.aA.length<=900->∃i,dM w fuel (fun _ k s=>l7 w s k) (qF w S) { a with fs:=g::G } { a with fs:={ g with aH:=g.aH+(2*n:Nat),a8:=i }::G } /\
   i.length=g.a8.length/\(∀j,j<b.toNat+k\/b.toNat+k+n<=j->i[j]?=g.a8[j]?)/\∀j,j<n->i[b.toNat+k+j]?=some ⟨0,0⟩
 |0,k,g,D,t,hl,c,B=>by
  refine⟨g.a8,?_,rfl,fun _ _=>rfl,fun j h=>d9⟩;have:({ g with aH:=g.aH+((2*0:Nat):Int),a8:=g.a8 }:j4)=g:=l9;rw[this];exact .refl _
 |n+1,k,g,D,t,hl,c,B=>by
  have hi:j3 g.code g.aH=some ⟨6,0,0,0,IS⟩:=by
   have:=t 0 d9;simpa[ix] using this
  have m:j3 g.code (g.aH+1)=some ⟨11,b+k,0,0,IS⟩:=by
   have:=t 1 d9;simpa[ix] using this
  have H:=fo hi;have A:=fo m;have f:=wG (fuel:=fuel) (a:={ a with fs:=g::G }) l rfl hi bL bL (OA (w:=w)) (fun _ k s=>l7 w s k) (qF w S);have p:cN { g with aH:=g.aH+1,aA:=g.aA++[⟨0,0⟩] }:=⟨F5,c.code,fun u o z=>by
   rcases QS.1 o with o|o
   ·exact c.num u o z
   ·rw[Qf.1 o] at z;cases z⟩
  have e1:jA { a with fs:=g::G } { g with aH:=g.aH+1 } G (a.heap,g.a8,g.aA++[⟨0,0⟩],0)={ a with fs:={ g with aH:=g.aH+1,aA:=g.aA++[⟨0,0⟩] }::G }:=by
   unfold jA;simp only[l]
  have d:=wG (fuel:=fuel) (a:={ a with fs:={ g with aH:=g.aH+1,aA:=g.aA++[⟨0,0⟩] }::G }) (g:={ g with aH:=g.aH+1,aA:=g.aA++[⟨0,0⟩] }) l rfl m bL bL
   (Fi (w:=w) (X:=g.aA) (v:=⟨0,0⟩) (T:=g.a8) (k:=b+k) d9 d9) (fun _ k s=>l7 w s k) (qF w S)
  have C:jA { a with fs:={ g with aH:=g.aH+1,aA:=g.aA++[⟨0,0⟩] }::G } { g with aH:=g.aH+1+1,aA:=g.aA++[⟨0,0⟩] } G (a.heap,g.a8.set (b+k).toNat ⟨0,0⟩,g.aA,0)={ a with fs:={ g with aH:=g.aH+2,a8:=g.a8.set (b+k).toNat ⟨0,0⟩ }::G }:=by
   unfold jA;simp only[l,Cf.mk.injEq,List.cons.injEq,j4.mk.injEq,true_and,and_true];omega
  have q:cN { g with aH:=g.aH+2,a8:=g.a8.set (b+k).toNat ⟨0,0⟩ }:=⟨c.aA,c.code,c.num⟩;obtain⟨i,t1,t2,t3,I⟩:=EV l x E n (k+1) { g with aH:=g.aH+2,a8:=g.a8.set (b+k).toNat ⟨0,0⟩ } bL (fun r J=>by
   have:=t (r+2) d9;simp only[ix,Qw] at this;rw[<-this];congr 1;simp only;omega) (by simp only[Qa];omega) q B
  refine⟨i,?_,by rw[t2];simp,fun j F=>?_,fun j F=>?_⟩
  ·rw[e1] at f;rw[C] at d;refine .trans (oz (a:={ a with fs:=g::G }) l rfl (x g c) f rfl rfl rfl ?_) (.trans (oz (a:={ a with fs:={ g with aH:=g.aH+1,aA:=g.aA++[⟨0,0⟩] }::G }) l rfl (x _ p) d rfl rfl rfl ?_) ?_)
   ·unfold bA;simp only;omega
   ·unfold bA;simp only;omega
   ·have e:({ g with aH:=g.aH+((2*(n+1):Nat):Int),a8:=i }:j4)={ ({ g with aH:=g.aH+2,a8:=g.a8.set (b+k).toNat ⟨0,0⟩ }:j4) with aH:=g.aH+2+((2*n:Nat):Int),a8:=i }:=by
     simp only[j4.mk.injEq,true_and,and_true];omega
    rw[e];exact t1
  ·rw[t3 j d9,List.getElem?_set_ne d9]
  ·by_cases y:j=0
   ·subst y;rw[t3 _ d9,show(b+(k:Int)).toNat=b.toNat+k+0 by omega,List.getElem?_set_self d9]
   ·have:=I (j-1) d9;rw[show b.toNat+(k+1)+(j-1)=b.toNat+k+j by omega] at this;exact this
end
section
variable {w:Wd}{S:Int->Int->List Int}{fuel:Int}
def d34(W:cI w)(i:eZ w){a b:Cf}(hS:cy a b){G P:List j4}{p:j4}(h:b.fs=p::P)(e:eG w S G P)(I:cd w fuel b){n:Int}(o:n=a.sends\/n=a.sends+1):∀g,cN g->Wk w (qF w S) { a with fs:=g::G,sends:=n }:=fun g j=>by
 have d:=I.fs;rw[h] at d;have hl:=I.fl;rw[h,QI] at hl;have l:=I.sends;have m:=hS.sends;refine Eu (N:=0) W i I hS.heap bL hS.turns (by simp only[QI,e.len];omega) fun f c=>?_;rcases QG.1 c with rfl|c
 ·exact j
 ·exact e.wk W (fun q k=>⟨1,d.2 q k⟩) f c
def LO{y:Me}(h:gU y=true):y.aS=0:=by
 unfold gU at h;simp only[It,RF] at h;exact h.1
def ML(W:cI w)(hL:eZ w){a b b':Cf}{g p:j4}{G P:List j4}{m y:Me}{i:Ins}{s c t:Int}{sz:Nat}(hS:cy a b)(Z:a.fs=g::G)(hb:b.fs=p::P)(T:eG w S G P)(h:FF w S g p m)(o:g.aA=p.aA)(h0:0<=p.aH)(aa:g.aH=(bM (bN w S p.aE p.aJ m).1 p.aH.toNat:Int))(he:b.err=0)(I:cd w fuel b)(hi:j3 p.code p.aH=some i)(hcl:dz w (S p.aE p.aJ) m.code.length p.aH.toNat i sz t=some (y,c))(N:(bN w S p.aE p.aJ m).1[p.aH.toNat]?=some (.pc y s c (p.aH.toNat:Int)))(hms:m.a8<=s)(htot:s+1+y.args+y.a8<=(bN w S p.aE p.aJ m).2)(z:L6 w fuel (fun _ k s=>l7 w s k) bQ b=some b'):
  ∃Q,dM w fuel (fun _ k s=>l7 w s k) (qF w S) a Q/\cy Q b'/\(b'.err=0->CR w S Q b'):=by
 obtain⟨h14,_,_,l,hlf,hargs,_,_⟩:=qh hcl;obtain⟨hy,_⟩:=ur w hL (S p.aE p.aJ) m.code.length m.code 0 0 m.a8 y s c _ (QM N);have ya:=hy.args;have yt:=hy.a8;have n:a.err=0:=by rw[hS.err];exact he
 have Ib:=I.fs;rw[hb] at Ib;obtain⟨mp,hh,Fp⟩:=Ib.1;obtain⟨_,_,_,_,_,hplen,_⟩:=Fp.len;have e:cN g:=(FR.aZ h o h0 aa).wk W Ib.1;have hpwk:cN p:=⟨d9,by have:=(h.e9 W).2;omega,fun v H hk=>(Fp.ae v H).num hk⟩;have u:=d34 W hL hS hb T I (.inl rfl);have U:=d34 W hL hS hb T I (.inr rfl);have hab:({ a with fs:=g::G }:Cf)=a:=by rw[<-Z]
 have V:Wk w (qF w S) a:=by have:=u g e;rw[<-Z] at this;exact this
 have hms0:0<=m.a8:=by have:=h.eE;omega
 have hgl:=h.len;have htl:=h.eE;have bu:∀r,r<Q8 y->j3 g.code (g.aH+(r:Nat))=(eW y s c (p.aH.toNat:Int) (bM (bN w S p.aE p.aJ m).1 p.aH.toNat))[r]?:=fun r hr=>by
  rw[aa,<-Int.natCast_add];exact h.mQ N hr
 have hsz:Q8 y=3+y.args.toNat+2*y.a8.toNat+y.code.length:=by rw[<-jL y s c (p.aH.toNat:Int) 0];simp only[eW,QI,Of,iH,k7,QU];omega
 have hi0:j3 g.code g.aH=some ⟨18,c,y.args,(p.aH.toNat:Int),IS⟩:=by
  have:=bu 0 d9;simpa[eW] using this
 have hi1:j3 g.code (g.aH+1)=some ⟨21,0,0,0,IS⟩:=by
  have:=bu 1 d9;simpa[eW] using this
 have hl0:=fo hi0;have hl1:=fo hi1;have hb0:=z;unfold L6 at z;rw[hb] at z;simp only[hi,A0,RA h14] at z;obtain⟨x,cl,mm,k0,k1,hx,hcls,hmm,D⟩:=mX z;simp only at k1 hx hcls hmm;have f:L6 w fuel (fun _ k s=>l7 w s k) (qF w S) a=if y9 a.heap x=c then some { a with fs:={ g with aH:=g.aH+1 }::G } else some { a with fs:=p::G }:=by
  unfold L6;rw[Z];simp only[hi0,A0];rw[R1 d9,R1 d9,R1 d9,R1 d9,RA trivial];unfold mU;simp only;rw[o,RA ⟨d9,d9⟩,show p.aA.length-1-y.args.toNat=p.aA.length-i.a.toNat-1 by omega,hx];simp only[A0];by_cases J:y9 a.heap x=c
  ·rw[RA J,RA J]
  ·rw[R1 J,R1 J,h.cls,h.j9];obtain⟨x2,e1,e2⟩:=h.ak;rw[e1];simp only[A0];rw[e2];simp only[A0];rw[RA ⟨hms0,by have:=h.tk;have:=congrArg List.length this;simp only[Qo] at this;omega⟩];have:({ g with aH:=(p.aH.toNat:Int),aZ:=false,code:=m.code,a8:=g.a8.take m.a8.toNat }:j4)=p:=by
    have e3:g.a8.take m.a8.toNat=p.a8:=by rw[show m.a8.toNat=p.a8.length by omega];exact h.tk
    rw[e3];obtain⟨c1,c2,c3,c4,c5,c6,c7,c8,c9⟩:=p;have q1:=h.cls;have q2:=h.j9;have q3:=h.bn;have q4:=h.bt;have q5:=h.self;have q6:=h.args;simp only at q1 q2 q3 q4 q5 q6 o h0⊢;simp only[q1,q2,q3,q4,q5,q6,o,j4.mk.injEq,true_and,and_true];omega
   simp only[h.cls,h.j9,o] at this⊢;rw[this]
 by_cases J:y9 a.heap x=c
 ·rw[RA J] at f;have hcb:y9 b.heap x=c:=by rw[<-hS.heap];exact J
  have F:dM w fuel (fun _ k s=>l7 w s k) (qF w S) a { a with fs:={ g with aH:=g.aH+1 }::G }:=oz n Z V f rfl rfl rfl (Nat.le_of_eq (qp hl0.2));have E:cN { g with aH:=g.aH+1 }:=⟨e.aA,e.code,e.num⟩;have d:L6 w fuel (fun _ k s=>l7 w s k) (qF w S) { a with fs:={ g with aH:=g.aH+1 }::G }=some (iv fuel { a with fs:={ g with aH:=g.aH+2 }::G }):=by
   unfold L6;simp only[hi1,A0];rw[R1 d9,R1 d9,R1 d9,R1 d9,R1 d9,RA trivial,show g.aH+1+1=g.aH+2 by omega]
  have C:bA { g with aH:=g.aH+2 }+1<=bA { g with aH:=g.aH+1 }:=by
   unfold bA;simp only;omega
  have hlen:=T.len;unfold nA at l;split at l
  ·cases l
  rename_i hf0;obtain⟨x3,e3,e4⟩:=M6 l;rw[hcb] at D;rcases D with⟨h2,_⟩|⟨_,hent⟩
  ·omega
  obtain⟨x4,m4,e5,e6,L⟩:=lW hent;rw[e3] at e5;cases e5;rw[e4] at e6;cases e6;have hdl:(p.aA.drop (p.aA.length-i.a.toNat)).length=i.a.toNat:=by rw[List.length_drop];omega
  rcases L with⟨k2,_⟩|⟨_,O,rfl⟩|⟨_,_,k4,_⟩|⟨_,O,_,k5,rfl⟩|⟨_,O,_,k5,rfl⟩
  ·simp only at k2;omega
  ·have R:iv fuel { a with fs:={ g with aH:=g.aH+2 }::G }=I7 { a with fs:={ g with aH:=g.aH+2 }::G } 13:=by
    unfold iv;simp only at O;rw[RA (by simp only;rw[hS.sends];exact O)]
   rw[R] at d;exact⟨_,F.trans (oz (a:={ a with fs:={ g with aH:=g.aH+1 }::G }) n rfl (u _ E) d rfl rfl rfl C),⟨hS.heap,hS.sends,hS.turns,hS.back,rfl⟩,fun hz=>by cases hz⟩
  ·exact absurd (LO hlf) k4
  ·have R:iv fuel { a with fs:={ g with aH:=g.aH+2 }::G }=I7 { a with fs:={ g with aH:=g.aH+2 }::G } 14:=by
    unfold iv;simp only[QI] at O k5;rw[R1 (by simp only;rw[hS.sends];omega),RA (by simp only[QI];omega)]
   rw[R] at d;exact⟨_,F.trans (oz (a:={ a with fs:={ g with aH:=g.aH+1 }::G }) n rfl (u _ E) d rfl rfl rfl C),⟨hS.heap,hS.sends,hS.turns,hS.back,rfl⟩,fun hz=>by cases hz⟩
  ·simp only[QI] at O k5;have R:iv fuel { a with fs:={ g with aH:=g.aH+2 }::G }={ a with fs:={ g with aH:=g.aH+2 }::G,sends:=a.sends+1 }:=by
    unfold iv;rw[R1 (by simp only;rw[hS.sends];omega),R1 (by simp only[QI];omega)]
   rw[R] at d;have st2:dM w fuel (fun _ k s=>l7 w s k) (qF w S) { a with fs:={ g with aH:=g.aH+1 }::G } { a with fs:={ g with aH:=g.aH+2 }::G,sends:=a.sends+1 }:=by
    refine .step n l9 (u _ E) d ?_ (.refl _);have:=hS.sends;simp only[mu,QO,QX];omega
   have Y:p.aA=p.aA.take (p.aA.length-i.a.toNat-1)++(x::p.aA.drop (p.aA.length-i.a.toNat)):=by
    obtain⟨hxl,hxe⟩:=OR.1 hx;have:=List.drop_eq_getElem_cons hxl;rw[hxe,show p.aA.length-i.a.toNat-1+1=p.aA.length-i.a.toNat by omega] at this;rw[<-this,List.take_append_drop]
   generalize hXd:p.aA.take (p.aA.length-i.a.toNat-1)=X at Y;generalize hAd:p.aA.drop (p.aA.length-i.a.toNat)=A at Y hdl;have hXl:X.length<=12:=by have:=congrArg List.length Y;simp only[Of,QI] at this;omega
   have hwk2:cN { g with aH:=g.aH+2 }:=⟨e.aA,e.code,e.num⟩;obtain⟨T1,t1,t2,t3,t4⟩:=d31 (w:=w) (S:=S) (fuel:=fuel) (a:={ a with sends:=a.sends+1 }) (G:=G) n U (s:=s) d9 (X:=X) (y.args.toNat+1) (x::A) { g with aH:=g.aH+2 } (by simp only[QI];omega) (by simp only;rw[o];exact Y) bL (fun r hr=>by
    have:=bu (r+2) d9;simp only[eW,Qw,QR] at this;rw[Qn (by rw[iH];exact hr)] at this;rw[<-this];congr 1;simp only;omega) bL hwk2
   have hwk3:cN { g with aH:=g.aH+2+((y.args.toNat+1:Nat):Int),a8:=T1,aA:=X }:=⟨bL,e.code,fun v H hk=>e.num v (by rw[o,Y];exact List.mem_append_left _ H) hk⟩;obtain⟨T2,u1,u2,u3,u4⟩:=EV (w:=w) (S:=S) (fuel:=fuel) (a:={ a with sends:=a.sends+1 }) (G:=G) n U (b:=s+1+y.args) d9 y.a8.toNat 0 { g with aH:=g.aH+2+((y.args.toNat+1:Nat):Int),a8:=T1,aA:=X } bL (fun r hr=>by
    have:=bu (y.args.toNat+1+r+2) d9;simp only[eW,Qw,QR] at this;rw[QY (by rw[iH];omega),iH,show y.args.toNat+1+r-(y.args.toNat+1)=r by omega,Qn (by rw[k7];exact hr)] at this;rw[<-this];congr 1;simp only;omega) (by simp only at t2⊢;omega) hwk3 bL
   simp only at t2 t3 t4 u2 u3 u4;have hlo:∀j,j<s.toNat->T2[j]?=g.a8[j]?:=fun j M=>by rw[u3 j d9,t3 j d9]
   have K:∀j,j<s.toNat+1+y.args.toNat->T2[j]?=T1[j]?:=fun j M=>u3 j d9;refine⟨_,F.trans (st2.trans (t1.trans u1)),⟨hS.heap,by simp only;rw[hS.sends],hS.turns,hS.back,hS.err⟩,fun _=>?_⟩;rw[qm (fun _ _=>rfl)];refine .px (q:=p.aH.toNat) (m:=m) (y:=y) (s:=s) (c:=c) ⟨hS.heap,by simp only;rw[hS.sends],hS.turns,hS.back,hS.err⟩ rfl rfl T ⟨⟨h.aZ,h.bn,h.cls,h.j9,h.self,h.args,h.ak,h.bt,h.codeF,bL,h.eE,?_⟩,N,bL,rfl,rfl,QQ _,?_,by simp only;rw[List.append_nil],hms,⟨d9,bL,ya.1,yt.1,bL,by simp only[List.length_replicate];omega,?_,fun j v H=>?_,fun j v H=>?_⟩,hlf⟩
   ·simp only;rw[<-h.tk];apply Ql;intro j;rw[Qs,Qs];by_cases M:j<p.a8.length
    ·have B:(List.take p.a8.length g.a8).length=p.a8.length:=(by rw[h.tk]);rw[B,RA M,RA M,hlo j d9]
    ·have B:(List.take p.a8.length g.a8).length=p.a8.length:=(by rw[h.tk]);rw[B,R1 M,R1 M]
   ·simp only[hl];omega
   ·simp only;rw[K _ d9];exact t4 0 x rfl
   ·simp only at H⊢;have hjl:=(OR.1 H).1;rw[K _ d9,Qm,Nat.add_comm 1 j];exact t4 (j+1) v (by simpa using H)
   ·simp only at H⊢;obtain⟨hj1,hj2⟩:=OR.1 H;rw[List.length_replicate] at hj1;rw[List.getElem_replicate] at hj2;subst hj2;have:=u4 j hj1;rw[<-this];congr 1;omega
 ·rw[R1 J] at f;have F:dM w fuel (fun _ k s=>l7 w s k) (qF w S) a { a with fs:=p::G }:=oz n Z V f rfl rfl rfl (by
   have:=(h.e9 W).2;unfold bA;rw[h.bn,h.aZ];simp only[Qe,if_false,if_true];omega)
  obtain⟨Q,q1,q2,q3⟩:=Eh (fuel:=fuel) W hL (a:={ a with fs:=p::G }) (S:=S) ⟨hS.heap,hS.sends,hS.turns,hS.back,hS.err⟩ rfl hb T (E7 W h.bn (by have:=(h.e9 W).2;omega) hi (fun M=>d9)) he I (u p hpwk) hi d9 hb0;exact⟨Q,F.trans q1,q2,fun hz=>.out q2 (q3 hz)⟩
end
def NC{s:Int}{y:Me}{f:Int}{i:Ins}(h:i.op<=13):¬(14<=(bj s y f i).op/\(bj s y f i).op<=18)/\(bj s y f i).op≠21:=by
 unfold bj
 (repeat' split)<;>simp only<;>omega
section
variable {w:Wd}{S:Int->Int->List Int}{fuel:Int}
def re.go{g h p:j4}{m y:Me}{q:Nat}{s c:Int}(X:re w S g h p m y q s c){T Tp A:List V}{to:Int}(b:0<=to)(d:uZ T s y h.aP h.args Tp)(a:T.length=g.a8.length)(e:∀n:Nat,(n:Int)<=s->T.take n=g.a8.take n):
  re w S { g with aH:=((bM (bN w S p.aE p.aJ m).1 q+hl y:Nat):Int)+to,a8:=T,aA:=p.aA++A } { h with aH:=to,a8:=Tp,aA:=A } p m y q s c:=by
 have F:=X.ff;have f:=F.eE;have i:=X.ms;refine⟨⟨F.aZ,F.bn,F.cls,F.j9,F.self,F.args,F.ak,F.bt,F.codeF,by simp only;rw[a];exact F.len,F.eE,?_⟩,X.item,X.aH,X.uN,X.bu,b,rfl,rfl,X.ms,d,X.leaf⟩;simp only;rw[e p.a8.length d9];exact F.tk
def OZ(W:cI w)(hL:eZ w){a b b':Cf}{g h p:j4}{G P:List j4}{m y:Me}{q:Nat}{s c:Int}(hS:cy a b)(x:a.fs=g::G)(hb:b.fs=h::p::P)(L:eG w S G P)(X:re w S g h p m y q s c)(he:b.err=0)(I:cd w fuel b)(d:L6 w fuel (fun _ k s=>l7 w s k) bQ b=some b'):∃K,dM w fuel (fun _ k s=>l7 w s k) (qF w S) a K/\cy K b'/\(b'.err=0->CR w S K b'):=by
 have Q:a.err=0:=by rw[hS.err];exact he
 have M:=I.fs;rw[hb] at M;obtain⟨mh,hh,Fh⟩:=M.1;obtain⟨i,_,hi,C,hlt,hslen,_,h17,_,_⟩:=Fh.len;have hmy:mh.code=y.code:=by rw[<-Fh.code];exact X.bu
 rw[hmy] at C;rw[X.bu] at hlt;obtain⟨hy,_⟩:=ur w hL (S p.aE p.aJ) m.code.length m.code 0 0 m.a8 y s c _ (QM X.item);have hop:=hy.op i C;have h14:i.op≠14:=LI X.leaf i C;have ya:=hy.args;have yt:=hy.a8;have hh0:=X.ji;have hsz:Q8 y=hl y+y.code.length:=by rw[<-jL y s c (q:Int) 0];simp only[eW,QI,Of,iH,k7,QU,hl];omega
 generalize O:bM (bN w S p.aE p.aJ m).1 q+hl y=B at *;have hgat:g.aH=(B:Int)+h.aH:=by have:=X.aa;rw[O] at this;exact this
 have z:j3 g.code g.aH=some (bj s y (B:Int) i):=by
  have e1:=X.ff.mQ X.item (r:=hl y+h.aH.toNat) d9;have e2:((bM (bN w S p.aE p.aJ m).1 q+(hl y+h.aH.toNat):Nat):Int)=g.aH:=d9;rw[e2,LP d9,O] at e1;rw[e1];obtain⟨_,e3⟩:=l6 hi;rw[X.bu] at e3;rw[e3];rfl
 have hgl:=fo z;have hclen:=(X.ff.e9 W).1;have hpk:∀u∈p.aA,u.k=3->eb u.n:=fun u hu hk=>by
  obtain⟨mp,hp,Fp⟩:=M.2 p l9;exact(Fp.ae u hu).num hk
 have hps:p.aA.length<=12:=by
  obtain⟨mp,hp,Fp⟩:=M.2 p l9;obtain⟨_,_,_,_,_,k,_⟩:=Fp.len;omega
 have R:cN g:=⟨by rw[X.aA,Of];omega,d9,fun v E hk=>by
  rw[X.aA] at E;rcases QS.1 E with E|E
  ·exact hpk v E hk
  ·exact(Fh.ae v E).num hk⟩
 have hWa:Wk w (qF w S) a:=by
  have hl:=I.fl;rw[hb,QI,QI] at hl;have h1:=I.sends;have h2:=hS.sends;refine Eu (N:=0) W hL I hS.heap d9 hS.turns (by rw[x];simp only[QI,L.len];omega) fun f hf=>?_;rw[x] at hf;rcases QG.1 hf with rfl|hf
  ·exact R
  ·exact L.wk W (fun r hr=>⟨1,M.2 r (by simp[hr])⟩) f hf
 have Y:bA { g with aH:=g.aH+1 }+1=bA g:=qp hgl.2;have step:∀K,L6 w fuel (fun _ k s=>l7 w s k) (qF w S) a=some K->mu fuel K<mu fuel a->dM w fuel (fun _ k s=>l7 w s k) (qF w S) a K:=fun K h1 h2=>.step Q (by rw[x];simp) hWa h1 h2 (.refl _);unfold L6 at d;rw[hb] at d;simp only[hi,A0] at d;have D:∀n:Nat,(n:Int)<=s->g.a8.take n=g.a8.take n:=fun _ _=>rfl;have Z:∀(A:List V) (to:Int),0<=to ->
   cy (cQ a { g with aH:=g.aH+1,aA:=p.aA++A } G ((B:Int)+to)) (cQ b { h with aH:=h.aH+1,aA:=A } (p::P) to)/\CR w S (cQ a { g with aH:=g.aH+1,aA:=p.aA++A } G ((B:Int)+to)) (cQ b { h with aH:=h.aH+1,aA:=A } (p::P) to) /\
   mu fuel (cQ a { g with aH:=g.aH+1,aA:=p.aA++A } G ((B:Int)+to))<mu fuel a:=by
  intro A to h0;have ht:=I.turns;have j:=X.go (T:=g.a8) (Tp:=h.a8) (A:=A) h0 X.a8 rfl D;rw[O] at j;unfold cQ;simp only;by_cases hc:to<h.aH+1
  ·rw[RA d9,RA hc];have l:cy ({ a with turns:=a.turns+1,fs:={ g with aH:=(B:Int)+to,aA:=p.aA++A }::G,err:=if 300<a.turns+1 then 16 else a.err }:Cf) { b with turns:=b.turns+1,fs:={ h with aH:=to,aA:=A }::p::P,err:=if 300<b.turns+1 then 16 else b.err }:=⟨hS.heap,hS.sends,by simp only;rw[hS.turns],hS.back,by simp only;rw[hS.turns,hS.err]⟩;refine⟨l,.px l rfl rfl L j,?_⟩;have:=hS.turns;have e1:bA { g with aH:=(B:Int)+to,aA:=p.aA++A }<=bA g+240:=by
    unfold bA;simp only;omega
   simp only[mu,x,QO,QX];omega
  ·rw[R1 d9,R1 hc];have l:cy ({ a with fs:={ g with aH:=(B:Int)+to,aA:=p.aA++A }::G }:Cf) { b with fs:={ h with aH:=to,aA:=A }::p::P }:=⟨hS.heap,hS.sends,hS.turns,hS.back,hS.err⟩;refine⟨l,.px l rfl rfl L j,?_⟩;have e1:bA { g with aH:=(B:Int)+to,aA:=p.aA++A }+1<=bA g:=by
    unfold bA;simp only;omega
   simp only[mu,x,QO,QX];omega
 rw[R1 h14] at d;by_cases H:i.op=15
 ·rw[RA H] at d;cases d;have j0:=(hy.jump i C (.inl H)).1;obtain⟨q1,q2,q3⟩:=Z h.aA i.a j0;have aa:L6 w fuel (fun _ k s=>l7 w s k) (qF w S) a=some (cQ a { g with aH:=g.aH+1,aA:=p.aA++h.aA } G ((B:Int)+i.a)):=by
   unfold L6;rw[x];simp only[z,A0];have e:bj s y (B:Int) i=⟨15,(B:Int)+i.a,0,0,IS⟩:=by unfold bj;simp[H]
   simp only[e];rw[R1 d9,RA trivial];congr 2;rw[<-X.aA]
  exact⟨_,step _ aa q3,q1,fun _=>q2⟩
 rw[R1 H] at d;by_cases J:i.op=16
 ·rw[RA J,QL] at d;obtain⟨⟨v,f2⟩,E,rfl⟩:=d;obtain⟨o,hv2⟩:=fi E;simp only at o hv2;subst hv2;obtain⟨e1,e2⟩:=sy (a:=p.aA) o;have aa:L6 w fuel (fun _ k s=>l7 w s k) (qF w S) a=some (kN a G ⟨16,(B:Int)+i.a,0,0,IS⟩ (v,{ g with aH:=g.aH+1,aA:=p.aA++h.aA.dropLast })):=by
   unfold L6;rw[x];simp only[z,A0];have e:bj s y (B:Int) i=⟨16,(B:Int)+i.a,0,0,IS⟩:=by unfold bj;simp[J]
   simp only[e];rw[R1 d9,R1 d9,RA trivial,AJ (f:={ g with aH:=g.aH+1 }) (v:=v) (by simp only;rw[X.aA];exact e1)];simp only[QZ,X.aA,e2]
  have j0:=(hy.jump i C (.inr J)).1;unfold kN at aa⊢;simp only at aa⊢;by_cases k1:v.k=1
  ·rw[RA k1] at aa⊢;obtain⟨q1,q2,q3⟩:=Z h.aA.dropLast i.a j0;exact⟨_,step _ aa q3,q1,fun _=>q2⟩
  ·rw[R1 k1] at aa⊢;have hm:mu fuel { a with fs:={ g with aH:=g.aH+1,aA:=p.aA++h.aA.dropLast }::G }<mu fuel a:=by
    have e0:bA { g with aH:=g.aH+1,aA:=p.aA++h.aA.dropLast }+1=bA g:=Y;simp only[mu,x,QO,QX];omega
   by_cases k2:v.k=2
   ·rw[RA k2] at aa⊢;have l:cy ({ a with fs:={ g with aH:=g.aH+1,aA:=p.aA++h.aA.dropLast }::G }:Cf) { b with fs:={ h with aH:=h.aH+1,aA:=h.aA.dropLast }::p::P }:=⟨hS.heap,hS.sends,hS.turns,hS.back,hS.err⟩;have j:=X.go (T:=g.a8) (Tp:=h.a8) (A:=h.aA.dropLast) (to:=h.aH+1) d9 X.a8 rfl D;rw[O,show(B:Int)+(h.aH+1)=g.aH+1 by omega] at j;exact⟨_,step _ aa hm,l,fun _=>.px l rfl rfl L j⟩
   ·rw[R1 k2] at aa⊢;exact⟨_,step _ aa hm,⟨hS.heap,hS.sends,hS.turns,hS.back,rfl⟩,fun e=>by cases e⟩
 rw[R1 J] at d;by_cases t:i.op=17
 ·rw[RA t,QL] at d;obtain⟨⟨v,f2⟩,E,rfl⟩:=d;obtain⟨o,_⟩:=fi E;simp only at o;have U:h.aA=[v]:=by
   have:=h17 t
   match l:h.aA with
   |[]=>rw[l] at this;simp at this
   |[u]=>rw[l] at o;simp at o;rw[o]
   |_::_::_=>rw[l] at this;simp at this
  have aa:L6 w fuel (fun _ k s=>l7 w s k) (qF w S) a=some { a with fs:={ g with aH:=(B:Int)+y.code.length }::G }:=by
   unfold L6;rw[x];simp only[z,A0];have e:bj s y (B:Int) i=⟨15,(B:Int)+y.code.length,0,0,IS⟩:=by unfold bj;simp[t]
   simp only[e];rw[R1 d9,RA trivial];unfold cQ;simp only;rw[R1 d9]
  have l:cy ({ a with fs:={ g with aH:=(B:Int)+y.code.length }::G }:Cf) (cm { b with fs:=p::P } v):=⟨hS.heap,hS.sends,hS.turns,hS.back,hS.err⟩;refine⟨_,step _ aa ?_,l,fun _=>.out l ?_⟩
  ·have e0:bA { g with aH:=(B:Int)+y.code.length }+1<=bA g:=by
    unfold bA;simp only;omega
   simp only[mu,x,QO,QX];omega
  ·have F:=X.ff;have hpa:=X.aH;refine .cons (.aZ (m:=m) ⟨F.aZ,F.bn,F.cls,F.j9,F.self,F.args,F.ak,F.bt,F.codeF,F.len,F.eE,F.tk⟩ ?_ (by simp only[L9];omega) ?_) L
   ·simp only[L9];rw[X.aA,U]
   ·simp only[L9];rw[hpa,show((q:Int)+1).toNat=q+1 by omega,ze X.item];simp only[O4.len];omega
 rw[R1 t,R1 d9,R1 d9,wF w b he,QL] at d;obtain⟨r,hr,rfl⟩:=d;simp only at hr;obtain⟨T',t1,t2,t3,t4⟩:=OE (gs:=g.aP) (gargs:=g.args) (base:=p.aA) (f:=(B:Int)) X.a8 d9 hop.1 hr;obtain⟨o1,o2⟩:=NC (s:=s) (y:=y) (f:=(B:Int)) (i:=i) d9;rw[<-X.aA,<-hS.heap] at t1;have aa:=wG (fuel:=fuel) (w:=w) Q x z o1 o2 t1 (fun _ k s=>l7 w s k) (qF w S);have l:cy (jA a { g with aH:=g.aH+1 } G (r.1,T',p.aA++r.2.2.1,r.2.2.2)) (jA b { h with aH:=h.aH+1 } (p::P) r):=⟨rfl,hS.sends,hS.turns,hS.back,rfl⟩;refine⟨_,step _ aa ?_,l,fun _=>?_⟩
 ·have e0:bA { g with aH:=g.aH+1,a8:=T',aA:=p.aA++r.2.2.1 }+1=bA g:=Y;simp only[mu,jA,x,QO,QX];omega
 ·have j:=X.go (A:=r.2.2.1) (to:=h.aH+1) d9 t2 t3 t4;rw[O,show(B:Int)+(h.aH+1)=g.aH+1 by omega] at j;exact .px l rfl rfl L j
end
section
variable {w:Wd}{S:Int->Int->List Int}{fuel:Int}
def Ma(W:cI w)(v:eZ w){a b q:Cf}(h:CR w S a b)(J:b.err=0)(I:cd w fuel b)(d:L6 w fuel (fun _ k s=>l7 w s k) bQ b=some q):
  ∃e,dM w fuel (fun _ k s=>l7 w s k) (qF w S) a e/\cy e q/\(q.err=0->CR w S e q):=by
 cases h with
 |px hS u f r X=>exact OZ W v hS u f r X J I d
 |out hS r =>
  cases f:b.fs with
  |nil=>unfold L6 at d;rw[f] at d;cases d
  |cons p P =>
   rw[f] at r;cases u:a.fs with
   |nil=>rw[u] at r;cases r
   |cons g G =>
    rw[u] at r;have B:=I.fs;rw[f] at B;obtain⟨mp,hh,x⟩:=B.1;obtain⟨i,_,hi,K,_,Q,_,_,_,_⟩:=x.len;have Y:=tZ (x.me.num i K);have n:i.op=15\/i.op=16->0<=i.a/\i.a<mp.code.length:=fun h=>d9;have z:i.op<=17:=d9;have V:=x.me.len;have hl:=I.fl;rw[f,QI] at hl;cases r with
    |cons U D =>
     have F:∀T,cN T->Wk w (qF w S) { a with fs:=T::G }:=d34 W v hS f D I (.inl rfl);have E:Wk w (qF w S) a:=by
      have:=F g (U.wk W B.1);rw[<-u] at this;exact this
     have done:d15 w S g p (match j3 g.code g.aH with|some j=>j|none=>i) i->∃e,dM w fuel (fun _ k s=>l7 w s k) (qF w S) a e/\cy e q/\(q.err=0->CR w S e q):=fun R=>by
      obtain⟨e,q1,Z,q3⟩:=Eh W v hS u f D R J I E hi z d;exact⟨e,q1,Z,fun hz=>.out Z (q3 hz)⟩
     cases U with
     |same hs =>
      refine done ?_;rw[hi];exact E7 W hs (by rw[x.code];omega) hi (fun L=>(n L).1)
     |@aZ _ m l o C aa =>
      rcases l.item v C hi with O|⟨y,t,c,sz,H,M,N,A⟩
      ·have R:=LJ W v l o C aa hi O (fun L=>by
        have:=n L;rw[<-x.code,l.bt] at this;exact this)
       refine done ?_;rw[R.aH];exact R
      ·exact ML W v hS u f D l o C aa J I hi H N M A d
def Mb(W:cI w)(o:0<w.a7.length)(y:eZ w){b c:Cf}(z:Path w fuel (fun _ k s=>l7 w s k) bQ b c)(v:c.done):∀{a:Cf},cy a b->(b.err=0->CR w S a b)->(b.err=0->cd w fuel b) ->
  ∃i,dM w fuel (fun _ k s=>l7 w s k) (qF w S) a i/\cy i c/\i.done:=by
 induction z with
 |refl c =>
  intro a hS n _;refine⟨a,.refl _,hS,?_⟩;by_cases e:c.err=0
  ·have d:c.fs=[]:=v.resolve_left (fun h=>h e);cases n e with
   |out _ l =>
    rw[d] at l;cases t:a.fs with
    |nil=>exact .inr t
    |cons g G=>rw[t] at l;cases l
   |px _ _ u=>rw[d] at u;cases u
  ·exact .inl (by rw[hS.err];exact e)
 |@step b q c e p j _ ih =>
  intro a hS n r;obtain⟨J,B,C,D⟩:=Ma W y (n e) e (r e) j;have m:q.err=0->cd w fuel q:=by
   cases d:b.fs with
   |nil=>exact absurd d p
   |cons f F =>
    obtain⟨K,x,A⟩:=mZ (Q:=bQ) W o (fun _ _=>rfl) (r e) e d;rw[j] at x;cases x;exact A.inv
  obtain⟨i,E,H,I⟩:=ih v C D m;exact⟨i,B.trans E,H,I⟩
def MI(W:cI w)(m:eZ w)(c:O8)(d:fuel<=400){i:Cf}(h:fN w fuel bQ c=some i):∃g,fN w fuel (qF w S) c=some g/\cy g i/\eG w S g.fs i.fs/\mu fuel g<1048576:=by
 unfold fN at h⊢;by_cases o:(l7 w c.name (y9 w.heap c.aP)).2<0
 ·rw[RA o] at h⊢;cases h;exact⟨_,rfl,⟨rfl,rfl,rfl,rfl,rfl⟩,.nil,kp d (QQ _) (QQ _) (by simp[I7,P8])⟩
 ·rw[R1 o] at h⊢;obtain⟨g,q,u,x⟩:=EF (S:=S) (a:=P8 w) W m ⟨rfl,rfl,rfl,rfl,rfl⟩ .nil h;refine⟨g,q,u,x,?_⟩;obtain⟨r,l,f,e,k⟩:=lW q;rcases k with⟨_,rfl⟩|⟨_,_,rfl⟩|⟨_,_,_,v,_,k⟩|⟨_,_,_,_,rfl⟩|⟨_,_,_,_,rfl⟩
  ·exact kp d (QQ _) (QQ _) (by simp[I7,P8])
  ·exact kp d (QQ _) (QQ _) (by simp[I7,P8])
  ·rcases k with⟨_,rfl⟩|⟨_,rfl⟩
   ·exact kp d (by simp[I7,P8]) (QQ _) (by simp[I7,P8])
   ·rw[tn];exact kp d (by simp[P8]) (QQ _) (by simp[P8])
  ·exact kp d (QQ _) (QQ _) (by simp[I7,P8])
  ·refine kp d (by simp[P8]) (QQ _) ?_;have b:=A6 (S:=S) W m f e (W.a8 r (Z5 f) l (Z5 e)).1 c.aP c.args;have n:=W.code r (Z5 f) l (Z5 e);simp only[P8,QO,List.map_nil,QX,List.sum_nil];generalize t:fH (qF w S) (l7 w c.name (y9 w.heap c.aP)).1 (l7 w c.name (y9 w.heap c.aP)).2 l c.aP c.args=p at b⊢;have ji:p.aH=0:=by rw[<-t];unfold fH;split<;>rfl
   unfold bA;rw[ji];have s:p.code.length<=240:=by
    cases b with
    |same y=>rw[qm (fun _ _=>rfl)];simp only;omega
    |aZ j=>exact(j.e9 W).1
   split<;>omega
def NI{N:Nat}{gl:St->Int->ByteArray->Option (Int×Int)}{gq:Int->Int->Option (Fs×Bool)}(e:4194304<=N)(d:E8 w)(b:K7 N w)(f:∀s k n,gl s k n=some (l7 w n k))(o:∀k j x m,j3 w.a7 k=some x->j3 x.aB j=some m->gq k j=some (qF w S k j))(c:O8):∃r,jv N w c fuel gl gq=some r/\il w c fuel bQ r:=by
 by_cases a:I9 w c fuel=0
 ·have W:=b.nY e d;have i:=FC e d b;have l:0<w.a7.length:=by have:=b.many.1;omega
  obtain⟨h1,h2,h3,H,h5,h6⟩:=qS a;obtain⟨D,h,b2,b3,b4,b5,C⟩:=wq (Q:=bQ) e d b (fun _ _=>rfl) c a;obtain⟨s,s1,X⟩:=Ft (fuel:=fuel) (Q:=bQ) (gl:=gl) (gq:=fun _ _=>some (bQ 0 0)) e d b (fun _ _=>rfl) f (fun k j x m _ _=>rfl) c;rcases X with⟨M,_⟩|⟨_,d1,c',e1,q,t,e4⟩
  ·exact absurd a M
  ·rw[h] at e1;cases e1;obtain⟨B,T,u,U,V⟩:=MI (S:=S) W i c H h;obtain⟨A,v,g,z⟩:=Mb W l i q t u (fun _=>.out u U) C;obtain⟨Z,O,P,p3,R⟩:=Fq (L:=fun _ k s=>l7 w s k) (Q:=qF w S) e d b.cM f o (fun x=>∃y,dM w fuel (fun _ k s=>l7 w s k) (qF w S) x y/\y.done) (fun x J I p=>by
    obtain⟨y,K,hd⟩:=J;cases K with
    |refl=>rcases hd with hd|hd;exact absurd I hd;exact absurd hd p
    |@step _ Y _ _ _ g1 E F G=>exact⟨g1,Y,E,F,fun _=>⟨y,G,hd⟩⟩) W.a8 (FB (N:=N) W i) c a B T (fun _=>⟨A,v,z⟩) V
   have:=Path.pf O P v.path z;subst this;refine⟨_,R,.inr ⟨a,D,c',h,q,t,?_⟩⟩;unfold fV;rw[g.err,g.heap,g.back,g.sends]
 ·exact⟨_,Dy d c a,.inl ⟨a,rfl⟩⟩
end
def xN(w:Wd)(S:Int->Int->List Int)(l:List Fs):Prop:=∀f∈l,∃(c j:Nat) (x:Cl) (m:Me),w.a7[c]?=some x/\x.aB[j]?=some m/\(qF w S c j).2=true/\f=(qF w S c j).1
def AG{w:Wd}{S:Int->Int->List Int}{k j:Int}{x:Cl}{m:Me}(c:j3 w.a7 k=some x)(b:j3 x.aB j=some m)(h:(qF w S k j).2=true):(qF w S k j).1.cls=k/\(qF w S k j).1.name=m.name/\(qF w S k j).1.aC=w.aC:=by
 rw[d19 c b] at h⊢;split at h
 ·rename_i a;rw[RA a];exact⟨rfl,rfl,rfl⟩
 ·cases h
def OG{w:Wd}{S:Int->Int->List Int}{k j:Int}{x:Cl}{m:Me}(c:j3 w.a7 k=some x)(b:j3 x.aB j=some m)(h:(qF w S k j).2=false):qF w S k j=(⟨0,IS,0,0,[]⟩,false):=by
 rw[d19 c b] at h⊢;split at h
 ·cases h
 ·rename_i a;rw[R1 a]
def KP{ms:List Me}(h:dN ms){i j:Nat}{a b:Me}(g:ms[i]?=some a)(k:ms[j]?=some b)(d:a.name=b.name):i=j:=by
 obtain⟨hi,rfl⟩:=OR.1 g;obtain⟨e,rfl⟩:=OR.1 k;have f:=List.pairwise_iff_getElem.1 h;rcases Nat.lt_trichotomy i j with c|c|c
 ·have:=f i j hi e c;rw[d,jU] at this;cases this
 ·exact c
 ·have:=f j i e hi c;rw[d,jU] at this;cases this
def xN.one{w:Wd}{S:Int->Int->List Int}{l:List Fs}(t:dD w)(h:xN w S l){k j:Int}{x:Cl}{m:Me}(e:j3 w.a7 k=some x)(s:j3 x.aB j=some m){f:Fs}(q:f∈l)(d:f.cls=k)(p:f.name=m.name):qF w S k j=(f,true):=by
 obtain⟨c,i,y,n,e1,a,b,rfl⟩:=h f q;obtain⟨g,o,v⟩:=AG (k:=(c:Int)) (j:=(i:Int)) (by rw[q9];exact e1) (by rw[q9];exact a) b;rw[g] at d;subst d;rw[q9,e1] at e;cases e;obtain⟨z,u⟩:=l6 s;have:=KP (t x (QM e1)) a u (by rw[<-o,p]);have r:j=(i:Int):=d9;rw[r,<-b]
def d37{N:Nat}{w:Wd}{t:List Tl}{c:Nat}:∀(r:List Me) (k:Nat) (f:Fs),f∈dE N w t c r k↔∃(i:Nat) (m:Me),r[i]?=some m/\(qF w (gj N w t) c ((k+i:Nat):Int)).2=true/\f=(qF w (gj N w t) c ((k+i:Nat):Int)).1
 |[],k,f=>by simp[dE]
 |x::r,k,f=>by
  rw[dE,QS,d37 r (k+1) f];constructor
  ·rintro(h|⟨i,m,d,a,b⟩)
   ·unfold pO at h;split at h
    ·rename_i g;exact⟨0,x,rfl,g,Qf.1 h⟩
    ·cases h
   ·exact⟨i+1,m,by simpa using d,by rw[show k+(i+1)=k+1+i by omega];exact a,by rw[show k+(i+1)=k+1+i by omega];exact b⟩
  ·rintro⟨i,m,d,a,b⟩;cases i with
   |zero =>
    left;have e:(kB w (c:Int) (k:Int) (gj N w t c k)).2=true:=a;unfold pO;rw[RA e];exact Qf.2 b
   |succ i=>exact .inr ⟨i,m,by simpa using d,by rw[show k+1+i=k+(i+1) by omega];exact a,by rw[show k+1+i=k+(i+1) by omega];exact b⟩
def zj{N:Nat}{w:Wd}{t:List Tl}:∀(r:List Cl) (c:Nat) (f:Fs),f∈iM N w t r c↔∃(k:Nat) (x:Cl) (i:Nat) (m:Me),r[k]?=some x/\x.aB[i]?=some m/\(qF w (gj N w t) ((c+k:Nat):Int) i).2=true/\f=(qF w (gj N w t) ((c+k:Nat):Int) i).1
 |[],c,f=>by simp[iM]
 |x::r,c,f=>by
  rw[iM,QS,d37,zj r (c+1) f];constructor
  ·rintro(⟨i,m,d,a,b⟩|⟨k,y,i,m,e,d,a,b⟩)
   ·rw[Qg] at a b;exact⟨0,x,i,m,rfl,d,a,b⟩
   ·exact⟨k+1,y,i,m,by simpa using e,d,by rw[show c+(k+1)=c+1+k by omega];exact a,by rw[show c+(k+1)=c+1+k by omega];exact b⟩
  ·rintro⟨k,y,i,m,e,d,a,b⟩;cases k with
   |zero =>
    left;cases e;exact⟨i,m,d,by rw[Qg];exact a,by rw[Qg];exact b⟩
   |succ k=>exact .inr ⟨k,y,i,m,by simpa using e,d,by rw[show c+1+k=c+(k+1) by omega];exact a,by rw[show c+1+k=c+(k+1) by omega];exact b⟩
def Lf(N:Nat)(w:Wd)(t:List Tl):xN w (gj N w t) (iM N w t w.a7 0):=fun f e=>by
 obtain⟨k,x,i,m,c,d,a,b⟩:=(zj w.a7 0 f).1 e;rw[Qg] at a b;exact⟨k,i,x,m,c,d,a,b⟩
def CP{N:Nat}{w:Wd}{S:Int->Int->List Int}(r:dD w){k j:Int}{x:Cl}{m:Me}(n:j3 w.a7 k=some x)(d:j3 x.aB j=some m):∀(l:List Fs) (i:Nat),xN w S l ->
  mD N k j w l i=some (.ret (qF w S k j))\/(mD N k j w l i=some (.next ())/\∀f∈l,¬(f.cls=k/\f.name=m.name))
 |[],i,_=>.inr ⟨rfl,fun f s=>by cases s⟩
 |f::l,i,h=>by
  have ih:=CP (N:=N) r n d l (i+1) fun g a=>h g (by simp[a]);rw[mD];by_cases b:f.cls=k
  ·rw[RE b];simp only[Qz,n,d,A0];by_cases c:f.name=m.name
   ·have e:=h.one r n d l9 b c;obtain⟨t,u,o⟩:=AG n d (by rw[e]);rw[e] at o;simp only at o;rw[RE c,RE o];left;rw[e];rfl
   ·rw[RD c];rcases ih with ih|⟨ih,q⟩
    ·exact .inl ih
    ·exact .inr ⟨ih,fun g a=>by
      rcases QG.1 a with rfl|a
      ·exact fun p=>c p.2
      ·exact q g a⟩
  ·rw[RD b];rcases ih with ih|⟨ih,q⟩
   ·exact .inl ih
   ·exact .inr ⟨ih,fun g a=>by
     rcases QG.1 a with rfl|a
     ·exact fun p=>b p.1
     ·exact q g a⟩
def KL{N:Nat}{w:Wd}{t:List Tl}(l:dD w){k j:Int}{x:Cl}{m:Me}(b:j3 w.a7 k=some x)(a:j3 x.aB j=some m):tK N k j (iM N w t w.a7 0) w=some (qF w (gj N w t) k j):=by
 unfold tK;rcases CP (N:=N) l b a (iM N w t w.a7 0) 0 (Lf N w t) with h|⟨h,i⟩
 ·rw[h];rfl
 ·rw[h];cases c:(qF w (gj N w t) k j).2 with
  |false=>rw[OG b a c];rfl
  |true =>
   obtain⟨f,g,_⟩:=AG b a c;obtain⟨e,o⟩:=l6 b;obtain⟨d,n⟩:=l6 a;refine absurd ⟨f,g⟩ (i _ ((zj w.a7 0 _).2 ⟨k.toNat,x,j.toNat,m,o,n,?_,?_⟩))
   ·rw[Qg,Int.toNat_of_nonneg e,Int.toNat_of_nonneg d];exact c
   ·rw[Qg,Int.toNat_of_nonneg e,Int.toNat_of_nonneg d]
def ca.heap{w:Wd}{H:List Ob}{l:List Ce}(h:ca w l):ca ⟨w.a7,H,w.aC⟩ l:=by
 intro c e f y g;obtain⟨n,a,b,d⟩:=h c e f y g;exact⟨n,a,by rw[zE];exact b,by rw[zE];exact d⟩
structure SI(N:Nat)(E:Int)(z:Nat)(s:H9):Prop where
 right:K7 N s.world
 small:E8 s.world
 ep:s.world.aC<=E
 cells:ca s.world s.cells
 jg:∀c∈s.cells,c.aC<=s.world.aC
 sz:jD z ⟨⟨[],[],0⟩,⟨⟨0,0⟩,0,0⟩,s.cells,s.aU,0,0⟩
 saved:s.saved=[]\/∃w0,K7 N w0/\E8 w0/\w0.aC<=E/\s.saved=U (cv w0)
section
variable {N:Nat}{E:Int}{z:Nat}{s:H9}
def SI.more(h:SI N E z s){g:Int}{i:Nat}(k:E<=g)(e:z<=i):SI N g i s :=
 ⟨h.right,h.small,by have:=h.ep;omega,h.cells,h.jg,⟨Nat.le_trans h.sz.1 e,fun x f=>Nat.le_trans (h.sz.2.1 x f) e,Nat.le_trans h.sz.2.2.1 e,fun x f=>Nat.le_trans (h.sz.2.2.2 x f) e⟩,
  h.saved.imp id fun⟨j,a,b,c,d⟩=>⟨j,a,b,d9,d⟩⟩
def SI.len(c:4194304<=N)(h:SI N E z s):s.saved.length<=1000000:=by
 rcases h.saved with e|⟨d,a,b,_,e⟩
 ·rw[e];simp
 ·rw[e,gO];exact(AK c b a).2
def d93(a:4194304<=N)(h:SI N E z s)(d:z<=1099511627000):sq N s=some s:=by
 have hl:=h.len a;unfold sq yO;rw[jH N _ h.small,yh N ⟨by have:=h.sz.1;simp only at this;omega,fun x c=>by have:=h.sz.2.1 x c;omega⟩,Dg N (fun t b=>by have:=h.sz.2.2.2 t b;omega) (by have:=h.sz.2.2.1;simp only at this;omega),
  show AT (s.saved.length*1) 140737488355328=true from Qx d9]
 rfl
def MD{w:Wd}(f:4194304<=N)(e:E8 w)(a:K7 N w){c:O8}{q:Wd×dX}(h:il w c 400 bQ q):K7 N q.1/\E8 q.1/\(∀l,ca w l->ca q.1 l)/\q.1.aC=w.aC/\(q.2.err≠0->q.1=w):=by
 obtain⟨f1,g⟩:=MP f e a h;by_cases b:q.2.err=0
 ·obtain⟨_,_,_,_,i,e1,_⟩:=f1 b;have:=a.other f e i a.aC;rw[e1];exact⟨this.1,this.2,fun l hl=>hl.heap,rfl,fun d=>absurd b d⟩
 ·rw[(g b).1];exact⟨a,e,fun l hl=>hl,rfl,fun _=>rfl⟩
def d70{w:Wd}:∀{ev:List (St×Int)} {sb:D9},(∀c∈sb.cells,c.aC<=w.aC)->∀c∈(ev.foldl (dj w) sb).cells,c.aC<=w.aC
 |[],_,h=>h
 |e::ev,sb,h=>by
  rw[List.foldl_cons];refine d70 fun c a=>?_;simp only[dj,iw] at a;split at a
  ·exact h c a
  split at a
  ·exact h c a
  ·rcases wj a with a|⟨y,_,_,rfl⟩
   ·exact h c a
   ·rw[(EL _ _ _ _).2];exact QQ _
def Fa(o:4194304<=N)(h:SI N E z s)(O:z<=1099511627000){k:Int}(K:k=4\/k=5\/k=6)(c:O8):∃t q,sZ N s k c=some (⟨q.2.err,q.2.sends,q.2.value⟩,t)/\il s.world c 400 bQ q/\t.world=q.1/\t.saved=s.saved/\SI N E (z+401) t/\(k≠5->t.cells=s.cells/\t.aU=s.aU):=by
 have a:=h.right;have i:=h.small;have d:∀{q:Wd×dX} {l:List Ce} {ts:List Tl},il s.world c 400 bQ q->ca s.world l->(∀c∈l,c.aC<=s.world.aC)->jD (z+401) ⟨⟨[],[],0⟩,⟨⟨0,0⟩,0,0⟩,l,ts,0,0⟩->SI N E (z+401) ⟨q.1,l,ts,s.saved⟩:=fun {q l ts} v G H I=>by
  obtain⟨C,D,F,B,_⟩:=MD o i a v;exact⟨C,D,by simp only;rw[B];exact h.ep,F _ G,fun c J=>by simp only;rw[B];exact H c J,I,h.saved⟩
 have p:=(h.more (QQ _) (Nat.le_add_right z 401)).sz;unfold sZ;rcases K with rfl|rfl|rfl
 ·obtain⟨q,u,b⟩:=Kh o i a c 400;refine⟨⟨q.1,s.cells,s.aU,s.saved⟩,q,?_,b,rfl,rfl,d b h.cells h.jg p,fun _=>⟨rfl,rfl⟩⟩;simp only[RB,Qz,u,A0]
 ·obtain⟨q,ev,sb,u,b,y,M,P⟩:=EZ o i a c (fuel:=400) s.cells s.aU _ h.sz d9 h.cells;obtain⟨t1,t2⟩:=zs a.cM M h.sz h.cells;have t3:=d70 (w:=s.world) (ev:=ev) (sb:=⟨⟨[],[],0⟩,⟨⟨0,0⟩,0,0⟩,s.cells,s.aU,0,0⟩) h.jg;rw[<-y] at t1 t2 t3;refine⟨⟨q.1,sb.cells,sb.aU,s.saved⟩,q,?_,b.fL,rfl,rfl,d b.fL t2 t3 ⟨by have:=t1.1;simp only;omega,fun x r=>by have:=t1.2.1 x r;omega,by have:=t1.2.2.1;simp only;omega,fun x r=>by have:=t1.2.2.2 x r;omega⟩,fun e=>absurd rfl e⟩;rw[RD (show¬(5:Int)=4 by decide)];simp only[RB,Qz,R0,u,A0]
 ·obtain⟨q,u,b⟩:=NI (fuel:=400) (S:=gj N s.world s.aU) (gl:=fun f g A=>tI N f g A s.world) (gq:=fun f g=>tK N f g (iM N s.world s.aU s.world.a7 0) s.world) o i a (fun st k n=>by
   show tI N st k n s.world=_;unfold tI;rw[mA N s.world k n d9 a.cM i];rfl) (fun k j x m r L=>KL a.cM r L) c
  have v:wz N s.world c 400 (iM N s.world s.aU s.world.a7 0)=some q:=by
   unfold wz;rw[u];rfl
  refine⟨⟨q.1,s.cells,s.aU,s.saved⟩,q,?_,b,rfl,rfl,d b h.cells h.jg p,fun _=>⟨rfl,rfl⟩⟩;rw[RD (show¬(6:Int)=4 by decide),RD (show¬(6:Int)=5 by decide)];simp only[R0,Kq N o s.world i a s.aU,v,A0]
end
def Lm{w w':Wd}(l:∀(j:Nat) x,w.a7[j]?=some x->w'.a7[j]?=some x)(d:∀(j:Nat) x,w.a7[j]?=some x->x.aQ<j)(s:ByteArray):∀(c:Nat),c<w.a7.length->∀n a,c<n->c<a->U7 w' s a (c:Int)=U7 w s n (c:Int):=by
 intro c
 induction c using Nat.strongRecOn with
 |ind c ih =>
  intro o n a t p;obtain⟨n,rfl⟩:∃m,n=m+1:=⟨n-1,d9⟩;obtain⟨a,rfl⟩:∃m,a=m+1:=⟨a - 1,d9⟩;have f:=No o;have r:=d c _ f;rw[U7,U7,RA (Int.natCast_nonneg c),RA (Int.natCast_nonneg c),Qc,l _ _ f,f];simp only;cases V3 s (w.a7[c]).aB with
  |some i=>rfl
  |none =>
   simp only;rcases Int.lt_or_le (w.a7[c]).aQ 0 with g|b
   ·have h:∀(v:Wd) (k:Nat),U7 v s k (w.a7[c]).aQ=none:=fun v k=>by
     cases k with
     |zero=>rfl
     |succ k=>rw[U7,R1 d9]
    rw[h,h]
   ·obtain⟨q,e⟩:=Int.eq_ofNat_of_zero_le b;rw[e] at r⊢;exact ih q d9 d9 n a d9 d9
def ca.more{w w':Wd}(p:∀(j:Nat) x,w.a7[j]?=some x->w'.a7[j]?=some x)(hl:w.a7.length<=w'.a7.length)(b:∀(j:Nat) x,w.a7[j]?=some x->x.aQ<j)(F:w'.aC=w.aC){l:List Ce}(h:ca w l):ca w' l:=by
 intro c D e y G;obtain⟨n,⟨x,m,i,j,t,u,v,A,B⟩,a,C⟩:=h c D (by rw[<-F];exact e) y G;have g:∀{k:Int} {x:Cl},j3 w.a7 k=some x->j3 w'.a7 k=some x:=fun {k x} d=>by
  obtain⟨H,I⟩:=l6 d;obtain⟨q,rfl⟩:=Int.eq_ofNat_of_zero_le H;rw[q9] at d⊢;exact p _ _ d
 have r:l7 w' n y.cls=l7 w n y.cls:=by
  rcases Int.lt_or_le y.cls 0 with o|o
  ·unfold l7 at a;rw[U7,R1 d9] at a;exact absurd (show(0:Int)<=-1 from a) G7
  ·obtain⟨q,e⟩:=Int.eq_ofNat_of_zero_le o;rcases Nat.lt_or_ge q w.a7.length with f|f
   ·rw[e];unfold l7;rw[Lm p b n q f (w.a7.length+1) (w'.a7.length+1) d9 d9]
   ·unfold l7 at a;rw[e,U7,RA (Int.natCast_nonneg q),Qc,Qb f] at a;exact absurd (show(0:Int)<=-1 from a) G7
 exact⟨n,⟨x,m,i,j,g t,u,v,A,B⟩,by rw[r];exact a,by rw[r];exact C⟩
def ca.later{w w':Wd}{l:List Ce}(h:∀c∈l,c.aC<=w.aC)(b:w.aC<w'.aC):ca w' l:=fun c a e=>by
 have:=h c a;omega
def hB : V:=⟨0,0⟩
def Gg(N:Nat)(w:Wd)(a:List Int)(x:eM):Wd×List Int×ch :=
 if x.kind=1 then(if(gP w x.name x.aE x.aG).2.2=0 then((gP w x.name x.aE x.aG).1,a,⟨0,(gP w x.name x.aE x.aG).2.1,hB⟩) else(w,a,⟨(gP w x.name x.aE x.aG).2.2,0,hB⟩))
 else if x.kind=2 then(match aj N w x.aE x.aJ with
  |none=>(w,a,⟨0,0,hB⟩)
  |some f=>if f.err=0 then(if(gw w x.aE x.aJ).2=0 then((gw w x.aE x.aJ).1,a,⟨0,0,hB⟩) else(w,a,⟨(gw w x.aE x.aJ).2,0,hB⟩)) else(w,a,⟨f.err,f.aH,hB⟩))
 else if x.kind=3 then(if x.aE≠0/\(x.aE<4\/(w.a7.length:Int)<=x.aE) then(w,a,⟨6,0,hB⟩) else if 60<=w.heap.length then(w,a,⟨15,0,hB⟩)
  else(⟨w.a7,w.heap++[⟨x.aE,QH (l8 w x.aE).toNat ⟨0,0⟩⟩],w.aC⟩,a,⟨0,(w.heap.length:Int),⟨4,(w.heap.length:Int)⟩⟩))
 else if x.kind=7 then(w,U (cv w),⟨0,((U (cv w)).length:Int),hB⟩)
 else if x.kind=8 then(if a.length=0 then(w,a,⟨6,0,hB⟩) else match kl N a with
  |none=>(w,a,⟨0,0,hB⟩)
  |some p=>if p.2=0 then(⟨p.1.a7,p.1.heap,max p.1.aC w.aC+1⟩,a,⟨0,0,hB⟩) else(w,a,⟨p.2,0,hB⟩))
 else(w,a,⟨1,0,hB⟩)
def mv(k:Int):Prop:=k=4\/k=5\/k=6
instance (k : Int):Decidable (mv k):=by unfold mv;infer_instance
def DR(N:Nat)(w:Wd)(b:List Int)(x:eM)(w':Wd)(a:List Int)(r:ch):Prop :=
 if mv x.kind then∃q,il w x.call 400 bQ q/\r=⟨q.2.err,q.2.sends,q.2.value⟩/\w'=q.1/\a=b else(w',a,r)=Gg N w b x
section
variable {N:Nat}{E:Int}{z:Nat}{s:H9}{x:eM}
def G3(e:4194304<=N)(h:SI N E z s)(c:Int)(l:¬(c≠0/\(c<4\/(s.world.a7.length:Int)<=c)))(m:¬60<=s.world.heap.length):
  jM N s.world.heap c (l8 s.world c)=some (s.world.heap++[⟨c,QH (l8 s.world c).toNat ⟨0,0⟩⟩],⟨4,(s.world.heap.length:Int)⟩,0)/\SI N E z ⟨⟨s.world.a7,s.world.heap++[⟨c,QH (l8 s.world c).toNat ⟨0,0⟩⟩],s.world.aC⟩,s.cells,s.aU,s.saved⟩:=by
 have b:=h.right;have d:=h.small;have n:=b.many;have W:=b.nY e d;have k:=W.aG c;have j:=GO W (ux b) d9 (a:=c) d9 d9;have f:=b.other e d j b.aC;refine⟨?_,f.1,f.2,h.ep,h.cells.heap,h.jg,h.sz,h.saved⟩;unfold jM;have e1:max (l8 s.world c) 0=l8 s.world c:=d9;rw[RD (show¬(60:Int)<=(s.world.heap.length:Int) by omega),sj N d.2.2.2 d.2.1,e1];have g:(decide (0<=l8 s.world c) && decide (l8 s.world c<=140737488355328) && decide (l8 s.world c*16<=140737488355328))=true:=by
  simp only[It,RF];omega
 have i:AT ((s.world.heap.length+[(⟨c,QH (l8 s.world c).toNat (⟨0,0⟩:V)⟩:Ob)].length)*32) 140737488355328=true:=Qx (by simp only[Qq];omega);simp only[R0,A0,g,Qz,i]
def PC(b:4194304<=N)(h:SI N E z s)(hE:E<=1000000)(hz:z<=1099511000000)(u:x.aJ.code.length<=1048576):∃t r,ql N s x=some (t,r)/\SI N (E+1) (z+401) t/\DR N s.world s.saved x t.world t.saved r:=by
 have a:=h.right;have d:=h.small;have hm:=a.many;have R:=h.ep;have L:=a.aC;have H:=h.more (show E<=E+1 by omega) (Nat.le_add_right z 401);unfold ql DR;rw[d93 b h d9];simp only[A0];by_cases i:mv x.kind
 ·obtain⟨t,q,T,U,V,W,X,_⟩:=Fa b h d9 i x.call;have m:¬x.kind=1:=by unfold mv at i;omega
  have n:¬x.kind=2:=by unfold mv at i;omega
  have o:¬x.kind=3:=by unfold mv at i;omega
  refine⟨t,⟨q.2.err,q.2.sends,q.2.value⟩,?_,X.more d9 (NO _),by rw[RA i];exact⟨q,U,rfl,V,W⟩⟩;rw[RD m,RD n,RD o];simp only[R0,T,A0];rcases i with e|e|e<;>simp[e]
 simp only[R1 i];unfold Gg;unfold mv at i;by_cases m:x.kind=1
 ·rw[RE m,RA m,DC N s.world _ _ _ d9 d (na a)];simp only[Qz,A0];by_cases e:(gP s.world x.name x.aE x.aG).2.2=0
  ·obtain⟨F,G,k,Y⟩:=Kz b d a e;rw[RE e,RA e];simp only[IT,R0];refine⟨_,_,rfl,⟨F,G,?_,?_,?_,H.sz,H.saved⟩,rfl⟩
   ·simp only[k];omega
   ·refine ca.more (w:=s.world) (fun j y O=>?_) Y.len a.sup (by simp only[k]) h.cells;simp only[k];rw[Qn (OR.1 O).1];exact O
   ·simp only[k];exact h.jg
  ·rw[RD e,R1 e];simp only[QJ,Qz];exact⟨_,_,rfl,H,rfl⟩
 rw[RD m,R1 m];by_cases n:x.kind=2
 ·rw[RE n,RA n];unfold vS;obtain⟨f,M⟩:=yu N s.world x.aE x.aJ b;rw[yC N s.world _ _ d9 d.1,M];simp only[R0,Qz,A0];by_cases e:f.err=0
  ·rw[RE e,RA e,CV N s.world _ _ d9 d a.cM u];simp only[IT,R0,A0];by_cases l:(gw s.world x.aE x.aJ).2=0
   ·obtain⟨F,G,k⟩:=L4 b d a M e d9 l;rw[RE l,RA l];simp only[Qz,A0,l];exact⟨_,_,rfl,⟨F,G,by simp only[k];omega,ca.later h.jg (by simp only[k];omega),fun c u=>by have:=h.jg c u;simp only[k];omega,H.sz,H.saved⟩,rfl⟩
   ·rw[RD l,R1 l];simp only[R0,A0];exact⟨_,_,rfl,H,rfl⟩
  ·rw[RD e,R1 e];simp only[QJ,Qz,A0];exact⟨_,_,rfl,H,rfl⟩
 rw[RD n,R1 n];by_cases o:x.kind=3
 ·rw[RE o,RA o];unfold vj;have e1:((bif (!decide (x.aE=(0:Int))) then(bif decide (x.aE<(4:Int)) then some (true) else some (decide ((s.world.a7.length:Int)<=x.aE))) else some (false)):Option Bool)=some (decide (x.aE≠0/\(x.aE<4\/(s.world.a7.length:Int)<=x.aE))):=by
   by_cases g1:x.aE=0
   ·simp[g1]
   ·by_cases p:x.aE<4<;>simp[g1,p]
  rw[e1];simp only[R0,Qz,A0];by_cases g:x.aE≠0/\(x.aE<4\/(s.world.a7.length:Int)<=x.aE)
  ·rw[RE g,RA g];simp only[Qz,A0];exact⟨_,_,rfl,H,rfl⟩
  rw[RD g,R1 g];simp only[R0,oN N s.world _ d9 d.1,A0];by_cases p:60<=s.world.heap.length
  ·rw[RA p];have:jM N s.world.heap x.aE (l8 s.world x.aE)=some ([],⟨0,0⟩,15):=by
    unfold jM;rw[RE (show(60:Int)<=(s.world.heap.length:Int) by omega)];rfl
   rw[this];exact⟨_,_,rfl,H,rfl⟩
  ·rw[R1 p];obtain⟨Z,v2⟩:=G3 b h x.aE g p;rw[Z];exact⟨_,_,rfl,v2.more d9 (Nat.le_add_right z 401),rfl⟩
 rw[RD o,R1 o,RD (show¬x.kind=4 by omega),RD (show¬x.kind=5 by omega),RD (show¬x.kind=6 by omega)];simp only[R0,A0];by_cases B:x.kind=7
 ·obtain⟨s1,P⟩:=zo b d a;rw[RE B,RA B,s1];simp only[Qz,A0];exact⟨_,_,rfl,⟨a,d,H.ep,h.cells,h.jg,H.sz,.inr ⟨s.world,a,d,H.ep,rfl⟩⟩,rfl⟩
 rw[RD B,R1 B];by_cases C:x.kind=8
 ·rw[RE C,RA C];unfold vf;simp only[R0,Qz];rcases h.saved with e|⟨v,A,I,a3,e⟩
  ·rw[e];exact⟨_,_,rfl,H,by simp only[Qh,if_true];rw[e];rfl⟩
  ·have D:¬s.saved.length=0:=fun J=>by
    rw[e,gO] at J;exact GR v (Qj J)
   obtain⟨_,P⟩:=zo b I A;have Q:=A.aC;have S:wr (max v.aC s.world.aC+1)=max v.aC s.world.aC+1:=q8 ino;have K:=A.other b I (ux A) (e:=max v.aC s.world.aC+1) d9;rw[RD (show¬(s.saved.length:Int)=0 by omega),R1 D];rw[show kl N s.saved=some (v,0) by rw[e];exact P];simp only[R0,A0,RB,IT,S,if_true];exact⟨_,_,rfl,⟨K.1,K.2,bL,ca.later h.jg bL,fun c u=>by have:=h.jg c u;simp only;omega,H.sz,H.saved⟩,rfl⟩
 rw[RD C,R1 C];exact⟨_,_,rfl,H,rfl⟩
end
section
variable {N:Nat}{w:Wd}{sv:List Int}{x:eM}{w':Wd}{sv':List Int}{r:ch}
end
def pd : H9:=⟨N9,[],[],[]⟩
def Ol(N:Nat)(e:4194304<=N):vx N=some pd/\SI N 0 0 pd:=by
 refine⟨rfl,?_⟩;have f:k6 N N9=some 0:=by rw[zB N N9 e wO];exact MA N
 obtain⟨r,d,g⟩:=L7 N N9 e wO;rw[f] at d;cases d;exact⟨g rfl,wO,QQ _,(fun c a=>by cases a),(fun c a=>by cases a),⟨NO _,(fun x b=>by cases b),NO _,(fun x b=>by cases b)⟩,.inl rfl⟩
def MO{l:List eM}{b:Nat}(h:eg kz l<=b):∀x∈l,x.aJ.code.length<=b:=fun x c=>by
 have d:=OK (bk:=kz) c;have f:=Ng (bk:=mw) (fun a=>ME a) x.aJ.code;have e:eg mw x.aJ.code<=kz x:=by unfold kz xK;omega
 omega
def DB(N:Nat)(s:St):∀(l:List Me) (k:Nat),ny N s l k=some (match V3 s.name l with|some i=>.ret ((k+i:Nat):Int)|none=>.next ())
 |[],k=>rfl
 |m::l,k=>by
  rw[ny,V3,DB N s l (k+1)];by_cases e:m.name=s.name
  ·simp[e]
  ·cases V3 s.name l<;>simp[e];omega
def L0(N:Nat){w:Wd}(d:dD w){s:St}{x:Cl}{m:Me}{j:Nat}(a:j3 w.a7 s.cls=some x)(b:x.aB[j]?=some m)(c:m.name=s.name):ve N w s=some (j:Int):=by
 have:=Am (d x (Z5 a)) b;rw[c] at this;unfold ve;simp only[a,DB,this,A0,Qg]
def Df{w:Wd}(N:Nat)(s:1048578<=N)(g:dD w)(y:w.a7.length<=1048576)(R:Wd×dX×TR)(ev:List (St×Int))(f:R.2.2.of=ev.map (·.2)):∀(es:List (St×Int)) (k:Nat) (sb:D9) (z:Nat),es=ev.drop k->kQ w es->jD z sb->z+es.length<=1099511627000->ca w sb.cells ->
  lf N w R (es.map (·.1)) k sb.cells sb.aU sb.eh sb.not=some ((es.foldl (dj w) sb).cells,(es.foldl (dj w) sb).aU,(es.foldl (dj w) sb).eh,(es.foldl (dj w) sb).not)
 |[],k,sb,z,_,_,_,_,_=>rfl
 |e::es,k,sb,z,hk,aO,hz,hz2,hr=>by
  obtain⟨l,o,_⟩:=X5 hk;simp only[QI] at hz2;obtain⟨t1,t2⟩:=FX g (aO e l9) hz hr;have ih:=Df N s g y R ev f es (k+1) (dj w sb e) (z+1) o (fun x b=>aO x (by simp[b])) t1 d9 t2;obtain⟨n,x,m,i,j,b,p,v,hi,d⟩:=aO e l9;have a:kA w e.1 n:=⟨x,m,i,j,b,p,v,hi,d⟩;obtain⟨E,F,c3,A⟩:=zz (c:=e.2) g hr a;have B:j3 R.2.2.of (k:Int)=some e.2:=by rw[q9,f,Qi,l];rfl
  obtain⟨z1,z2,z3,z4⟩:=hz;rw[QO,lf,B];simp only[A0,Im N sb.aU e.1 e.2 (fun t D=>by have:=z4 t D;omega) d9,K3];rw[List.foldl_cons,<-ih];have r:=sG g a;unfold dj;simp only[r,c3,A];by_cases u:0<=dL e.1 w.aC e.2 sb.cells
  ·simp only[u,RB,Qz,if_true,A0]
  ·have q:j3 x.aB (j:Int)=some m:=by rw[q9];exact p
   have C:0<=(l7 w n e.2).2->tF N sb.cells e.1 w.aC e.2 (l7 w n e.2).1=some (fq e.1 w.aC e.2 (l7 w n e.2).1 sb.cells):=fun _=>KG N sb.cells e.1 _ _ _ (fun x b=>by have:=z2 x b;omega) d9;simp only[u,RC,R0,if_false,b,L0 N g b p v,q,hi,d,A0,yU N w e.2 n s y];by_cases h:0<=(l7 w n e.2).2
   ·rw[RE h,C h,R1 (show¬(l7 w n e.2).2<0 by omega)];simp only[Qz,A0,Qe,if_false]
   ·rw[RD h,RA (show(l7 w n e.2).2<0 by omega)];simp only[R0,A0,Qe,if_false]
def IV{w:Wd}{N:Nat}(e:4194304<=N)(b:E8 w)(a:K7 N w)(c:O8)(fuel:Int)(l:List Ce)(t:List Tl)(z:Nat)(g:jD z ⟨⟨[],[],0⟩,⟨⟨0,0⟩,0,0⟩,l,t,0,0⟩)(i:z<=1099511620000)(f:ca w l){r:Wd×dX}{ev:List (St×Int)}(h:lG w c fuel r ev)(aO:kQ w ev)(hl:ev.length<=401):
  vZ N w c fuel l t=some ⟨r.1,r.2,(ev.foldl (dj w) ⟨⟨[],[],0⟩,⟨⟨0,0⟩,0,0⟩,l,t,0,0⟩).cells,(ev.foldl (dj w) ⟨⟨[],[],0⟩,⟨⟨0,0⟩,0,0⟩,l,t,0,0⟩).aU,(ev.foldl (dj w) ⟨⟨[],[],0⟩,⟨⟨0,0⟩,0,0⟩,l,t,0,0⟩).eh,(ev.foldl (dj w) ⟨⟨[],[],0⟩,⟨⟨0,0⟩,0,0⟩,l,t,0,0⟩).not⟩:=by
 obtain⟨o,R,d,j,k,m,n⟩:=II e b a c fuel;obtain⟨rfl,rfl⟩:=lG.pf h k;unfold vZ;rw[j];simp only[A0,m];rw[show lf N w (r.1,r.2,R) (ev.map (·.1)) 0 l t 0 0=_ from Df N d9 a.cM b.1 (r.1,r.2,R) ev n ev 0 ⟨⟨[],[],0⟩,⟨⟨0,0⟩,0,0⟩,l,t,0,0⟩ z rfl aO g d9 f];rfl
def LG{N:Nat}(a:4194304<=N){b:List Int}(c:b.length<4294967281):si N b=kl N b:=by
 rw[Ez N b c,Kr N b c];cases e:jd (strOfNums b).data.toList with
 |none=>rfl
 |some x =>
  have d:=(EJ e).2;simp only[DH N x a d.small,zB N x a d.small]
def KN{N:Nat}{E:Int}{z:Nat}{s:H9}{x:eM}(c:4194304<=N)(h:SI N E z s)(X:z<=1099511000000)(Q:x.aJ.code.length<=1048576):wA N s x=ql N s x:=by
 have b:=h.right;have a:=h.small;have v:=b.many;have V:=b.aC;have hS:=(b.nY c a).aG;unfold wA ql;rw[d93 c h d9];simp only[A0];by_cases w:x.kind=1
 ·rw[RE w,DC N s.world _ _ _ d9 a (na b),Jk N s.world _ _ _ d9 a (na b)];rfl
 rw[RD w];by_cases y:x.kind=2
 ·have:=hS x.aE;rw[RE y,rp N s.world _ _ d9 a.1 d9];unfold vS;rw[yC N s.world _ _ d9 a.1];cases aj N s.world x.aE x.aJ with
  |none=>rfl
  |some f =>
   simp only[R0,Qz,A0];rw[CV N s.world _ _ d9 a b.cM Q,HW N s.world _ _ a b.cM];generalize gw s.world x.aE x.aJ=q;simp only[A0];cases decide (f.err=0)<;>cases decide (q.2=0)<;>rfl
 rw[RD y];by_cases A:x.kind=3
 ·rw[RE A];unfold vj;simp only[R0,Qz];have e1:((bif (!decide (x.aE=(0:Int))) then(bif decide (x.aE<(4:Int)) then some (true) else some (decide ((s.world.a7.length:Int)<=x.aE))) else some (false)):Option Bool)=some (decide (x.aE≠0/\(x.aE<4\/(s.world.a7.length:Int)<=x.aE))):=by
   by_cases g1:x.aE=0
   ·simp[g1]
   ·by_cases d:x.aE<4<;>simp[g1,d]
  have K:((bif decide (x.aE<(0:Int)) then some true else(bif decide ((0:Int)<x.aE) then(bif decide (x.aE<(4:Int)) then some (true) else some (decide ((s.world.a7.length:Int)<=x.aE))) else some (decide ((s.world.a7.length:Int)<=x.aE)))):Option Bool)=some (decide (x.aE≠0/\(x.aE<4\/(s.world.a7.length:Int)<=x.aE))):=by
   by_cases p:x.aE<0
   ·simp[p];omega
   by_cases g1:0<x.aE
   ·have k:x.aE≠0:=d9;by_cases d:x.aE<4<;>simp[p,g1,d,k]
   ·have k:x.aE=0:=d9;have L:¬s.world.a7=[]:=fun e=>by rw[e] at v;simp at v
    simp[k,L]
  rw[e1,K];simp only[A0];by_cases g:x.aE≠0/\(x.aE<4\/(s.world.a7.length:Int)<=x.aE)
  ·rw[RE g];rfl
  rw[RD g];simp only[R0,oN N s.world _ d9 a.1,Y7 N s.world _ d9 a.1,A0];by_cases d:60<=s.world.heap.length
  ·have:jM N s.world.heap x.aE (l8 s.world x.aE)=some ([],⟨0,0⟩,15):=by
    unfold jM;rw[RE (show(60:Int)<=(s.world.heap.length:Int) by omega)];rfl
   rw[this,RE (show(60:Int)<=(s.world.heap.length:Int) by omega)];rfl
  ·have:=hS x.aE;have i:AT ((([]:List Ob).length+s.world.heap.length)*32) 140737488355328=true:=Qx (by simp only[Qh];omega);have j:(decide ((0:Int)<=l8 s.world x.aE) && decide (l8 s.world x.aE<=140737488355328) && decide (l8 s.world x.aE*16<=140737488355328))=true:=by
    simp only[It,RF];omega
   have J:AT ((([]++s.world.heap).length+[(⟨x.aE,QH (l8 s.world x.aE).toNat ⟨0,0⟩⟩:Ob)].length)*32) 140737488355328=true:=Qx (by simp only[Qd,Qq];omega);rw[(G3 c h x.aE g d).1,RD (show¬(60:Int)<=(s.world.heap.length:Int) by omega),i,j,J];rfl
 rw[RD A];by_cases u:x.kind=4\/x.kind=5\/x.kind=6
 ·have e1:((bif decide (x.kind=4) then some (decide (x.kind=4)) else(bif decide (x.kind=5) then some (decide (x.kind=5)) else some (decide (x.kind=6)))):Option Bool)=some true:=by
   rcases u with e|e|e<;>simp[e]
  obtain⟨q,ev,sb,R,F,l,S,T⟩:=EZ c a b x.call (fuel:=400) s.cells s.aU _ h.sz d9 h.cells;have D:=IV c a b x.call 400 s.cells s.aU _ h.sz d9 h.cells F S T;rw[<-l] at D;rw[e1];simp only[R0,Qz,A0,D];by_cases m:x.kind=5
  ·unfold sZ;simp only[m,RB,Qz,A0,R];rfl
  ·obtain⟨t,Y,G,H,n,o,U,I⟩:=Fa c h d9 u x.call;have:=H.pf F.fL;subst this;obtain⟨t1,t2,t3,Z⟩:=t;obtain⟨i,j⟩:=I m;simp only at n o i j;subst n o i j;rw[RD m,G];rfl
 have M:¬x.kind=4:=d9;have O:¬x.kind=5:=d9;have P:¬x.kind=6:=d9;rw[RD M,RD O,RD P];simp only[R0,A0];by_cases B:x.kind=7
 ·have W:=(AK c a b).2;rw[RE B,(zo c a b).1,Nw N s.world d9];rfl
 rw[RD B];by_cases C:x.kind=8
 ·have hl:=h.len c;rw[RE C,LG c (show s.saved.length<4294967281 by omega)];unfold vf;simp only[R0,Qz];cases decide ((s.saved.length:Int)=0) with
  |true=>rfl
  |false =>
   cases kl N s.saved with
   |none=>rfl
   |some r =>
    simp only[R0,A0];cases decide (r.2=0) with
    |false=>rfl
    |true =>
     by_cases g:r.1.aC<s.world.aC
     ·rw[RE g,show max r.1.aC s.world.aC=s.world.aC by omega];rfl
     ·rw[RD g,show max r.1.aC s.world.aC=r.1.aC by omega];rfl
 rw[RD C];rfl
def d85{N:Nat}(e:4194304<=N):∀(l:List eM) (k:Nat) (s:H9) (a:List ch) (E:Int) (z:Nat),(∀x∈l,x.aJ.code.length<=1048576)->SI N E z s->E+l.length<=1000->z+401*l.length<=1000000->a.length+l.length<=1000 ->
  ∃t d,oC N l k s a=some (t,d)/\oF N l k s a=some (t,d)/\SI N (E+l.length) (z+401*l.length) t
 |[],_,s,a,E,z,_,c,_,_,_=>⟨s,a,rfl,rfl,by simpa using c⟩
 |x::l,k,s,a,E,z,hc,c,hE,hz,hr=>by
  simp only[QI] at hE hz hr;have b:=hc x l9;obtain⟨t,r,f,h,_⟩:=PC (x:=x) e c d9 d9 b;have i:=(KN e c d9 b).trans f;obtain⟨q,d,j,m,c3⟩:=d85 e l (k+1) t (a++[r]) (E+1) (z+401) (fun x n=>hc x (Qp _ n)) h d9 d9 F5;have g:AT ((a.length+[r].length)*32) 140737488355328=true:=Qx (by simp only[Qq];omega);refine⟨q,d,?_,?_,c3.more (by simp only[QI];omega) (by simp only[QI];omega)⟩
  ·rw[oC,f];simp only[A0,g,Qz];exact j
  ·rw[oF,i];simp only[A0,g,Qz];exact m
def Ko(a:ch):cE (gp a) (gp a)=true:=by
 obtain⟨e,n,k,m⟩:=a;simp[gp,cE,pk]
def d54(N:Nat)(p:H9×List ch×Int)(q:H9×List ch)(h:q.2=p.2.1):∀(l:List ch) (k:Nat),l=p.2.1.drop k->X4 N p q l k=some (.next ())
 |[],k,_=>rfl
 |x::l,k,hl=>by
  obtain⟨a,b,_⟩:=X5 hl;rw[X4,h];simp only[q9,a,A0,Ko,IT,R0];exact d54 N p q h l (k+1) b
def CA(N:Nat)(s:H9):qO N s s=some true:=by
 unfold qO;simp only[d30,d32,JU,A0,RB,Qz]
def IZ(b:(List eM))(l:(qE Ad) b)(m:(eg kz) b<=1048576):∃N,yG N b=some true:=by
 obtain⟨N,d⟩:∃N:Nat,4194304<=N:=⟨4194304,NO _⟩;refine⟨N,?_⟩;unfold yG;by_cases a:(60:Int)<(b.length:Int)
 ·have e:qd N b=some (⟨⟨[],[],0⟩,[],[],[]⟩,[],5):=by
   unfold qd;rw[RE a];rfl
  rw[e,RE a];rfl
 obtain⟨f,j⟩:=Ol N d;have g:lV N=some pd.world:=Pu;obtain⟨t,c,h,i,c3⟩:=d85 d b 0 pd [] 0 0 (MO d9) j d9 d9 (by simp only[Qh];omega);have e:qd N b=some (t,c,0):=by
  unfold qd;rw[RD a,f];simp only[R0,A0,h]
 have k:vu N b=some (t,c):=by
  unfold vu;rw[g];simp only[A0];rw[show(⟨pd.world,[],[],[]⟩:H9)=pd from rfl,i];rfl
 rw[e,RD a];simp only[R0,A0,k,RB,IT,CA,d93 d c3 d9,f,g,d54 N (t,c,0) (t,c) rfl c 0 rfl];exact CA N pd
end Go.Proofs.YtibjcppjfkamhaaGreatDoor
