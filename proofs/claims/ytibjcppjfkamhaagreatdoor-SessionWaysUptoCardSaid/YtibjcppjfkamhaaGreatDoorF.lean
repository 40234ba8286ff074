import Derived.Test.YtibjcppjfkamhaaGreatDoorE
set_option linter.unusedVariables false
set_option linter.defProp false
set_option linter.unusedSimpArgs false
namespace Go.Proofs.YtibjcppjfkamhaaGreatDoor
open Go.RowKit
open _root_.Bool renaming and_eq_true->IT,not_true->MK,not_false->MU,false_eq_true->Mp
open _root_.ByteArray renaming empty->BY
open _root_.Int renaming le_refl->MS,toNat_natCast->Mk
open _root_.List renaming getElem?_eq_getElem->IS,getElem?_eq_some_iff->MI,mem_cons->MJ,replicate->MM,length_append->MN,length_cons->MO,map->MQ,mem_of_getElem?->MT,all_eq_true->MV,map_cons->MW,mem_append->MY,append_assoc->MZ,length_map->Mb,getElem?_set->Mc,getElem?_append_right->Mf,sum_cons->Mg,length_set->Mh,getElem?_eq_none->Mi,mem_singleton->Ml,getElem?_map->Mn,eq_nil_of_length_eq_zero->Mo,ext_getElem?->Mr,length_nil->Mt,getElem?_append_left->Mu,mem_cons_of_mem->Mv,length_take->Mw,getElem?_take->My,length_singleton->Mz,mem_iff_getElem?->N0,getElem?_cons_succ->N1,getElem?_cons_zero->N2
open _root_.Nat renaming ble->IN,le_refl->It,zero_add->Mm,add_assoc->Ms,mul_le_mul_right->Mx
open _root_.Option renaming bind_some->A0,map_eq_some_iff->MP,map_some->Mj
def tx (t:BL):ByteArray:=⟨t.toArray⟩
def Kg (s:ByteArray):(dZ s).length=s.size+1:=by rw[dZ,MN,sr];rfl
theorem Bm {w:Wd}:∀{l:List Cl} {k:Nat},l=w.a7.drop k->ji w l k=.next ()->∀j c,k<=j->w.a7[j]?=some c->lh (w.a7.take j) j c=0
 |[],k,h,_,j,c,b,a=>by
  have f:=(MI.1 a).1;have g:=List.drop_eq_nil_iff.1 h.symm;omega
 |d::l,k,h,he,j,c,b,a=>by
  obtain⟨hd,hl,_⟩:=Z6 h;rw[ji] at he;by_cases e:lh (w.a7.take k) k d=0
  ·rw[ND e] at he;rcases Nat.eq_or_lt_of_le b with rfl|b
   ·rw[hd] at a;cases a;exact e
   ·exact Bm hl he j c b a
  ·rw[NC e] at he;cases he
def Js {b:List Cl} {k:Nat} {c:Cl} (h:lh b k c=0):Y4 c.name=true/\j7 b c.name=false/\tO k c=false/\qS k c=false:=by
 unfold lh at h;cases a:(!Y4 c.name || (j7 b c.name || tO k c)) with
 |true=>rw[a] at h;cases h
 |false =>
  rw[a] at h;cases d:qS k c with
  |true=>rw[d] at h;cases h
  |false =>
   simp only[Bool.or_eq_false_iff,Bool.not_eq_false'] at a;exact⟨a.1,a.2.1,a.2.2,rfl⟩
def yQ {s:ByteArray} (h:Y4 s=true):iC s:=by
 unfold Y4 at h;simp only[IT,NF] at h;refine⟨fun e=>?_,fun e=>?_⟩
 ·have:=sr s;rw[e] at this;simp at this;omega
 ·have:=MV.1 h.1 32 e;revert this;decide
def Iu {w:Wd} {c:Int} {m:Me} {i:Ins} (h:bo w c m i=0):i.b=0/\i.c=0/\(i.op=14->iC i.name)/\(i.op≠14->i.name=BY):=by
 unfold bo at h;split at h
 ·cases h
 ·split at h
  ·split at h
   ·cases h
   ·rename_i a;unfold jm at a;simp only[Bool.or_eq_true,IT,Bool.not_eq_true',NF,decide_eq_false_iff_not,not_or,not_and,Classical.not_not,Bool.not_eq_false] at a;exact⟨a.1.2,a.2,fun d=>yQ (a.1.1.1 d),fun d=>a.1.1.2 d⟩
  ·cases h
theorem qR.small {w:Wd} (h:qR w):D7 w :=
 ⟨by have:=h.2.1;omega,by have:=h.2.2.1;omega,fun c a=>⟨by have:=(h.2.2.2.1 c a).2.2.2.1;omega,fun m b=>by have:=((h.2.2.2.1 c a).2.2.2.2 m b).2.2.2.2.1;omega⟩,fun o d=>by have:=(h.2.2.2.2 o d).2.1;omega⟩
def IM (N:Nat):pt N N8=some 0:=C9
def tf (r:db):BL:=(r.l.map dZ).flatten
def zK (r:db):Prop:=∀w∈r.l,iC w/\w.size<4294967281
def eF {α:Type} (f:db->Option (α×db)) (p:BL->Option (α×BL)) (A:α->Prop):Prop :=
 ∀r:db,zK r->∃a b,f r=some (a,b)/\A a/\zK b/\(r.gW=false->b.gW=false) /\
  (r.gW=true->match p (tf r) with
   |some (x,t)=>a=x/\b.gW=true/\tf b=t
   |none=>b.gW=false)
section
variable {α β:Type}
theorem eF.pure {a:α} {A:α->Prop} (h:A a):eF (fun r=>some (a,r)) (fun t=>some (a,t)) A :=
 fun r b=>⟨a,r,rfl,h,b,fun h=>h,fun h=>⟨rfl,h,rfl⟩⟩
theorem eF.bind {f:db->Option (α×db)} {p:BL->Option (α×BL)} {A:α->Prop} (u:eF f p A) {k:α×db->Option (β×db)} {q:α×BL->Option (β×BL)} {B:β->Prop}
  (v:∀a,A a->eF (fun r=>k (a,r)) (fun t=>q (a,t)) B):eF (fun r=>(f r).bind k) (fun t=>(p t).bind q) B:=by
 intro r w;obtain⟨a,y,l,m,n,o,c⟩:=u r w;obtain⟨b,z,g1,g,i,d,j⟩:=v a m y n;refine⟨b,z,by simp only[l,A0,g1],g,i,fun h=>d (o h),fun h=>?_⟩;have c:=c h;dsimp only;cases e:p (tf r) with
 |none =>
  rw[e] at c;exact d c
 |some x =>
  rw[e] at c;obtain⟨x,t⟩:=x;obtain⟨rfl,s,rfl⟩:=c;exact j s
theorem eF.e8 {L:db->Option (db×α)} {p:BL->Option (α×BL)} {A:α->Prop} (e:eF (fun r=>(L r).map fun y=>(y.2,y.1)) p A) {k:db×α->Option (β×db)} {q:α×BL->Option (β×BL)} {B:β->Prop}
  (f:∀a,A a->eF (fun r=>k (r,a)) (fun t=>q (a,t)) B):eF (fun r=>(L r).bind k) (fun t=>(p t).bind q) B:=by
 have:=eF.bind e (k:=fun y=>k (y.2,y.1)) f;intro r h;obtain⟨b,c,g1,g⟩:=this r h;refine⟨b,c,?_,g⟩;have d:((L r).map fun y=>(y.2,y.1)).bind (fun y=>k (y.2,y.1))=some (b,c):=g1;show(L r).bind k=some (b,c);rw[<-d];cases L r<;>rfl
theorem eF.loop {p:BL->Option (α×BL)} {step:db->Option (α×db)} (o:eF step p fun _=>True) {L:Nat->Nat->db->List α->Option (db×List α)} (m:∀k r l,L 0 k r l=some (r,l))
  (q:∀n k r l,l.length<=1000->L (n+1) k r l=(step r).bind fun y=>L n (k+1) y.2 (l++[y.1])) :
  ∀(n k:Nat) (l:List α),l.length+n<=1000->eF (fun r=>(L n k r l).map fun y=>(y.2,y.1)) (fun t=>(cU p n t).map fun y=>(l++y.1,y.2)) fun _=>True
 |0,k,l,_=>fun r e=>⟨l,r,by simp[m],trivial,e,fun h=>h,fun h=>by simp[cU,h]⟩
 |n+1,k,l,hl=>by
  intro r e;obtain⟨a,g,u,B,v,w,d⟩:=o r e;obtain⟨b,i,g1,A,s,j,c⟩:=eF.loop o m q n (k+1) (l++[a]) L9 g v;have g1:(L n (k+1) g (l++[a])).map (fun y=>(y.2,y.1))=some (b,i):=g1;refine⟨b,i,?_,trivial,s,fun h=>j (w h),fun h=>?_⟩
  ·show(L (n+1) k r l).map (fun y=>(y.2,y.1))=some (b,i);rw[q n k r l d9,u,<-g1];rfl
  have d:=d h;dsimp only;cases f:p (tf r) with
  |none =>
   rw[f] at d;simp only[cU,f,Option.bind_none,Option.map_none];exact j d
  |some x =>
   rw[f] at d;obtain⟨x,t⟩:=x;obtain⟨rfl,z,rfl⟩:=d;have c:=c z;dsimp only at c;simp only[cU,f,A0];cases e:cU p n (tf g) with
   |none=>rw[e] at c;exact c
   |some y =>
    rw[e] at c;simp only[Mj,MZ,List.singleton_append] at c;exact c
theorem eF.rep {p:BL->Option (α×BL)} {step:db->Option (α×db)} (c:eF step p fun _=>True) {L:Nat->Nat->db->List α->Option (db×List α)} (a:∀k r l,L 0 k r l=some (r,l))
  (d:∀n k r l,l.length<=1000->L (n+1) k r l=(step r).bind fun y=>L n (k+1) y.2 (l++[y.1])) (n:Nat) (b:n<=1000):eF (fun r=>(L n 0 r []).map fun y=>(y.2,y.1)) (cU p n) fun _=>True:=by
 have:=eF.loop c a d n 0 [] (by simpa using b);have e:(fun t=>(cU p n t).map fun y=>(([]:List α)++y.1,y.2))=cU p n:=by
  funext t;cases cU p n t<;>rfl
 rwa [e] at this
end
def J3 (t:BL):Prop:=∃l:List ByteArray,(∀w∈l,iC w)/\t=(l.map dZ).flatten
theorem J3.nil : J3 []:=⟨[],l9,rfl⟩
theorem J3.app {a b:BL} (e:J3 a) (f:J3 b):J3 (a++b):=by
 obtain⟨l,c,rfl⟩:=e;obtain⟨m,d,rfl⟩:=f;exact⟨l++m,fun w g=>(MY.1 g).elim (c w) (d w),l9⟩
theorem J3.word {s:ByteArray} (h:iC s):J3 (dZ s):=⟨[s],by simpa using h,l9⟩
theorem J3.num (n:Int):J3 (dP n):=J3.word (s:=⟨(Lib.itoa n).toArray⟩) (Bn n)
theorem J3.flat {α:Type} (f:α->BL):∀{l:List α},(∀x∈l,J3 (f x))->J3 (l.map f).flatten
 |[],_=>J3.nil
 |x::l,h=>by
  rw[MW,List.flatten_cons];exact(h x l9).app (J3.flat f fun y a=>h y (by simp[a]))
theorem J3.mT (l:List Int):J3 (cM l):=J3.flat dP fun n _=>J3.num n
theorem J3.ins {i:Ins} (h:vd i):J3 (eh i):=by
 unfold eh;by_cases a:i.op=14
 ·simp only[a,if_true];exact(J3.mT _).app (J3.word (h.2.2.2.2.1 a))
 ·simp only[a,if_false,List.append_nil];exact J3.mT _
theorem J3.me {m:Me} (h:tN m):J3 (ec m):=by
 unfold ec;exact(J3.word h.1).app ((J3.mT _).app (J3.flat eh fun i hi=>J3.ins (h.2.2.2.2.2 i hi)))
theorem J3.cl {c:Cl} (h:d52 c):J3 (fJ c):=by
 unfold fJ;exact(J3.word h.1).app ((J3.mT _).app (J3.flat ec fun i hi=>J3.me (h.2.2.2.2 i hi)))
theorem J3.ob (o:Ob):J3 (fL o):=by
 unfold fL;exact(J3.mT _).app (J3.flat vT fun v _=>by unfold vT;exact J3.mT _)
theorem J3.wo {w:Wd} (h:qR w):J3 (da w):=by
 unfold da;exact(J3.mT _).app ((J3.flat fJ fun c a=>J3.cl (h.2.2.2.1 c a)).app ((J3.mT _).app (J3.flat fL fun o _=>J3.ob o)))
theorem BX (N:Nat) (x:Cl):∀(l:List Cl) (k:Nat),kD N x l k=some (bif j7 l x.name then .ret 7 else .next ())
 |[],k=>rfl
 |d::l,k=>by
  rw[kD,BX N x l (k+1)];unfold j7;rw[List.any_cons];by_cases h:d.name=x.name<;>simp[h]
theorem Ba (N:Nat) (w:Wd):∀(l:List Cl) (k:Nat),l=w.a7.drop k->jV N w N8 l k=some (ji w l k)
 |[],k,_=>rfl
 |c::l,k,h=>by
  obtain⟨t,hl,j⟩:=Z6 h;have j:=of_decide_eq_true j;have ih:=Ba N w l (k+1) hl;have r:(decide ((0:Int)<=(k:Int)) && decide ((k:Int)<=(w.a7.length:Int)))=true:=by
   simp only[IT,NF];omega
  have q:((k:Int)).toNat=k:=d9;rw[jV,kJ,ji];simp only[r,q,BX,ih,A0,N3];unfold lh tO qS;generalize j7 (w.a7.take k) c.name=g;cases u:Y4 c.name with
  |false=>simp
  |true =>
   cases o:N8.a7[k]? with
   |some f =>
    have s:=d94 o;have e1:decide ((k:Int)<(4:Int))=true:=ND d9;simp only[e1,D5,o,A0,N3,N4,MK,Bool.false_or];by_cases a:c.name=f.name
    ·cases g with
     |true=>simp[a]
     |false =>
      by_cases b:c.aR=f.aR
      ·by_cases d:c.aG<0
       ·have:¬c.aG=0:=d9;simp[a,b,d,this]
       ·by_cases n:0<c.aG
        ·have:¬c.aG=0:=d9;simp[a,b,d,n,this]
        ·have:c.aG=0:=d9;simp[a,b,this]
      ·simp[a,b]
    ·simp[a]
   |none =>
    have s:=d83 o;have e1:decide ((k:Int)<(4:Int))=false:=NC d9;simp only[e1,A0,N3,N4,MK,Bool.false_or];cases g with
    |true=>simp
    |false =>
     by_cases a:c.aR<0
     ·simp[a]
     ·by_cases b:(k:Int)<=c.aR
      ·simp[a,b]
      ·by_cases m:c.aR=0
       ·have i:¬k=0:=d9;by_cases d:c.aG<0
        ·simp[i,b,m,d]
        ·by_cases n:6<c.aG<;>simp[i,b,m,d,n]
       ·have e:0<c.aR:=d9;by_cases p:c.aR<4
        ·simp[a,b,m,e,p]
        ·by_cases d:c.aG<0
         ·simp[a,b,m,e,d,p]
         ·by_cases n:6<c.aG<;>simp[a,b,m,e,d,n,p]
theorem BW (N:Nat) (k:Nat) (m:Me):∀(l:List Me) (j:Nat) (b:Bool),O8 N k m l j b=some (b || (decide (k=3) && (l.any (fun p=>decide (p.name=m.name) && decide (p.aU=m.aU)) && (decide (m.args=1) && (decide (m.a8=0) && decide (m.code=[]))))))
 |[],j,b=>by simp[O8]
 |x::l,j,b=>by
  have n:decide ((m.code.length:Int)=0)=decide (m.code=[]):=by
   cases m.code<;>simp;omega
  have o:decide ((k:Int)=3)=decide (k=3):=by
   by_cases h:k=3
   ·subst h;rfl
   ·rw[NC h,NC d9]
  rw[O8,n,o,List.any_cons];simp only[BW N k m l (j+1)];generalize decide (k=3)=a;generalize decide (x.name=m.name)=c;generalize decide (x.aU=m.aU)=d;generalize decide (m.args=1)=e;generalize decide (m.a8=0)=f;generalize decide (m.code=[])=g;generalize (l.any fun p=>decide (p.name=m.name) && decide (p.aU=m.aU))=i;cases b<;>cases a<;>cases c<;>cases d<;>cases e<;>cases f<;>cases g<;>cases i<;>rfl
theorem BN (N:Nat) (w:Wd) (k:Nat) (c:Cl) (i:4194304<=N) (d:D7 w) (n:c∈w.a7) (b:0<=p8 w (k:Int)/\p8 w (k:Int)<=1000000000):∀(l:List Me) (j:Nat),l=c.aC.drop j->jU N w N8 k c l j=qB N w k c.aC l j
 |[],j,_=>rfl
 |m::l,j,h=>by
  obtain⟨v,hl,a⟩:=Z6 h;have a:=of_decide_eq_true a;have t:=(d.2.2.1 c n).1;have ih:=BN N w k c i d n b l (j+1) hl;have ep:((bif decide ((0:Int)<(j:Int)) then((j4 c.aC (wr ((j:Int)-(1:Int)))).bind fun e=>some ((!Y5 e.name m.name))) else some (false)):Option Bool) =
    some (nz (if j=0 then none else c.aC[j-1]?) m):=by
   by_cases g:j=0
   ·subst g;rfl
   ·have wk:wr ((j:Int)-1)=((j-1:Nat):Int):=by rw[u7 ino];omega
    obtain⟨p,u⟩:∃p,c.aC[j-1]?=some p:=⟨_,IS d9⟩;rw[ND (show(0:Int)<(j:Int) by omega),N5 g];simp only[N3,wk,D5,u,A0,nz]
  have q:j4 N8.a7 (3:Int)=some ⟨⟨#[73,110,116]⟩,0,0,bt⟩:=rfl;have r:O8 N k m bt 0 false=some (qJ k m):=by rw[BW];rfl
  obtain⟨f,o⟩:=wv N w (k:Int) m i;rw[jU,ep,q,om N w _ _ d9 d.1 b,o,qB];unfold d40;simp only[A0,ih,r,o,Mj];cases nz (if j=0 then none else c.aC[j-1]?) m with
  |true=>simp
  |false =>
   cases qJ k m with
   |true=>simp
   |false=>by_cases s:f.err=0<;>simp[s]
theorem BP (N:Nat) (w:Wd) (d:4194304<=N) (b:D7 w) (a:∀c:Int,0<=p8 w c/\p8 w c<=1000000000):∀(l:List Cl) (k:Nat),l=w.a7.drop k->lA N w N8 l k=mA N w l k
 |[],k,_=>rfl
 |c::l,k,h=>by
  obtain⟨e,hl,f⟩:=Z6 h;rw[lA,lC N w _ d9 b.1,mA,BN N w k c d b (MT e) (a _) c.aC 0 rfl];simp only[A0,BP N w d b a l (k+1) hl];rfl
theorem BO (N:Nat) (w:Wd):∀(l:List V) (k:Nat),kE N w l k=some (lg (w.heap.length:Int) l)
 |[],k=>rfl
 |v::l,k=>by
  rw[kE,wP,lg];simp only[A0,BO N w l (k+1)];by_cases h:ca v (w.heap.length:Int)=0<;>simp[h]
theorem Bb (N:Nat) (w:Wd) (c:1048578<=N) (d:w.a7.length<=1048576) (i:4<=w.a7.length):∀(l:List Ob) (k:Nat),kF N w l k=some (mC w l)
 |[],k=>rfl
 |o::l,k=>by
  rw[kF,lC N w _ c d,mC,BO];simp only[A0,Bb N w c d i l (k+1)];have e:((bif decide (o.cls<(0:Int)) then some (true) else(bif decide ((0:Int)<o.cls) then(bif decide (o.cls<(4:Int)) then some (true) else(bif decide ((w.a7.length:Int)<=o.cls) then some (true) else some ((!decide ((o.aG.length:Int)=p8 w o.cls))))) else(bif decide ((w.a7.length:Int)<=o.cls) then some (true) else some ((!decide ((o.aG.length:Int)=p8 w o.cls)))))):Option Bool)=some (oS w o):=by
   unfold oS;by_cases b:o.cls<0
   ·have:¬o.cls=0:=d9;have h:o.cls<4:=d9;simp[b,this,h]
   ·by_cases f:o.cls=0
    ·have:¬(w.a7.length:Int)<=o.cls:=d9;have a:¬(0:Int)<o.cls:=d9;rw[NC b,NC a,NC this,ND f];rfl
    ·have a:(0:Int)<o.cls:=d9;rw[NC b,ND a,NC f];by_cases g:o.cls<4
     ·simp[g]
     ·by_cases j:(w.a7.length:Int)<=o.cls<;>simp[g,j]
  rw[e];simp only[A0];cases oS w o with
  |true=>rfl
  |false =>
   simp only[N4];cases lg (w.heap.length:Int) o.aG<;>rfl
def BT (N:Nat) (w:Wd) (i:4194304<=N) (d:D7 w):nG N w=pt N w:=by
 unfold nG pt uq;have e1:((bif decide ((w.a7.length:Int)<(4:Int)) then some (true) else(bif decide ((12:Int)<(w.a7.length:Int)) then some (true) else some (decide ((60:Int)<(w.heap.length:Int))))):Option Bool)=some (decide ((w.a7.length:Int)<4) || (decide (12<(w.a7.length:Int)) || decide (60<(w.heap.length:Int)))):=by
  by_cases a:(w.a7.length:Int)<4
  ·simp[a]
  ·by_cases p:(12:Int)<(w.a7.length:Int)<;>simp[a,p]
 have g:((bif decide (w.aB<(0:Int)) then some (true) else some (decide ((1073741824:Int)<w.aB))):Option Bool)=some (decide (w.aB<0) || decide (1073741824<w.aB)):=by
  by_cases a:w.aB<0<;>simp[a]
 simp only[A0,e1,g];cases m:(decide ((w.a7.length:Int)<4) || (decide (12<(w.a7.length:Int)) || decide (60<(w.heap.length:Int)))) with
 |true=>rfl
 |false =>
  have h:4<=w.a7.length:=by
   simp only[Bool.or_eq_false_iff,decide_eq_false_iff_not] at m;omega
  simp only[N4];cases (decide (w.aB<0) || decide (1073741824<w.aB)) with
  |true=>rfl
  |false =>
   simp only[N4,Ba N w w.a7 0 rfl,Bb N w d9 d.1 h w.heap 0,A0];cases b:ji w w.a7 0 with
   |ret r=>rfl
   |next u =>
    have e:∀c:Int,0<=p8 w c/\p8 w c<=1000000000:=kP (fun x n=>by
     obtain⟨j,l⟩:=N0.1 n;obtain⟨_,_,_,f⟩:=Js (Bm (k:=0) rfl b j x (Nat.zero_le _) l);unfold qS at f;simp only[Bool.or_eq_false_iff,decide_eq_false_iff_not] at f;omega) d.1
    simp only[BP N w i d e w.a7 0 rfl];cases mA N w w.a7 0 with
    |none=>rfl
    |some o =>
     cases o with
     |ret r=>rfl
     |next u =>
      simp only[A0];cases mC w w.heap<;>rfl
theorem nV {a:Type} {f:a->BL} {B:Nat}:∀{l:List a},(∀x∈l,(f x).length<=B)->(l.map f).flatten.length<=l.length*B
 |[],_=>l9
 |x::l,h=>by
  have c:=h x l9;have d:=nV (l:=l) fun y b=>h y (Mv _ b);simp only[MW,List.flatten_cons,MN,MO,Nat.add_mul];omega
def nf {l:List Int} (h:∀n∈l,I4 n):(cM l).length<=l.length*22:=nV fun n a=>KS (h n a)
def iJ {n:Int} (h:-1073741824<=n/\n<=1073741824):I4 n:=ino
def xu {s:ByteArray} (h:Y4 s=true):(dZ s).length<=13:=by
 unfold Y4 at h;simp only[IT,NF] at h;rw[Kg];omega
def JX {w:Wd} {c:Int} {m:Me} {i:Ins} (t:p8 w c<=78/\w.a7.length<=12) (r:m.args<=4/\m.a8<=6/\m.code.length<=60) (h:bo w c m i=0):vd i/\(eh i).length<=60:=by
 obtain⟨f1,j,k,o⟩:=Iu h;have s:=y6 h;have p:I4 i.op:=ino;have q:I4 i.a:=ino;refine⟨⟨p,q,f1,j,k,o⟩,?_⟩;have g:=nf (l:=[i.op,i.a]) (fun n d=>by simp only[MJ,List.mem_nil_iff,or_false] at d;rcases d with rfl|rfl<;>assumption);unfold eh;rw[MN];simp only[MO,Mt] at g;by_cases b:i.op=14
 ·rw[N6 b];have f:=(CB h).2;unfold jm at f;simp only[Bool.or_eq_false_iff,Bool.and_eq_false_iff,Bool.not_eq_false',decide_eq_false_iff_not,NF] at f;have d:Y4 i.name=true:=by
   rcases f.1.1.1 with e|e
   ·exact absurd b e
   ·exact e
  have:=xu d;omega
 ·rw[N5 b];simp only[Mt];omega
def KM {N:Nat} {w:Wd} {j:Nat} {m:Me} (u:p8 w (j:Int)<=78/\w.a7.length<=12) (h:ns j m\/∃f,aj N w (j:Int) m=some f/\f.err=0):tN m/\(ec m).length<=4000:=by
 have key:Y4 m.name=true/\(0<=m.args/\m.args<=4)/\(0<=m.a8/\m.a8<=6)/\(0<=m.aU/\m.aU<=5)/\m.code.length<=60/\∀i∈m.code,bo w (j:Int) m i=0:=by
  rcases h with⟨_,p,t,e1,o,C,D,c⟩|⟨f,r,s⟩
  ·have a:∀q∈bt,Y4 q.name=true/\0<=q.aU/\q.aU<=5:=G7;obtain⟨g1,d,e⟩:=a p t;rw[e1] at g1;rw[o] at d e;exact⟨g1,d9,d9,⟨d,e⟩,by rw[c];simp,by rw[c];intro i hi;cases hi⟩
  ·have F:=Bv r s;exact⟨F.name,F.args,F.a8,by rw[F.aU];decide,F.len.2,F.num⟩
 obtain⟨g,v,x,E,b,y⟩:=key;have hi:=fun i hi=>JX u ⟨v.2,x.2,b⟩ (y i hi);refine⟨⟨yQ g,iJ d9,iJ d9,iJ d9,b,fun i h=>(hi i h).1⟩,?_⟩;have z:=xu g;have k:=nf (l:=[m.args,m.a8,m.aU,(m.code.length:Int)]) (fun n a=>by
  simp only[MJ,List.mem_nil_iff,or_false] at a;rcases a with rfl|rfl|rfl|rfl<;>exact iJ d9)
 have A:=nV (f:=eh) (B:=60) fun i h=>(hi i h).2;unfold ec;simp only[MN,MO,Mt] at k⊢;have:=Mx 60 b;omega
def Bf {N:Nat} {w:Wd} (K:4194304<=N) (M:D7 w) (b:I5 N w):qR w/\(da w).length<=1000000:=by
 have d:=b.many;have y:=wz (p6 b) d.2.1;have cl:∀c∈w.a7,d52 c/\(fJ c).length<=40000:=fun c g=>by
  obtain⟨j,q⟩:=N0.1 g;have L:=(MI.1 q).1;obtain⟨g1,_,D,r,E⟩:=b.cls j c q;obtain⟨Q,H,_,_⟩:=b.ak j c q;have G:-1<=c.aR/\c.aR<=12:=by
   rcases Nat.lt_or_ge j 4 with s|s
   ·obtain⟨f,f1,_,J,_⟩:=D s;have a:∀x∈N8.a7,-1<=x.aR/\x.aR<=12:=G7;rw[J];exact a f (MT f1)
   ·have:=r s;omega
  have i:∀m∈c.aC,tN m/\(ec m).length<=4000:=fun m t=>KM (N:=N) ⟨(y (j:Int)).2,d.2.1⟩ (b.vX K M q t);refine⟨⟨yQ g1,iJ d9,iJ d9,H,fun m h=>(i m h).1⟩,?_⟩;have A:=xu g1;have e:=nf (l:=[c.aR,c.aG,(c.aC.length:Int)]) (fun n a=>by
   simp only[MJ,List.mem_nil_iff,or_false] at a;rcases a with rfl|rfl|rfl<;>exact iJ d9)
  have C:=nV (f:=ec) (B:=4000) fun m h=>(i m h).2;unfold fJ;simp only[MN,MO,Mt] at e⊢;have:=Mx 4000 H;omega
 have ob:∀o∈w.heap,yw o/\(fL o).length<=5000:=fun o p=>by
  obtain⟨g1,P,D,r,E⟩:=b.obj o p;have F:o.aG.length<=6:=by
   obtain⟨I,u⟩:=Int.eq_ofNat_of_zero_le g1;have:=(b.ak I _ (IS (show I<w.a7.length by omega))).1;rw[u] at r;omega
  have z:∀v∈o.aG,I4 v.k/\I4 v.n:=fun v h=>by
   have:=E v h;unfold ca at this;unfold I4
   (repeat' split at this)<;>first|omega|cases this
  refine⟨⟨iJ d9,F,z⟩,?_⟩;have e:=nf (l:=[o.cls,(o.aG.length:Int)]) (fun n a=>by
   simp only[MJ,List.mem_nil_iff,or_false] at a;rcases a with rfl|rfl<;>exact iJ d9)
  have C:=nV (f:=vT) (B:=44) (l:=o.aG) fun v h=>nf (l:=[v.k,v.n]) (fun n a=>by
   simp only[MJ,List.mem_nil_iff,or_false] at a;rcases a with rfl|rfl
   ·exact(z v h).1
   ·exact(z v h).2)
  unfold fL;simp only[MN,MO,Mt] at e⊢;have:=Mx 44 F;omega
 refine⟨⟨iJ (by have:=b.aB;omega),d.2.1,d.2.2,fun c g=>(cl c g).1,fun o p=>(ob o p).1⟩,?_⟩;have A:=nf (l:=[w.aB,(w.a7.length:Int)]) (fun n a=>by
  simp only[MJ,List.mem_nil_iff,or_false] at a;rcases a with rfl|rfl<;>exact iJ (by have:=b.aB;omega))
 have e:=nf (l:=[(w.heap.length:Int)]) (fun n a=>by
  simp only[MJ,List.mem_nil_iff,or_false] at a;subst a;exact iJ d9)
 have C:=nV (f:=fJ) (B:=40000) fun c g=>(cl c g).2;have O:=nV (f:=fL) (B:=5000) fun o p=>(ob o p).2;unfold da;simp only[MN,MO,Mt] at A e⊢;have:=Mx 40000 d.2.1;have:=Mx 5000 d.2.2;omega
def CW {N:Nat} {w:Wd} (a:4194304<=N) (b:D7 w) (c:I5 N w):pQ N w=some (U (da w))/\lW N (U (da w))=some (w,0):=by
 obtain⟨d,f⟩:=Bf a b c;refine⟨Jc N w d9,?_⟩;have e:pt N w=some 0:=by rw[<-BT N w a b];exact Ip N w a b c
 rw[Jl N _ (by rw[fS];omega),E7,KO d];simp only[Gk N w a b,e,A0,NA,MK,N4]
def KQ {w:Wd} {c:Int} {m:Me} {i:Ins} (h:bo w c m i=0) (hl:w.a7.length<=1048576) (k:m.args<=1000) (n:m.a8<=1000) (hs:p8 w c<=1000000000) (l:m.code.length<=1048576) :
  -2000000000<=i.a/\i.a<=2000000000/\(i.op≠14->i.name=BY)/\i.b=0/\i.c=0:=by
 have j:jm i=false/\fb w c m i=some true:=by
  unfold bo at h;cases f:fb w c m i with
  |none=>rw[f] at h;cases h
  |some b =>
   rw[f] at h;cases b with
   |false=>simp at h
   |true =>
    cases j:jm i with
    |true=>simp[j] at h
    |false=>exact⟨rfl,rfl⟩
 obtain⟨d,g⟩:=j;have f:(i.op≠14->i.name=BY)/\i.b=0/\i.c=0:=by
  unfold jm at d;by_cases e:i.op=14
  ·simp only[e,NA,MK,Bool.false_and,Bool.true_and,Bool.or_false,Bool.or_eq_false_iff,Bool.not_eq_eq_eq_not,MU,NF] at d;exact⟨fun h=>absurd e h,d.1.2,d.2⟩
  ·simp only[e,NB,MU,Bool.false_and,Bool.true_and,Bool.false_or,Bool.or_eq_false_iff,Bool.not_eq_eq_eq_not,NF] at d;exact⟨fun _=>d.1.1,d.1.2,d.2⟩
 refine⟨?_,?_,f.1,f.2.1,f.2.2⟩ <;>
 ·unfold fb at g
  (repeat' split at g)<;>simp at g<;>omega
def ba (s:Int) (y:Me) (f:Int) (i:Ins):Ins :=
 if i.op=1 then⟨3,s,0,0,BY⟩ else if i.op=2 then⟨3,s+1+i.a,0,0,BY⟩ else if i.op=3\/i.op=11 then⟨i.op,s+1+y.args+i.a,0,0,BY⟩
 else if i.op=4 then⟨19,s,i.a,0,BY⟩ else if i.op=12 then⟨20,s,i.a,0,BY⟩ else if i.op=15\/i.op=16 then⟨i.op,f+i.a,0,0,BY⟩
 else if i.op=17 then⟨15,f+y.code.length,0,0,BY⟩ else⟨i.op,i.a,0,0,BY⟩
def jC (s:Int):Nat->List Ins
 |0=>[]
 |v+1=>⟨11,s+v,0,0,BY⟩::jC s v
def iH (b:Int):Nat->Nat->List Ins
 |0,_=>[]
 |n+1,k=>⟨6,0,0,0,BY⟩::⟨11,b+k,0,0,BY⟩::iH b n (k+1)
theorem gg (s:Int):∀n,(jC s n).length=n
 |0=>rfl
 |n+1=>by simp[jC,gg s n]
theorem jZ (b:Int):∀n k,(iH b n k).length=2*n
 |0,_=>rfl
 |n+1,k=>by simp[iH,jZ b n (k+1)];omega
def hl (y:Me):Nat:=3+y.args.toNat+2*y.a8.toNat
def eK (y:Me) (s c p:Int) (base:Nat):List Ins :=
 ⟨18,c,y.args,p,BY⟩::⟨21,0,0,0,BY⟩::(jC s (y.args.toNat+1)++iH (s+1+y.args) y.a8.toNat 0++y.code.map (ba s y ((base+hl y:Nat):Int)))
def ig (y:Me) (s c p:Int) (base:Nat):(eK y s c p base).length=R5 y:=by
 simp only[eK,MO,MN,gg,jZ,Mb,R5];omega
structure vf (y:Me):Prop extends Leafy y where
 num:∀i∈y.code,-2000000000<=i.a/\i.a<=2000000000/\(i.op≠14->i.name=BY)/\i.b=0/\i.c=0
theorem AL (N:Nat) (a:fY) (w:Wd) (m:Me) (t:Int) (aH fix:List Int) (d:0<=a.a8/\a.a8<=1000):∀(n:Nat) (v:Nat) (out:List Ins),v<n->v<=100->out.length+v<=900000 ->
  Z4 N a n w m out t aH fix ((v:Int)-1)=some (w,m,out++jC a.a8 v,t,aH,fix)
 |0,v,out,h,_,_=>d9
 |n+1,0,out,_,_,_=>by
  rw[Z4];have c:¬(0:Int)<=((0:Nat):Int)-1:=d9;simp only[c,NB,N4,jC,List.append_nil]
 |n+1,v+1,out,h,i,g=>by
  rw[Z4];have b:(0:Int)<=(((v+1:Nat):Int)-1):=d9;have e:wr ((((v+1:Nat):Int)-1)-1)=(v:Int)-1:=by rw[u7 ino];omega
  have f:wr (a.a8+(((v+1:Nat):Int)-1))=a.a8+(v:Int):=by rw[u7 ino];omega
  simp only[b,NA,N3,f,put_eq N w m out t aH fix _ _ _ _ (show out.length<=1000000 by omega),A0,e];rw[AL N a w m t aH fix d n v _ d9 d9 L9];simp[jC]
theorem AP (N:Nat) (a:fY) (y:Me) (b:Leafy y) (w:Wd) (m:Me) (t:Int) (aH fix:List Int) (c:0<=a.a8/\a.a8<=1000):∀(n:Nat) (k:Nat) (out:List Ins),n+k<=100->out.length+2*n<=900000 ->
  V5 N a y n k w m out t aH fix=some (w,m,out++iH (a.a8+1+y.args) n k,t,aH,fix)
 |0,k,out,_,_=>by simp[V5,iH]
 |n+1,k,out,f,g=>by
  rw[V5];have e:=b.args;have d:wr (wr (wr (a.a8+1)+y.args)+(k:Int))=a.a8+1+y.args+k:=by
   rw[u7 (show I4 (a.a8+1) by unfold I4;omega),u7 (show I4 (a.a8+1+y.args) by unfold I4;omega),u7 ino]
  simp only[d,put_eq N w m out t aH fix _ _ _ _ (show out.length<=1000000 by omega),A0];rw[put_eq N w m _ t aH fix _ _ _ _ L9];simp only[A0];rw[AP N a y b w m t aH fix c n (k+1) _ d9 L9];simp[iH]
theorem AU (N:Nat) (e:fY) (y:Me) (s:vf y) (V:List Ins) (z:V.length<=100000) (w:Wd) (m:Me) (t:Int) (aH fix:List Int) (B:0<=e.a8/\e.a8<=1000):∀(r:List Ins) (k:Nat) (out:List Ins),(∀i∈r,i∈y.code)->out.length+r.length<=900000 ->
  O7 N e y V r k w m out t aH fix=some (w,m,out++r.map (ba e.a8 y (V.length:Int)),t,aH,fix)
 |[],k,out,_,_=>by simp[O7]
 |x::r,k,out,hr,ho=>by
  simp only[MO] at ho;have u:=hr x l9;obtain⟨H,I,J,K,L⟩:=s.num x u;have M:=s.args;have O:=s.len;have go:=fun v:Ins=>AU N e y s V z w m t aH fix B r (k+1) (out++[v]) (fun i hi=>hr i (by simp[hi])) L9
  have C:=fun op a b c=>put_eq N w m out t aH fix op a b c (show out.length<=1000000 by omega)
  have D:wr (e.a8+1)=e.a8+1:=u7 ino;have E:wr (e.a8+1+x.a)=e.a8+1+x.a:=u7 ino;have w3:wr (e.a8+1+y.args)=e.a8+1+y.args:=u7 ino;have F:wr (e.a8+1+y.args+x.a)=e.a8+1+y.args+x.a:=u7 ino;have w5:wr ((V.length:Int)+x.a)=V.length+x.a:=u7 ino;have G:wr ((V.length:Int)+(y.code.length:Int))=V.length+y.code.length:=u7 ino;rw[O7];simp only[D,E,w3,F,w5,G,C,A0];have d:∀v:Ins,ba e.a8 y (V.length:Int) x=v->O7 N e y V r (k+1) w m (out++[v]) t aH fix=some (w,m,out++(x::r).map (ba e.a8 y (V.length:Int)),t,aH,fix):=by
   intro v A;rw[go v,MW,A];simp
  by_cases n:x.op=1
  ·simp only[n,NA,N3,A0];exact d _ (by simp[ba,n])
  by_cases o:x.op=2
  ·simp only[o,NA,N3,A0];exact d _ (by simp[ba,o])
  by_cases p:x.op=3
  ·simp only[p,NA,N3,A0];exact d _ (by simp[ba,p])
  by_cases f:x.op=11
  ·simp only[f,NA];exact d _ (by simp[ba,f])
  by_cases q:x.op=4
  ·simp only[q,NA,N3,A0];exact d _ (by simp[ba,q])
  by_cases g:x.op=12
  ·simp only[g,NA,N3,A0];exact d _ (by simp[ba,g])
  by_cases h:x.op=15
  ·simp only[h,NA,N3,A0];exact d _ (by simp[ba,h])
  by_cases j:x.op=16
  ·simp only[j,NA];exact d _ (by simp[ba,j])
  by_cases l:x.op=17
  ·simp only[l,NA,N3,A0];exact d _ (by simp[ba,l])
  simp only[n,o,p,f,q,g,h,j,l,NB,N4,A0];exact d _ (by simp[ba,n,o,p,f,q,g,h,j,l])
def d24 (N:Nat) (hN:1000<=N) (w:Wd) (m:Me) (out:List Ins) (t:Int) (aH fix:List Int) (k:Int) (p:Int) (i:Ins) (y:Me) (c:vf y) (hi:y.args=i.a) (s:0<=t/\t<=40) (r:out.length<=1000) :
  qz N (⟨w,m,out,t,aH,fix⟩:fY) k p i y=some ⟨w,m,out++eK y t k p out.length,t+(1+y.args+y.a8),aH,fix⟩:=by
 have n:=c.args;have o:=c.a8;have q:=c.len;unfold qz;have e1:wr (1+y.args)=1+y.args:=u7 ino;have e:wr (1+y.args+y.a8)=1+y.args+y.a8:=u7 ino;have f:wr (t+(1+y.args+y.a8))=t+(1+y.args+y.a8):=u7 ino;simp only[e1,e,f];rw[put_eq N w m out _ aH fix _ _ _ _ d9];simp only[A0];rw[put_eq N w m _ _ aH fix _ _ _ _ L9];simp only[A0];have d:=AL N ⟨w,m,out,t,aH,fix⟩ w m (t+(1+y.args+y.a8)) aH fix (by show 0<=t/\t<=1000;omega) N (y.args.toNat+1) ((out++[⟨18,k,i.a,p,BY⟩])++[⟨21,0,0,0,BY⟩]) d9 d9 L9
 have g:(((y.args.toNat+1:Nat):Int)-1)=y.args:=d9;rw[g] at d;rw[d];simp only[A0];have h:(y.a8-((0:Nat):Int)).toNat=y.a8.toNat:=d9;rw[h,AP N ⟨w,m,out,t,aH,fix⟩ y c.toLeafy w m (t+(1+y.args+y.a8)) aH fix (by show 0<=t/\t<=1000;omega) y.a8.toNat 0 _ d9 (by simp[gg];omega)];simp only[A0];rw[AU N ⟨w,m,out,t,aH,fix⟩ y c _ (by simp[gg,jZ];omega) w m (t+(1+y.args+y.a8)) aH fix (by show 0<=t/\t<=1000;omega) y.code 0 _ (fun j l=>l) (by simp[gg,jZ];omega)];simp only[A0];have b:(((((out++[(⟨18,k,i.a,p,BY⟩:Ins)])++[(⟨21,0,0,0,BY⟩:Ins)])++jC t (y.args.toNat+1))++iH (t+1+y.args) y.a8.toNat 0).length:Nat)=out.length+hl y:=by
  simp only[MN,MO,Mt,gg,jZ,hl];omega
 rw[b,eK,<-hi];simp
inductive O1 where
 |pl (i:Ins)
 |pc (y:Me) (s c p:Int)
def O1.out (b:Nat):O1->List Ins
 |.pl i=>[i]
 |.pc y s c p=>eK y s c p b
def O1.len : O1->Nat
 |.pl _=>1
 |.pc y _ _ _=>R5 y
def O1.eO : O1->Bool
 |.pl _=>false
 |.pc _ _ _ _=>true
def e7 (i:Ins):Bool:=decide (i.op=15) || decide (i.op=16)
def gM : List O1->Nat->List Ins
 |[],_=>[]
 |x::l,b=>x.out b++gM l (b+x.len)
def X9 : List O1->Nat->List Int
 |[],_=>[]
 |x::l,b=>(b:Int)::X9 l (b+x.len)
def dy : List O1->Nat->List Int
 |[],_=>[]
 |.pl i::l,b=>if e7 i=true then(b:Int)::dy l (b+1) else dy l (b+1)
 |.pc y s c p::l,b=>dy l (b+R5 y)
def oA (i:Ins) (a:Int):Ins:=⟨i.op,a,i.b,i.c,i.name⟩
def fI (b:List Int) (i:Ins):Ins:=if e7 i=true then oA i ((b[i.a.toNat]?).getD 0) else i
def dw (a:List Int):List O1->Nat->List Ins
 |[],_=>[]
 |.pl i::l,b=>fI a i::dw a l (b+1)
 |.pc y s c p::l,b=>eK y s c p b++dw a l (b+R5 y)
def ld (w:Wd) (c:Int) (name:ByteArray):Option Me:=if(l7 w name c).2<0 then none else(j4 w.a7 (l7 w name c).1).bind fun x=>j4 x.aC (l7 w name c).2
def di (w:Wd) (b:List Int) (L k:Nat) (i:Ins) (size:Nat) (t:Int):Option (Me×Int) :=
 if i.op=14 then match b[k]? with
  |some c=>if 0<=c then match ld w c i.name with
   |some y=>if fR y=true/\y.args=i.a/\size+R5 y+L<=240+k/\t+1+y.args+y.a8<=40 then some (y,c) else none
   |none=>none
   else none
  |none=>none
 else none
def Y6 (k:Nat) (i:Ins):Ins:=if i.op=14 then⟨i.op,i.a,i.b,k,i.name⟩ else i
def J5 (w:Wd) (a:List Int) (L:Nat):List Ins->Nat->Nat->Int->List O1×Int
 |[],_,_,t=>([],t)
 |i::r,k,size,t=>match di w a L k i size t with
  |some (y,c)=>let q:=J5 w a L r (k+1) (size+R5 y) (t+(1+y.args+y.a8));(.pc y t c k::q.1,q.2)
  |none=>let q:=J5 w a L r (k+1) (size+1) t;(.pl (Y6 k i)::q.1,q.2)
def eL (w:Wd):Prop:=∀(k:Nat) (x:Cl),w.a7[k]?=some x->∀y∈x.aC,vf y
def vG {w:Wd} {c:Int} {name:ByteArray} {y:Me} (h:ld w c name=some y):∃(k:Nat) (x:Cl),w.a7[k]?=some x/\y∈x.aC:=by
 unfold ld at h;split at h
 ·cases h
 ·cases a:j4 w.a7 (l7 w name c).1 with
  |none=>rw[a] at h;cases h
  |some x =>
   rw[a] at h;exact⟨_,x,(l6 a).2,MT (l6 h).2⟩
def d51 {y:Me} (h:fR y=true):∀i∈y.code,i.op≠14:=by
 unfold fR at h;simp only[IT,Bool.not_eq_true',List.any_eq_false] at h;intro i hi e;exact h.2 i hi (by simp[sends,e])
def pL {w:Wd} {b:List Int} {L k:Nat} {i:Ins} {size:Nat} {t:Int} {y:Me} {c:Int} (h:di w b L k i size t=some (y,c)) :
  i.op=14/\b[k]?=some c/\0<=c/\ld w c i.name=some y/\fR y=true/\y.args=i.a/\size+R5 y+L<=240+k/\t+1+y.args+y.a8<=40:=by
 unfold di at h;split at h
 ·rename_i d;split at h
  ·rename_i c' f;split at h
   ·rename_i e;split at h
    ·rename_i l j;split at h
     ·rename_i g;cases h;exact⟨d,f,e,j,g⟩
     ·cases h
    ·cases h
   ·cases h
  ·cases h
 ·cases h
def xG (N:Nat) (hN:1048578<=N) (W:Wd) (a:dT W) (hs:D7 W) (m:Me) (out:List Ins) (t:Int) (aH fix:List Int) (c:Int) (name:ByteArray) :
  qt N (⟨W,m,out,t,aH,fix⟩:fY) c name=some (ld W c name,⟨W,m,out,t,aH,fix⟩):=by
 unfold qt ld;rw[lM N W c name hN a hs];simp only[A0];by_cases h:(l7 W name c).2<0
 ·simp only[h,NA,N3,if_true]
 ·obtain⟨x,y,b,d,_⟩:=rP (w:=W) (s:=name) (c:=c) d9;simp only[h,NB,N4,if_false,b,d,A0]
theorem wY (N:Nat) (hN:4194304<=N) (W:Wd) (C:dT W) (hs:D7 W) (G:eL W) (d:List Int) (M:Me) (hM:M.code.length<=60):∀(r:List Ins) (k:Nat) (out:List Ins) (t:Int) (aH fix:List Int) (b:Bool),
  r=M.code.drop k->k<=M.code.length->out.length+M.code.length<=240+k->0<=t/\t<=40->aH.length=k->fix.length<=k ->
  kA N d M r k W M out t aH fix b=some (W,M,out++gM (J5 W d M.code.length r k out.length t).1 out.length,(J5 W d M.code.length r k out.length t).2,
   aH++X9 (J5 W d M.code.length r k out.length t).1 out.length,fix++dy (J5 W d M.code.length r k out.length t).1 out.length,b || (J5 W d M.code.length r k out.length t).1.any O1.eO)
 |[],k,out,t,aH,fix,b,_,_,_,_,_,_=>by simp[kA,J5,gM,X9,dy]
 |x::r,k,out,t,aH,fix,b,hd,hk,ho,ht,ad,hfix=>by
  obtain⟨hx,hr,L⟩:=Z6 hd;have hk:k<M.code.length:=by have:=of_decide_eq_true L;omega
  have ga:IN ((aH.length+[(out.length:Int)].length)*8) 140737488355328=true:=F9 L9;have gf:IN ((fix.length+[(out.length:Int)].length)*8) 140737488355328=true:=F9 L9;have go:∀v:Ins,IN ((out.length+[v].length)*48) 140737488355328=true:=fun v=>F9 L9;have plain:di W d M.code.length k x out.length t=none->((((((bif decide (x.op=(15:Int)) then some (true) else some (decide (x.op=(16:Int)))):Option Bool).bind fun E=>(((bif E then(bif IN ((fix.length+[(out.length:Int)].length)*8) 140737488355328 then some ((fix++[(out.length:Int)])) else none) else some (fix)):Option (List Int)).bind fun F=>(((bif decide (x.op=(14:Int)) then some ((⟨x.op,x.a,x.b,(k:Int),x.name⟩:Ins)) else some (x)):Option Ins).bind fun s=>(bif IN ((out.length+[s].length)*48) 140737488355328 then some ((W,M,(out++[s]),t,(aH++[(out.length:Int)]),F,b)) else none))))):Option (Wd×Me×(List Ins)×Int×(List Int)×(List Int)×Bool)).bind fun(R,S,T,U,V,X,Y)=>kA N d M r (k+1) R S T U V X Y) =
    some (W,M,out++gM (J5 W d M.code.length (x::r) k out.length t).1 out.length,(J5 W d M.code.length (x::r) k out.length t).2,
   aH++X9 (J5 W d M.code.length (x::r) k out.length t).1 out.length,fix++dy (J5 W d M.code.length (x::r) k out.length t).1 out.length,b || (J5 W d M.code.length (x::r) k out.length t).1.any O1.eO):=by
   intro n;have ih:=fun(v:Ins) (fx:List Int) (I:fx.length<=k+1)=>wY N hN W C hs G d M hM r (k+1) (out++[v]) t (aH++[(out.length:Int)]) fx b hr d9 L9 ht (by simp[ad]) I;have A:∀v:Ins,(out++[v]).length=out.length+1:=fun v=>l9;simp only[A] at ih;rw[J5,n];simp only[gM,X9,dy,O1.out,O1.len,List.any_cons,O1.eO,Bool.false_or];by_cases j:x.op=15
   ·have m:e7 (Y6 k x)=true:=(by simp[e7,Y6,j]);have hp:Y6 k x=x:=by simp[Y6,j]
    rw[hp] at m;have e:¬x.op=14:=d9;simp only[j,gf,go,NA,NB,N3,N4,A0,m,if_true,hp,show((15:Int)=14)=False by decide];rw[ih x _ L9];simp
   by_cases l:x.op=16
   ·have m:e7 (Y6 k x)=true:=(by simp[e7,Y6,l]);have hp:Y6 k x=x:=by simp[Y6,l]
    rw[hp] at m;have e:¬x.op=14:=d9;simp only[l,gf,go,NA,NB,N3,N4,A0,m,if_true,hp,show((16:Int)=14)=False by decide,show((16:Int)=15)=False by decide];rw[ih x _ L9];simp
   have m:e7 (Y6 k x)=false:=by
    by_cases e:x.op=14<;>simp[e7,Y6,e,j,l]
   by_cases e:x.op=14
   ·have hp:Y6 k x=⟨x.op,x.a,x.b,k,x.name⟩:=(by simp[Y6,e]);rw[hp] at m;simp only[e,go,NA,NB,N3,N4,A0,hp,show((14:Int)=16)=False by decide,show((14:Int)=15)=False by decide];rw[ih _ _ d9];rw[e] at m;simp[m]
   ·have hp:Y6 k x=x:=(by simp[Y6,e]);rw[hp] at m;simp only[j,l,e,go,NB,N3,N4,A0,hp];rw[ih _ _ d9];simp[m]
  rw[kA];rw[ga,N3];by_cases e:x.op=14
  ·by_cases J:k<d.length
   ·obtain⟨c,n⟩:∃c,d[k]?=some c:=⟨_,IS J⟩;have f:(k:Int)<(d.length:Int):=d9;have o:j4 d (k:Int)=some c:=by rw[D5,n]
    by_cases q:0<=c
    ·cases u:ld W c x.name with
     |none =>
      have g:di W d M.code.length k x out.length t=none:=(by simp only[di,e,if_true,n,q,u]);have:=plain g;simp only[f,e,o,q,NA,N3,A0,xG N d9 W C hs,u];simp only[e,NA] at this;exact this
     |some y =>
      obtain⟨kk,xx,K,P⟩:=vG u;have D:=G kk xx K y P;have ya:=D.args;have yt:=D.a8;have yc:=D.len;have B:=size_eq N y D.toLeafy;have hsb:R5 y<=1000:=by unfold R5;omega
      have w1:wr ((out.length:Int)+((R5 y:Nat):Int))=out.length+R5 y:=u7 ino;have w2:wr ((out.length:Int)+((R5 y:Nat):Int)+(M.code.length:Int))=out.length+R5 y+M.code.length:=u7 ino;have w3:wr ((out.length:Int)+((R5 y:Nat):Int)+(M.code.length:Int)-(k:Int))=out.length+R5 y+M.code.length-k:=u7 ino;have w4:wr (t+1)=t+1:=u7 ino;have w5:wr (t+1+y.args)=t+1+y.args:=u7 ino;have w6:wr (t+1+y.args+y.a8)=t+1+y.args+y.a8:=u7 ino;by_cases h:fR y=true/\y.args=x.a/\out.length+R5 y+M.code.length<=240+k/\t+1+y.args+y.a8<=40
      ·have H:di W d M.code.length k x out.length t=some (y,c):=by simp only[di,e,if_true,n,q,u];rw[N6 h]
       obtain⟨f1,p,Z,z⟩:=h;have i:((out.length:Int)+R5 y+M.code.length-k)<=240:=d9;simp only[f,e,o,q,NA,N3,A0,xG N d9 W C hs,u,wR,f1,p,B,w1,w2,w3,w4,i];rw[<-p];simp only[w5,w6,z,NA];rw[d24 N d9 W M out t _ fix c (k:Int) x y D p ht d9];simp only[A0,N3];rw[wY N hN W C hs G d M hM r (k+1) _ _ _ _ true hr d9 (by simp[ig];omega) d9 (by simp[ad]) d9];rw[J5,H];simp[gM,X9,dy,O1.out,O1.len,O1.eO,ig]
      ·have g:di W d M.code.length k x out.length t=none:=by simp only[di,e,if_true,n,q,u];rw[N5 h]
       have:=plain g;have O:(((bif fR y then(bif decide (y.args=x.a) then((pB N y).bind fun Q=>(bif decide ((wr ((wr ((wr ((out.length:Int)+Q))+(M.code.length:Int)))-(k:Int)))<=(240:Int)) then some (decide ((wr ((wr ((wr (t+(1:Int)))+y.args))+y.a8))<=(40:Int))) else some (false))) else some (false)) else some (false))):Option Bool)=some false:=by
        rw[B];simp only[A0,w1,w2,w3,w4,w5,w6];by_cases f1:fR y=true
        ·by_cases p:y.args=x.a
         ·by_cases Z:out.length+R5 y+M.code.length<=240+k
          ·have z:¬t+1+y.args+y.a8<=40:=fun z=>h ⟨f1,p,Z,z⟩;have i:((out.length:Int)+R5 y+M.code.length-k)<=240:=d9;simp only[f1,ND p,ND i,NC z,N3]
          ·have i:¬((out.length:Int)+R5 y+M.code.length-k)<=240:=d9;simp only[f1,ND p,NC i,N3,N4]
         ·simp only[f1,NC p,N3,N4]
        ·simp only[Bool.not_eq_true] at f1;simp only[f1,N4]
       simp only[f,e,o,q,NA,N3,A0,xG N d9 W C hs,u,wR,O,N4];simp only[e,NA] at this;exact this
    ·have g:di W d M.code.length k x out.length t=none:=(by simp only[di,e,if_true,n,q,if_false]);have:=plain g;simp only[f,e,o,q,NA,NB,N3,N4,A0];simp only[e,NA] at this;exact this
   ·have n:d[k]?=none:=Mi d9;have f:¬(k:Int)<(d.length:Int):=d9;have g:di W d M.code.length k x out.length t=none:=by simp only[di,e,if_true,n]
    have:=plain g;simp only[f,e,NA,NB,N3,N4,A0];simp only[e,NA] at this;exact this
  ·have g:di W d M.code.length k x out.length t=none:=(by simp only[di,e,if_false]);have:=plain g;simp only[e,NB,N4,A0];simp only[e,NB] at this;exact this
theorem ui (N:Nat) (d f:List Int):∀(l:List O1) (k:Nat) (pre:List Ins),f.drop k=dy l pre.length->(∀i,O1.pl i∈l->e7 i=true->∃a,j4 d i.a=some a) ->
  k9 N d f (dy l pre.length) k (pre++gM l pre.length)=some (pre++dw d l pre.length)
 |[],k,pre,_,_=>by simp[dy,k9,gM,dw]
 |.pl i::l,k,pre,hd,hj=>by
  have e:∀i,O1.pl i∈l->e7 i=true->∃a,j4 d i.a=some a:=fun i hi=>hj i (by simp[hi]);have b:∀v:Ins,(pre++[v]).length=pre.length+1:=fun v=>l9;have e1:∀v:Ins,pre++(v::gM l (pre.length+1))=(pre++[v])++gM l (pre.length+1):=fun v=>l9;by_cases n:e7 i=true
  ·obtain⟨a,m⟩:=hj i l9 n;simp only[dy,n,if_true] at hd⊢;obtain⟨r,u,_⟩:=Z6 hd.symm;have j:j4 (pre++(i::gM l (pre.length+1))) (pre.length:Int)=some i:=by rw[D5];simp
   have ih:=ui N d f l (k+1) (pre++[oA i a]) (by rw[b];exact u.symm) e;simp only[b] at ih;rw[k9];simp only[gM,O1.out,O1.len,List.singleton_append,D5,r,A0];rw[<-D5,j];simp only[A0,m,Mk];rw[List.set_append_right _ _ (It _),Nat.sub_self,List.set_cons_zero];have q:=e1 (oA i a);unfold oA at q ih;rw[q,ih];simp only[dw,fI,n,if_true,oA];rw[fC (l6 m).1] at m;rw[m];simp
  ·have g:e7 i=false:=by cases h:e7 i<;>simp_all
   have o:dy (O1.pl i::l) pre.length=dy l (pre.length+1):=(by simp[dy,g]);rw[o] at hd⊢;have ih:=ui N d f l k (pre++[i]) (by rw[b];exact hd) e;simp only[b] at ih;show k9 N d f (dy l (pre.length+1)) k (pre++(i::gM l (pre.length+1)))=some (pre++(fI d i::dw d l (pre.length+1)));rw[e1,ih];simp[fI,g]
 |.pc y s c p::l,k,pre,hd,hj=>by
  have e:∀i,O1.pl i∈l->e7 i=true->∃a,j4 d i.a=some a:=fun i hi=>hj i (by simp[hi]);have b:(pre++eK y s c p pre.length).length=pre.length+R5 y:=by simp[ig]
  have o:dy (O1.pc y s c p::l) pre.length=dy l (pre.length+R5 y):=by simp[dy]
  rw[o] at hd⊢;have ih:=ui N d f l k (pre++eK y s c p pre.length) (by rw[b];exact hd) e;simp only[b] at ih;simp only[gM,O1.out,O1.len,dw,<-MZ,ih]
theorem xA (w:Wd) (a:List Int) (L:Nat):∀(r:List Ins) (k size:Nat) (t:Int),(J5 w a L r k size t).1.length=r.length
 |[],_,_,_=>rfl
 |i::r,k,size,t=>by
  rw[J5];split<;>simp[xA w a L r]
theorem BC : ∀(l:List O1) (b:Nat),(X9 l b).length=l.length
 |[],_=>rfl
 |x::l,b=>by simp[X9,BC l]
theorem wj (w:Wd) (a:List Int) (L:Nat):∀(r:List Ins) (k size:Nat) (t:Int) (i:Ins),O1.pl i∈(J5 w a L r k size t).1->e7 i=true->i∈r
 |[],_,_,_,i,h,_=>by cases h
 |x::r,k,size,t,i,h,hj=>by
  rw[J5] at h;split at h
  ·simp only[MJ,reduceCtorEq,false_or] at h;exact Mv _ (wj w a L r _ _ _ i h hj)
  ·simp only[MJ,O1.pl.injEq] at h;rcases h with h|h
   ·have hp:Y6 k x=x:=by
     rw[h] at hj;unfold Y6 at hj⊢;split
     ·rename_i b;rw[N6 b] at hj;simp[e7,b] at hj
     ·rfl
    rw[h,hp];simp
   ·exact Mv _ (wj w a L r _ _ _ i h hj)
def HU {N:Nat} {w:Wd} (h:I5 N w):∀x∈w.a7,0<=x.aG/\x.aG<=6:=fun x b=>by
 obtain⟨j,a⟩:=N0.1 b;have:=h.cls j x a;exact⟨this.2.2.2.2.1,this.2.2.2.2.2⟩
def Cr {N:Nat} {w:Wd} (hN:4194304<=N) (hs:D7 w) (h:I5 N w):eL w:=fun k x e y f=>by
 have mp:=Dy d9 hs.1 h e f;have a:=kP (HU h) hs.1 (k:Int);have c:=h.many;have g:=mp.args;have l:=mp.a8;have j:=mp.len;refine⟨⟨g,l,j,fun i hi=>d56 N w _ y i d9 hs.1 (mp.num i hi),fun i hi d=>HJ N w _ y i d9 (mp.num i hi) d⟩,fun i hi=>?_⟩;have b:=mp.num i hi;rw[AD N w k y i d9 hs.1 d9 d9 d9 a d9] at b;exact KQ (Option.some.inj b) hs.1 d9 d9 a.2 d9
def o0 : List O1->Nat
 |[]=>0
 |x::l=>x.len+o0 l
theorem x6 (w:Wd) (a:List Int) (L:Nat):∀(r:List Ins) (k size:Nat) (t:Int),r.length+k=L->size+r.length<=240->size+o0 (J5 w a L r k size t).1<=240
 |[],k,size,t,_,h=>by simpa[J5,o0] using h
 |i::r,k,size,t,hk,h=>by
  simp only[MO] at hk h;rw[J5];split
  ·rename_i y c b;have:=(pL b).2.2.2.2.2.2.1;have ih:=x6 w a L r (k+1) (size+R5 y) (t+(1+y.args+y.a8)) d9 d9;simp only[o0,O1.len];omega
  ·have ih:=x6 w a L r (k+1) (size+1) t d9 d9;simp only[o0,O1.len];omega
theorem um (w:Wd) (b:eL w) (a:List Int) (L:Nat):∀(r:List Ins) (k size:Nat) (t:Int) (y:Me) (s c p:Int),O1.pc y s c p∈(J5 w a L r k size t).1->vf y/\fR y=true
 |[],_,_,_,_,_,_,_,h=>by cases h
 |i::r,k,size,t,y,s,c,p,h=>by
  rw[J5] at h;split at h
  ·rename_i n c' g;rcases MJ.1 h with h|h
   ·cases h;obtain⟨_,_,_,j,d,_⟩:=pL g;obtain⟨l,m,e,f⟩:=vG j;exact⟨b l m e y f,d⟩
   ·exact um w b a L r _ _ _ y s c p h
  ·rcases MJ.1 h with h|h
   ·cases h
   ·exact um w b a L r _ _ _ y s c p h
def jo (w:Wd) (c k:Int) (a:List Int):Fs×Bool :=
 if c<0\/(w.a7.length:Int)<=c\/k<0 then(⟨0,BY,0,0,[]⟩,false) else
 match w.a7[c.toNat]? with
 |none=>(⟨0,BY,0,0,[]⟩,false)
 |some x=>match x.aC[k.toNat]? with
  |none=>(⟨0,BY,0,0,[]⟩,false)
  |some m=>let q:=J5 w a m.code.length m.code 0 0 m.a8
   if q.1.any O1.eO=true then(⟨c,m.name,w.aB,q.2,dw (X9 q.1 0) q.1 0⟩,true) else(⟨0,BY,0,0,[]⟩,false)
def Ic (N:Nat) (hN:4194304<=N) (w:Wd) (hs:D7 w) (hp:I5 N w) (c k:Int) (b:List Int):qq N w c k b=some (jo w c k b):=by
 have y:=Cr hN hs hp;unfold qq jo;by_cases d:c<0
 ·simp[d]
 by_cases g:(w.a7.length:Int)<=c
 ·simp[d,g]
 by_cases h:k<0
 ·simp[d,g,h]
 obtain⟨x,s,f⟩:=dc (l:=w.a7) (i:=c) d9 d9;by_cases u:(x.aC.length:Int)<=k
 ·have:x.aC[k.toNat]?=none:=Mi d9;simp[d,g,h,u,f,s,this]
 obtain⟨m,z,r⟩:=dc (l:=x.aC) (i:=k) d9 d9;have j:=y _ x s m (MT z);have e:=j.len;have B:=j.a8;have p:∀i,O1.pl i∈(J5 w b m.code.length m.code 0 0 m.a8).1->e7 i=true->∃a,j4 (X9 (J5 w b m.code.length m.code 0 0 m.a8).1 0) i.a=some a:=fun i hi o=>by
  have n:=wj w b m.code.length m.code 0 0 m.a8 i hi o;have A:=j.jump i n (by simp only[e7,Bool.or_eq_true,NF] at o;exact o);obtain⟨a,C,q⟩:=dc (l:=X9 (J5 w b m.code.length m.code 0 0 m.a8).1 0) (i:=i.a) A.1 (by rw[BC,xA];exact A.2);exact⟨a,q⟩
 have e1:=wY N hN w hp.ct hs y b m e m.code 0 [] m.a8 [] [] false rfl d9 L9 d9 rfl l9;simp only[Mt,List.nil_append,Bool.false_or] at e1;simp only[d,g,h,u,f,r,NB,N4,A0,e1,s,z,or_self,if_false];cases D:(J5 w b m.code.length m.code 0 0 m.a8).1.any O1.eO with
 |false=>simp
 |true =>
  have v:=ui N (X9 (J5 w b m.code.length m.code 0 0 m.a8).1 0) (dy (J5 w b m.code.length m.code 0 0 m.a8).1 0) (J5 w b m.code.length m.code 0 0 m.a8).1 0 [] rfl p;simp only[Mt,List.nil_append] at v;simp only[MK,N4,v,A0,if_true]
def gJ (N:Nat) (w:Wd) (t:List Tl) (c k:Int):List Int:=(nI N w t c k).getD []
def nr (N:Nat) (w:Wd) (t:List Tl) (c k:Nat):List Fs:=if(jo w (c:Int) (k:Int) (gJ N w t c k)).2=true then[(jo w (c:Int) (k:Int) (gJ N w t c k)).1] else[]
def cm (N:Nat) (w:Wd) (t:List Tl) (c:Nat):List Me->Nat->List Fs
 |[],_=>[]
 |_::r,k=>nr N w t c k++cm N w t c r (k+1)
def gr (N:Nat) (w:Wd) (t:List Tl):List Cl->Nat->List Fs
 |[],_=>[]
 |x::r,c=>cm N w t c x.aC 0++gr N w t r (c+1)
def IE (N:Nat) (w:Wd) (t:List Tl) (c k:Nat):(nr N w t c k).length<=1:=by
 unfold nr;split<;>simp
theorem Ck (N:Nat) (w:Wd) (t:List Tl) (c:Nat):∀(r:List Me) (k:Nat),(cm N w t c r k).length<=r.length
 |[],_=>It _
 |x::r,k=>by
  have:=IE N w t c k;have:=Ck N w t c r (k+1);simp only[cm,MN,MO];omega
section
variable (N:Nat) (hN:4194304<=N) (w:Wd) (hs:D7 w) (hp:I5 N w) (t:List Tl)
include hN hs hp
def IZ (c k:Int):nI N w t c k=some (gJ N w t c k):=by
 obtain⟨L,a⟩:=G4 N w t c k d9 hp.ct hs;rw[gJ,a];rfl
theorem wQ (c:Nat):∀(r:List Me) (k:Nat) (a:List Fs),a.length+r.length<=1000000->lT N w t c r k a=some (a++cm N w t c r k)
 |[],k,a,_=>by simp[lT,cm]
 |x::r,k,a,h=>by
  simp only[MO] at h;rw[lT,IZ N hN w hs hp t];simp only[A0,Ic N hN w hs hp];have g:∀v:Fs,IN ((a.length+[v].length)*64) 140737488355328=true:=fun v=>F9 L9;cases b:(jo w (c:Int) (k:Int) (gJ N w t c k)).2 with
  |true =>
   simp only[N3,g,A0];rw[wQ c r (k+1) _ L9];simp[cm,nr,b]
  |false =>
   simp only[N4,A0];rw[wQ c r (k+1) _ d9];simp[cm,nr,b]
theorem Ak : ∀(r:List Cl) (c:Nat) (a:List Fs),(∀x∈r,x.aC.length<=8)->a.length+8*r.length<=1000000->lV N w t r c a=some (a++gr N w t r c)
 |[],c,a,_,_=>by simp[lV,gr]
 |x::r,c,a,hm,h=>by
  simp only[MO] at h;have d:=hm x l9;have hl:=Ck N w t c x.aC 0;rw[lV,wQ N hN w hs hp t c x.aC 0 a d9];simp only[A0,Ak r (c+1) (a++cm N w t c x.aC 0) (fun y b=>hm y (by simp[b])) L9,gr,MZ]
def HV : sT N w t=some (gr N w t w.a7 0):=by
 unfold sT;have b:=hp.many;rw[Ak N hN w hs hp t w.a7 0 [] (fun x a=>by
  obtain⟨i,hi⟩:=N0.1 a;exact(hp.ak i x hi).2.1) L9]
 simp
end
section
variable (N:Nat) (hN:4194304<=N) (w:Wd) (hs:D7 w) (hp:I5 N w) (t:List Tl)
include hN hs hp
end
def bL : List O1->Nat->Nat
 |_,0=>0
 |[],_+1=>0
 |x::l,p+1=>x.len+bL l p
theorem xw : ∀{l:List O1} {p:Nat} {x:O1},l[p]?=some x->bL l (p+1)=bL l p+x.len
 |[],p,x,h=>by simp at h
 |y::l,0,x,h=>by
  simp only[N2,Option.some.injEq] at h;subst h;cases l<;>simp[bL]
 |y::l,p+1,x,h=>by
  rw[bL,bL,xw (p:=p) (l:=l) (by simpa using h)];omega
theorem O1.kr (x:O1):1<=x.len:=by
 cases x with
 |pl i=>exact It _
 |pc y s c p=>simp only[O1.len,R5];omega
theorem yU : ∀{l:List O1} {p q:Nat},p<q->q<=l.length->bL l p<bL l q
 |[],p,q,h,a=>by simp at a;omega
 |x::l,p,0,h,a=>d9
 |x::l,0,q+1,h,a=>by
  have:=x.kr;simp only[bL];omega
 |x::l,p+1,q+1,h,a=>by
  have:=yU (l:=l) (p:=p) (q:=q) d9 (by simpa using a);simp only[bL];omega
theorem BS : ∀(l:List O1) (b p:Nat),p<l.length->(X9 l b)[p]?=some ((b+bL l p:Nat):Int)
 |[],b,p,h=>by simp at h
 |x::l,b,0,h=>by simp[X9,bL]
 |x::l,b,p+1,h=>by
  rw[X9,N1,BS l (b+x.len) p (by simpa using h),bL,Ms]
theorem xS (a:List Int):∀(l:List O1) (b:Nat),(dw a l b).length=bL l l.length
 |[],b=>rfl
 |.pl i::l,b=>by simp[dw,bL,xS a l (b+1),O1.len];omega
 |.pc y s c p::l,b=>by simp[dw,bL,xS a l (b+R5 y),O1.len,ig]
theorem wa (a:List Int):∀(l:List O1) (b p:Nat) (i:Ins),l[p]?=some (.pl i)->(dw a l b)[bL l p]?=some (fI a i)
 |[],b,p,i,h=>by simp at h
 |.pl j::l,b,0,i,h=>by
  simp only[N2,Option.some.injEq,O1.pl.injEq] at h;subst h;rfl
 |.pc y s c q::l,b,0,i,h=>by simp at h
 |.pl j::l,b,p+1,i,h=>by
  rw[bL,dw,show(O1.pl j).len+bL l p=bL l p+1 by simp[O1.len];omega,N1];exact wa a l (b+1) p i (by simpa using h)
 |.pc y s c q::l,b,p+1,i,h=>by
  rw[bL,dw,Mf (by simp[O1.len,ig])];simp only[O1.len,ig,Nat.add_sub_cancel_left];exact wa a l (b+R5 y) p i (by simpa using h)
theorem xk (d:List Int):∀(l:List O1) (b p:Nat) (y:Me) (s c q:Int),l[p]?=some (.pc y s c q)->∀r,r<R5 y->(dw d l b)[bL l p+r]?=(eK y s c q (b+bL l p))[r]?
 |[],b,p,y,s,c,q,h,r,a=>by simp at h
 |.pl j::l,b,0,y,s,c,q,h,r,a=>by simp at h
 |.pc y' s' c' q'::l,b,0,y,s,c,q,h,r,a=>by
  simp only[N2,Option.some.injEq,O1.pc.injEq] at h;obtain⟨rfl,rfl,rfl,rfl⟩:=h;simp only[bL,dw,Mm,Nat.add_zero];rw[Mu (by rw[ig];exact a)]
 |.pl j::l,b,p+1,y,s,c,q,h,r,a=>by
  rw[bL,dw,show(O1.pl j).len+bL l p+r=bL l p+r+1 by simp[O1.len];omega,N1,xk d l (b+1) p y s c q (by simpa using h) r a];congr 2;simp[O1.len];omega
 |.pc y' s' c' q'::l,b,p+1,y,s,c,q,h,r,a=>by
  rw[bL,dw,Mf (by simp[O1.len,ig];omega)];simp only[O1.len,ig];rw[show R5 y'+bL l p+r-R5 y'=bL l p+r by omega,xk d l (b+R5 y') p y s c q (by simpa using h) r a];congr 2;omega
theorem p5 (w:Wd) (b:eL w) (a:List Int) (L:Nat):∀(r:List Ins) (k size:Nat) (t:Int),t<=(J5 w a L r k size t).2
 |[],k,size,t=>MS _
 |i::r,k,size,t=>by
  rw[J5];split
  ·rename_i y c g;obtain⟨_,_,_,h,_⟩:=pL g;obtain⟨j,l,e,f⟩:=vG h;have d:=(b j l e y f).toLeafy;have:=p5 w b a L r (k+1) (size+R5 y) (t+(1+y.args+y.a8));have m:=d.args;have n:=d.a8;simp only;omega
  ·exact p5 w b a L r (k+1) (size+1) t
theorem xE (w:Wd) (e:eL w) (a:List Int) (L:Nat):∀(r:List Ins) (k size:Nat) (t:Int) (p:Nat) (i:Ins),r[p]?=some i->∃b sz,t<=b /\
  ((di w a L (k+p) i sz b=none/\(J5 w a L r k size t).1[p]?=some (.pl (Y6 (k+p) i))) \/
   ∃y c,di w a L (k+p) i sz b=some (y,c)/\(J5 w a L r k size t).1[p]?=some (.pc y b c ((k+p:Nat):Int))/\b+1+y.args+y.a8<=(J5 w a L r k size t).2)
 |[],k,size,t,p,i,h=>by simp at h
 |j::r,k,size,t,p,i,h=>by
  rw[J5];cases f:di w a L k j size t with
  |none =>
   cases p with
   |zero =>
    simp only[N2,Option.some.injEq] at h;subst h;exact⟨t,size,MS _,.inl ⟨f,rfl⟩⟩
   |succ p =>
    obtain⟨b,sz,g,d⟩:=xE w e a L r (k+1) (size+1) t p i (by simpa using h);refine⟨b,sz,g,?_⟩;rw[show k+1+p=k+(p+1) by omega] at d;simpa using d
  |some q =>
   obtain⟨y,c⟩:=q;obtain⟨_,_,_,n,_⟩:=pL f;obtain⟨o,s,g1,m⟩:=vG n;have l:=(e o s g1 y m).toLeafy;have u:=l.args;have v:=l.a8;cases p with
   |zero =>
    simp only[N2,Option.some.injEq] at h;subst h;have:=p5 w e a L r (k+1) (size+R5 y) (t+(1+y.args+y.a8));exact⟨t,size,MS _,.inr ⟨y,c,f,rfl,bK⟩⟩
   |succ p =>
    obtain⟨b,sz,g,d⟩:=xE w e a L r (k+1) (size+R5 y) (t+(1+y.args+y.a8)) p i (by simpa using h);refine⟨b,sz,d9,?_⟩;rw[show k+1+p=k+(p+1) by omega] at d;simpa using d
def br (w:Wd) (H:List Ob) (self:V) (args a8 aA:List V) (i:Ins):Option (List Ob×List V×List V×Int) :=
 if i.op=1 then some (H,a8,aA++[self],0)
 else if i.op=2 then(j4 args i.a).map fun v=>(H,a8,aA++[v],0)
 else if i.op=3 then(j4 a8 i.a).map fun v=>(H,a8,aA++[v],0)
 else if i.op=4 then some (H,a8,aA++[lZ H self i.a],0)
 else if i.op=5 then some (H,a8,aA++[⟨3,i.a⟩],0)
 else if i.op=6 then some (H,a8,aA++[⟨0,0⟩],0)
 else if i.op=7 then some (H,a8,aA++[⟨1,0⟩],0)
 else if i.op=8 then some (H,a8,aA++[⟨2,0⟩],0)
 else if i.op=9 then aA.getLast?.map fun v=>(H,a8,aA.dropLast,0)
 else if i.op=10 then aA.getLast?.map fun v=>(H,a8,aA++[v],0)
 else if i.op=11 then aA.getLast?.bind fun v=>if 0<=i.a/\i.a<a8.length then some (H,a8.set i.a.toNat v,aA.dropLast,0) else none
 else if i.op=12 then aA.getLast?.bind fun v=>(jr H self i.a v).map fun h=>(h,a8,aA.dropLast,0)
 else if i.op=19 then(j4 a8 i.a).map fun t=>(H,a8,aA++[lZ H t i.b],0)
 else if i.op=20 then(j4 a8 i.a).bind fun t=>aA.getLast?.bind fun v=>(jr H t i.b v).map fun h=>(h,a8,aA.dropLast,0)
 else if i.op=13 then(if 60<=H.length then some (H,a8,aA,15) else some (H++[⟨i.a,MM (p8 w i.a).toNat ⟨0,0⟩⟩],a8,aA++[⟨4,(H.length:Int)⟩],0))
 else some (H,a8,aA,0)
def iX (c:Cf) (f:j3) (F:List j3) (r:List Ob×List V×List V×Int):Cf:={ c with heap:=r.1,fs:={ f with a8:=r.2.1,aA:=r.2.2.1 }::F,err:=r.2.2.2 }
def vP (w:Wd) (c:Cf) (C:c.err=0) (f:j3) (F:List j3) (i:Ins):ka w c f F i=(br w c.heap f.aQ f.args f.a8 f.aA i).map (iX c f F):=by
 obtain⟨H,s,t,fs,b,e,ev⟩:=c;simp only at C;subst C;unfold ka br;by_cases o:i.op=1
 ·simp only[N6 o];rfl
 simp only[N5 o];by_cases p:i.op=2
 ·simp only[N6 p,Option.map_map];rfl
 simp only[N5 p];by_cases q:i.op=3
 ·simp only[N6 q,Option.map_map];rfl
 simp only[N5 q];by_cases r:i.op=4
 ·simp only[N6 r];rfl
 simp only[N5 r];by_cases x:i.op=5
 ·simp only[N6 x];rfl
 simp only[N5 x];by_cases y:i.op=6
 ·simp only[N6 y];rfl
 simp only[N5 y];by_cases z:i.op=7
 ·simp only[N6 z];rfl
 simp only[N5 z];by_cases A:i.op=8
 ·simp only[N6 A];rfl
 simp only[N5 A];by_cases B:i.op=9
 ·simp only[N6 B,cN,Option.map_map];rfl
 simp only[N5 B];by_cases g:i.op=10
 ·simp only[N6 g,Option.map_map];rfl
 simp only[N5 g];by_cases h:i.op=11
 ·simp only[N6 h,cN];cases D:f.aA.getLast? with
  |none=>rfl
  |some v =>
   simp only[Mj,A0];by_cases n:0<=i.a/\i.a<f.a8.length
   ·rw[N6 n,N6 n];rfl
   ·rw[N5 n,N5 n];rfl
 simp only[N5 h];by_cases j:i.op=12
 ·simp only[N6 j,cN];cases D:f.aA.getLast? with
  |none=>rfl
  |some v =>
   simp only[Mj,A0];cases jr H f.aQ i.a v<;>rfl
 simp only[N5 j];by_cases l:i.op=19
 ·simp only[N6 l,Option.map_map];rfl
 simp only[N5 l];by_cases m:i.op=20
 ·simp only[N6 m,cN];cases E:j4 f.a8 i.a with
  |none=>rfl
  |some u =>
   cases D:f.aA.getLast? with
   |none=>rfl
   |some v =>
    simp only[Mj,A0];cases jr H u i.b v<;>rfl
 simp only[N5 m];by_cases k:i.op=13
 ·simp only[N6 k];by_cases d:60<=H.length
  ·rw[N6 d,N6 d];rfl
  ·rw[N5 d,N5 d];rfl
 simp only[N5 k];rfl
def xO {T:List V} {n:Nat} {a:Int} {v:V} (h:j4 (T.take n) a=some v):j4 T a=some v:=by
 obtain⟨c,b⟩:=l6 h;rw[fC c];rw[My] at b;split at b
 ·exact b
 ·cases b
def JK {w:Wd} {H:List Ob} {self:V} {args T aA:List V} {n:Nat} {i:Ins} {r:List Ob×List V×List V×Int} (E:n<=T.length) (h:br w H self args (T.take n) aA i=some r) :
  ∃l,br w H self args T aA i=some (r.1,l,r.2.2.1,r.2.2.2)/\l.take n=r.2.1/\l.length=T.length/\r.2.1.length=n:=by
 have hl:(T.take n).length=n:=by rw[Mw];omega
 unfold br at h⊢;by_cases p:i.op=1
 ·rw[N6 p] at h⊢;cases h;exact⟨T,rfl,rfl,rfl,hl⟩
 rw[N5 p] at h⊢;by_cases q:i.op=2
 ·rw[N6 q] at h⊢;rw[MP] at h;obtain⟨v,b,rfl⟩:=h;rw[b];exact⟨T,rfl,rfl,rfl,hl⟩
 rw[N5 q] at h⊢;by_cases s:i.op=3
 ·rw[N6 s] at h⊢;rw[MP] at h;obtain⟨v,b,rfl⟩:=h;rw[xO b];exact⟨T,rfl,rfl,rfl,hl⟩
 rw[N5 s] at h⊢;by_cases t:i.op=4
 ·rw[N6 t] at h⊢;cases h;exact⟨T,rfl,rfl,rfl,hl⟩
 rw[N5 t] at h⊢;by_cases x:i.op=5
 ·rw[N6 x] at h⊢;cases h;exact⟨T,rfl,rfl,rfl,hl⟩
 rw[N5 x] at h⊢;by_cases y:i.op=6
 ·rw[N6 y] at h⊢;cases h;exact⟨T,rfl,rfl,rfl,hl⟩
 rw[N5 y] at h⊢;by_cases z:i.op=7
 ·rw[N6 z] at h⊢;cases h;exact⟨T,rfl,rfl,rfl,hl⟩
 rw[N5 z] at h⊢;by_cases A:i.op=8
 ·rw[N6 A] at h⊢;cases h;exact⟨T,rfl,rfl,rfl,hl⟩
 rw[N5 A] at h⊢;by_cases B:i.op=9
 ·rw[N6 B] at h⊢;rw[MP] at h;obtain⟨v,b,rfl⟩:=h;rw[b];exact⟨T,rfl,rfl,rfl,hl⟩
 rw[N5 B] at h⊢;by_cases c:i.op=10
 ·rw[N6 c] at h⊢;rw[MP] at h;obtain⟨v,b,rfl⟩:=h;rw[b];exact⟨T,rfl,rfl,rfl,hl⟩
 rw[N5 c] at h⊢;by_cases d:i.op=11
 ·rw[N6 d] at h⊢;obtain⟨v,b,h⟩:=M6 h;rw[b];by_cases m:0<=i.a/\i.a<((T.take n).length:Int)
  ·rw[N6 m] at h;cases h;simp only[A0];rw[N6 ⟨m.1,d9⟩];exact⟨T.set i.a.toNat v,rfl,by rw[List.take_set],Mh,by rw[Mh,hl]⟩
  ·rw[N5 m] at h;cases h
 rw[N5 d] at h⊢;by_cases e:i.op=12
 ·rw[N6 e] at h⊢;obtain⟨v,b,h⟩:=M6 h;rw[MP] at h;obtain⟨C,o,rfl⟩:=h;rw[b];simp only[A0];rw[o];exact⟨T,rfl,rfl,rfl,hl⟩
 rw[N5 e] at h⊢;by_cases g:i.op=19
 ·rw[N6 g] at h⊢;rw[MP] at h;obtain⟨v,b,rfl⟩:=h;rw[xO b];exact⟨T,rfl,rfl,rfl,hl⟩
 rw[N5 g] at h⊢;by_cases j:i.op=20
 ·rw[N6 j] at h⊢;obtain⟨u,D,h⟩:=M6 h;obtain⟨v,b,h⟩:=M6 h;rw[MP] at h;obtain⟨C,o,rfl⟩:=h;rw[xO D,b];simp only[A0];rw[o];exact⟨T,rfl,rfl,rfl,hl⟩
 rw[N5 j] at h⊢;by_cases f:i.op=13
 ·rw[N6 f] at h⊢;by_cases k:60<=H.length
  ·rw[N6 k] at h⊢;cases h;exact⟨T,rfl,rfl,rfl,hl⟩
  ·rw[N5 k] at h⊢;cases h;exact⟨T,rfl,rfl,rfl,hl⟩
 rw[N5 f] at h⊢;cases h;exact⟨T,rfl,rfl,rfl,hl⟩
def rh {a b:List V} {v:V} (h:b.getLast?=some v):(a++b).getLast?=some v/\(a++b).dropLast=a++b.dropLast:=by
 obtain⟨c,rfl⟩:=List.getLast?_eq_some_iff.1 h;rw[<-MZ];simp
structure tr (G:List V) (s:Int) (y:Me) (sf:V) (ag tm:List V):Prop where
 s0:0<=s
 s1:s+1+y.args+y.a8<=G.length
 gb:0<=y.args
 jT:0<=y.a8
 la:(ag.length:Int)=y.args
 lt:(tm.length:Int)=y.a8
 mO:G[s.toNat]?=some sf
 mN:∀(a:Nat) v,ag[a]?=some v->G[s.toNat+1+a]?=some v
 jH:∀(a:Nat) v,tm[a]?=some v->G[s.toNat+1+y.args.toNat+a]?=some v
def KP {w:Wd} {H:List Ob} {self gs:V} {args a8 aA gargs G base:List V} {s:Int} {y:Me} {f:Int} {i:Ins} (b:tr G s y self args a8) (Y:i.op<=13) (N:1<=i.op) {r:List Ob×List V×List V×Int} (h:br w H self args a8 aA i=some r) :
  ∃t,br w H gs gargs G (base++aA) (ba s y f i)=some (r.1,t,base++r.2.2.1,r.2.2.2)/\tr t s y self args r.2.1/\t.length=G.length/\∀n:Nat,(n:Int)<=s->t.take n=G.take n:=by
 have X:s.toNat<G.length:=by have:=b.s0;have:=b.s1;have:=b.gb;have:=b.jT;omega
 have A:j4 G s=some self:=by rw[fC b.s0];exact b.mO
 unfold br at h;by_cases p:i.op=1
 ·rw[N6 p] at h;cases h;refine⟨G,?_,b,rfl,fun _ _=>rfl⟩;unfold br ba;simp only[N6 p,A];simp
 rw[N5 p] at h;by_cases x:i.op=2
 ·rw[N6 x] at h;rw[MP] at h;obtain⟨v,d,rfl⟩:=h;obtain⟨O,B⟩:=l6 d;have K:j4 G (s+1+i.a)=some v:=by
   rw[fC (by have:=b.s0;omega),<-b.mN _ _ B];congr 1;have:=b.s0;omega
  refine⟨G,?_,b,rfl,fun _ _=>rfl⟩;unfold br ba;simp only[N5 p,N6 x,K];simp
 rw[N5 x] at h;by_cases C:i.op=3
 ·rw[N6 C] at h;rw[MP] at h;obtain⟨v,d,rfl⟩:=h;obtain⟨O,B⟩:=l6 d;have K:j4 G (s+1+y.args+i.a)=some v:=by
   rw[fC (by have:=b.s0;have:=b.gb;omega),<-b.jH _ _ B];congr 1;have:=b.s0;have:=b.gb;omega
  refine⟨G,?_,b,rfl,fun _ _=>rfl⟩;unfold br ba;simp only[C];simp[K]
 rw[N5 C] at h;by_cases z:i.op=4
 ·rw[N6 z] at h;cases h;refine⟨G,?_,b,rfl,fun _ _=>rfl⟩;unfold br ba;simp only[z];simp[A]
 rw[N5 z] at h;have c:(i.op=5\/i.op=6\/i.op=7\/i.op=8\/i.op=9\/i.op=10)->ba s y f i=⟨i.op,i.a,0,0,BY⟩:=fun M=>by
  unfold ba;rw[N5 p,N5 x,N5 d9,N5 z,N5 d9,N5 d9,N5 d9]
 by_cases D:i.op=5
 ·rw[N6 D] at h;cases h;refine⟨G,?_,b,rfl,fun _ _=>rfl⟩;rw[c d9];unfold br;simp only[D];simp
 rw[N5 D] at h;by_cases E:i.op=6
 ·rw[N6 E] at h;cases h;refine⟨G,?_,b,rfl,fun _ _=>rfl⟩;rw[c d9];unfold br;simp only[E];simp
 rw[N5 E] at h;by_cases F:i.op=7
 ·rw[N6 F] at h;cases h;refine⟨G,?_,b,rfl,fun _ _=>rfl⟩;rw[c d9];unfold br;simp only[F];simp
 rw[N5 F] at h;by_cases I:i.op=8
 ·rw[N6 I] at h;cases h;refine⟨G,?_,b,rfl,fun _ _=>rfl⟩;rw[c d9];unfold br;simp only[I];simp
 rw[N5 I] at h;by_cases J:i.op=9
 ·rw[N6 J] at h;rw[MP] at h;obtain⟨v,d,rfl⟩:=h;obtain⟨e1,o⟩:=rh (a:=base) d;refine⟨G,?_,b,rfl,fun _ _=>rfl⟩;rw[c d9];unfold br;simp only[J,e1,o];simp
 rw[N5 J] at h;by_cases g:i.op=10
 ·rw[N6 g] at h;rw[MP] at h;obtain⟨v,d,rfl⟩:=h;obtain⟨e1,o⟩:=rh (a:=base) d;refine⟨G,?_,b,rfl,fun _ _=>rfl⟩;rw[c d9];unfold br;simp only[g,e1];simp
 rw[N5 g] at h;by_cases j:i.op=11
 ·rw[N6 j] at h;obtain⟨v,d,h⟩:=M6 h;obtain⟨e1,o⟩:=rh (a:=base) d;by_cases L:0<=i.a/\i.a<(a8.length:Int)
  ·rw[N6 L] at h;cases h;have P:=b.s0;have Q:=b.s1;have R:=b.gb;have S:=b.jT;have T:=b.lt;have U:=b.la;refine⟨G.set (s+1+y.args+i.a).toNat v,?_,⟨P,by rw[Mh];exact Q,R,S,U,by rw[Mh];exact T,?_,fun a u m=>?_,fun a u m=>?_⟩,Mh,fun n hn=>?_⟩
   ·unfold br ba;simp only[j,e1,o];simp;omega
   ·rw[List.getElem?_set_ne d9];exact b.mO
   ·have W:a<args.length:=(MI.1 m).1;rw[List.getElem?_set_ne d9];exact b.mN a u m
   ·by_cases q:a=i.a.toNat
    ·subst q;have hl:i.a.toNat<a8.length:=d9;rw[List.getElem?_set_self hl] at m;cases m;rw[show s.toNat+1+y.args.toNat+i.a.toNat=(s+1+y.args+i.a).toNat by omega,List.getElem?_set_self d9]
    ·rw[List.getElem?_set_ne (Ne.symm q)] at m;rw[List.getElem?_set_ne d9];exact b.jH a u m
   ·rw[List.take_set_of_le d9]
  ·rw[N5 L] at h;cases h
 rw[N5 j] at h;by_cases k:i.op=12
 ·rw[N6 k] at h;obtain⟨v,d,h⟩:=M6 h;rw[MP] at h;obtain⟨Z,M,rfl⟩:=h;obtain⟨e1,o⟩:=rh (a:=base) d;refine⟨G,?_,b,rfl,fun _ _=>rfl⟩;unfold br ba;simp only[k,A,e1,o];simp[A,M]
 rw[N5 k] at h;have l:i.op=13:=d9;rw[N5 d9,N5 d9,N6 l] at h;by_cases e:60<=H.length
 ·rw[N6 e] at h;cases h;refine⟨G,?_,b,rfl,fun _ _=>rfl⟩;unfold br ba;simp only[l];simp[e]
 ·rw[N5 e] at h;cases h;refine⟨G,?_,b,rfl,fun _ _=>rfl⟩;unfold br ba;simp only[l];simp[e]
inductive cw (w:Wd) (fuel:Int) (L:St->Int->ByteArray->Int×Int) (Q:Int->Int->Fs×Bool):Cf->Cf->Prop
 |refl (c:Cf):cw w fuel L Q c c
 |step {c c1 c2:Cf}:c.err=0->c.fs≠[]->Wk w Q c->P8 w fuel L Q c=some c1->mu fuel c1<mu fuel c->cw w fuel L Q c1 c2->cw w fuel L Q c c2
section
variable {w:Wd} {fuel:Int} {L:St->Int->ByteArray->Int×Int} {Q:Int->Int->Fs×Bool}
theorem cw.trans {a b c:Cf} (h:cw w fuel L Q a b) (d:cw w fuel L Q b c):cw w fuel L Q a c:=by
 induction h with
 |refl=>exact d
 |step e f g i j _ ih=>exact .step e f g i j (ih d)
theorem cw.path {a b:Cf} (h:cw w fuel L Q a b):Path w fuel L Q a b:=by
 induction h with
 |refl=>exact .refl _
 |step c d _ e _ _ ih=>exact .step c d e ih
end
def qF (w:Wd) (S:Int->Int->List Int):Int->Int->Fs×Bool:=fun k j=>jo w k j (S k j)
def bN (w:Wd) (S:Int->Int->List Int) (k j:Int) (m:Me):List O1×Int:=J5 w (S k j) m.code.length m.code 0 0 m.a8
def vj {w:Wd} {S:Int->Int->List Int} {k j:Int} {x:Cl} {m:Me} (b:j4 w.a7 k=some x) (a:j4 x.aC j=some m) :
  qF w S k j=if(bN w S k j m).1.any O1.eO=true then(⟨k,m.name,w.aB,(bN w S k j m).2,dw (X9 (bN w S k j m).1 0) (bN w S k j m).1 0⟩,true) else(⟨0,BY,0,0,[]⟩,false):=by
 have c:=fX b;have d:=fX a;unfold qF jo;rw[N5 d9,(l6 b).2];simp only;rw[(l6 a).2];rfl
theorem wy (w:Wd) (b:eL w) (a:List Int) (L:Nat):∀(r:List Ins) (k size:Nat) (t:Int),t<=40->(J5 w a L r k size t).2<=40
 |[],k,size,t,h=>h
 |i::r,k,size,t,h=>by
  rw[J5];split
  ·rename_i y c d;have:=(pL d).2.2.2.2.2.2.2;exact wy w b a L r _ _ _ d9
  ·exact wy w b a L r _ _ t h
theorem DJ : ∀l:List O1,bL l l.length=o0 l
 |[]=>rfl
 |x::l=>by simp only[MO,bL,o0,DJ l]
def Iw (l:List O1):bL l 0=0:=by cases l<;>rfl
structure FF (w:Wd) (S:Int->Int->List Int) (g p:j3) (m:Me):Prop where
 aV:g.aV=true
 bm:p.aV=false
 cls:g.aI=p.aI
 iW:g.aK=p.aK
 self:g.aQ=p.aQ
 args:g.args=p.args
 ak:∃x,j4 w.a7 p.aI=some x/\j4 x.aC p.aK=some m
 bh:p.code=m.code
 codeF:g.code=dw (X9 (bN w S p.aI p.aK m).1 0) (bN w S p.aI p.aK m).1 0
 len:(g.a8.length:Int)=(bN w S p.aI p.aK m).2
 dq:(p.a8.length:Int)=m.a8
 tk:g.a8.take p.a8.length=p.a8
inductive FR (w:Wd) (S:Int->Int->List Int):j3->j3->Prop
 |same {f:j3}:f.aV=false->FR w S f f
 |aV {g p:j3} {m:Me}:FF w S g p m->g.aA=p.aA->0<=p.aH->g.aH=(bL (bN w S p.aI p.aK m).1 p.aH.toNat:Int)->FR w S g p
inductive dr (w:Wd) (S:Int->Int->List Int):List j3->List j3->Prop
 |nil:dr w S [] []
 |cons {g p:j3} {G P:List j3}:FR w S g p->dr w S G P->dr w S (g::G) (p::P)
structure qk (w:Wd) (S:Int->Int->List Int) (g h p:j3) (m y:Me) (q:Nat) (s c:Int):Prop where
 ff:FF w S g p m
 item:(bN w S p.aI p.aK m).1[q]?=some (.pc y s c (q:Int))
 aH:p.aH=(q:Int)+1
 tU:h.aV=false
 bj:h.code=y.code
 jG:0<=h.aH
 ad:g.aH=((bL (bN w S p.aI p.aK m).1 q+hl y:Nat):Int)+h.aH
 aA:g.aA=p.aA++h.aA
 ms:m.a8<=s
 a8:tr g.a8 s y h.aQ h.args h.a8
 leaf:fR y=true
structure cf (a b:Cf):Prop where
 heap:a.heap=b.heap
 sends:a.sends=b.sends
 turns:a.turns=b.turns
 back:a.back=b.back
 err:a.err=b.err
inductive CR (w:Wd) (S:Int->Int->List Int) (a b:Cf):Prop
 |out:cf a b->dr w S a.fs b.fs->CR w S a b
 |oO {g h p:j3} {G P:List j3} {m y:Me} {q:Nat} {s c:Int}:cf a b->a.fs=g::G->b.fs=h::p::P->dr w S G P->qk w S g h p m y q s c->CR w S a b
theorem dr.len {w:Wd} {S:Int->Int->List Int} {F G:List j3} (h:dr w S F G):F.length=G.length:=by
 induction h with
 |nil=>rfl
 |cons _ _ ih=>simp[ih]
theorem FF.push {w:Wd} {S:Int->Int->List Int} {g p:j3} {m:Me} (h:FF w S g p m) (v u:V):FF w S (cC g v) (cC p u) m :=
 ⟨h.aV,h.bm,h.cls,h.iW,h.self,h.args,h.ak,h.bh,h.codeF,h.len,h.dq,h.tk⟩
theorem FR.push {w:Wd} {S:Int->Int->List Int} {g p:j3} (h:FR w S g p) (v:V):FR w S (cC g v) (cC p v):=by
 cases h with
 |same h=>exact .same h
 |aV h a b c=>exact .aV (h.push v v) (by simp[cC,a]) b c
def CX {w:Wd} {S:Int->Int->List Int} {a b:Cf} (hS:cf a b) (c:dr w S a.fs b.fs) (v:V):cf (dG a v) (dG b v)/\dr w S (dG a v).fs (dG b v).fs:=by
 unfold dG;cases e:b.fs with
 |nil =>
  rw[e] at c;have:a.fs=[]:=by
   cases d:a.fs with
   |nil=>rfl
   |cons x l=>rw[d] at c;cases c
  simp only[this];exact⟨⟨hS.heap,hS.sends,hS.turns,rfl,hS.err⟩,.nil⟩
 |cons p P =>
  rw[e] at c;cases d:a.fs with
  |nil=>rw[d] at c;cases c
  |cons g G =>
   rw[d] at c;cases c with
   |cons f h=>exact⟨⟨hS.heap,hS.sends,hS.turns,hS.back,hS.err⟩,.cons (f.push v) h⟩
section
variable {w:Wd} {fuel:Int} {S:Int->Int->List Int}
def xX (W:cZ w) (e:eL w) {k j:Int} {x:Cl} {m:Me} (c:j4 w.a7 k=some x) (b:j4 x.aC j=some m) (f:0<=m.a8) (self:V) (args:List V):FR w S (fh (qF w S) k j m self args) (fh cH k j m self args):=by
 have d:fh cH k j m self args=⟨k,j,false,m.code,self,args,MM m.a8.toNat ⟨0,0⟩,[],0⟩:=pY (fun _ _=>rfl) k j m self args;rw[d];unfold fh;rw[vj c b];by_cases h:(bN w S k j m).1.any O1.eO=true
 ·rw[N6 h];simp only[if_true];have a:=p5 w e (S k j) m.code.length m.code 0 0 m.a8;have a:m.a8<=(bN w S k j m).2:=a;refine .aV (m:=m) ⟨rfl,rfl,rfl,rfl,rfl,rfl,⟨x,c,b⟩,rfl,rfl,?_,?_,?_⟩ rfl (MS _) ?_
  ·simp only[List.length_replicate];omega
  ·simp only[List.length_replicate];omega
  ·simp only[List.length_replicate,List.take_replicate];congr 1;omega
  ·simp[Iw]
 ·rw[N5 h];exact .same rfl
def Bu (W:cZ w) (s:eL w) {a b i:Cf} (hS:cf a b) (d:dr w S a.fs b.fs) {k j:Int} {self:V} {args:List V} (h:fg w fuel cH b k j self args=some i) :
  ∃g,fg w fuel (qF w S) a k j self args=some g/\cf g i/\dr w S g.fs i.fs:=by
 obtain⟨x,m,o,n,h⟩:=pO h;have p:=d.len;unfold fg;simp only[o,n,A0];rcases h with⟨g1,rfl⟩|⟨g1,f,rfl⟩|⟨g1,f,e,v,u,h⟩|⟨g1,f,e,r,rfl⟩|⟨g1,f,e,r,rfl⟩
 ·rw[N6 g1];exact⟨_,rfl,⟨hS.heap,hS.sends,hS.turns,hS.back,rfl⟩,d⟩
 ·rw[N5 (by simpa using g1)];have:fuel<=a.sends:=by rw[hS.sends];exact f
  refine⟨V4 a 13,?_,⟨hS.heap,hS.sends,hS.turns,hS.back,rfl⟩,d⟩;by_cases q:m.aU=0
  ·rw[N5 (by simpa using q),N6 this]
  ·rw[N6 q,N6 this]
 ·rw[N5 (by simpa using g1),N6 e,N5 (by rw[hS.sends];omega),u];simp only[A0];have c:cf { a with sends:=a.sends+1 } { b with sends:=b.sends+1 }:=⟨hS.heap,by simp only;rw[hS.sends],hS.turns,hS.back,hS.err⟩;rcases h with⟨l,rfl⟩|⟨l,rfl⟩
  ·rw[N6 l];exact⟨_,rfl,⟨c.heap,c.sends,c.turns,c.back,rfl⟩,d⟩
  ·rw[N5 (by simpa using l)];obtain⟨y,z⟩:=CX c (w:=w) (S:=S) d (eg m.aU self v).1;exact⟨_,rfl,y,z⟩
 ·rw[N5 (by simpa using g1),N5 (by simpa using e),N5 (by rw[hS.sends];omega),N6 d9];exact⟨_,rfl,⟨hS.heap,hS.sends,hS.turns,hS.back,rfl⟩,d⟩
 ·rw[N5 (by simpa using g1),N5 (by simpa using e),N5 (by rw[hS.sends];omega),N5 d9];have t:0<=m.a8:=(W.a8 x (eG o) m (eG n)).1;exact⟨_,rfl,⟨hS.heap,by simp only;rw[hS.sends],hS.turns,hS.back,hS.err⟩,.cons (xX W s o n t self args) d⟩
end
def K1 (a:List Int) (i:Ins):(fI a i).op=i.op/\(fI a i).b=i.b/\(fI a i).name=i.name:=by
 unfold fI oA;split<;>exact⟨rfl,rfl,rfl⟩
def LW (b:List Int) (i:Ins) (h:i.op≠15) (c:i.op≠16):(fI b i).a=i.a:=by
 unfold fI e7;rw[NC h,NC c];rfl
def K2 (b:List Int) (i:Ins) (h:i.op=15\/i.op=16):(fI b i).a=(b[i.a.toNat]?).getD 0:=by
 unfold fI e7 oA;rcases h with h|h<;>rw[h]<;>rfl
def IQ (k:Nat) (i:Ins):(Y6 k i).op=i.op/\(Y6 k i).a=i.a/\(Y6 k i).b=i.b/\(Y6 k i).name=i.name:=by
 unfold Y6;split<;>exact⟨rfl,rfl,rfl,rfl⟩
def IW {w:Wd} {H:List Ob} {self:V} {args a8 aA:List V} {i c:Ins} (d:c.op=i.op) (e:c.a=i.a) (f:c.b=i.b):br w H self args a8 aA c=br w H self args a8 aA i:=by
 unfold br;rw[d,e,f]
section
variable {w:Wd} {S:Int->Int->List Int} {fuel:Int}
def CO {N:Nat} (W:cZ w) (a:eL w):∀k j,(qF w S k j).2=true->0<=(qF w S k j).1.a8/\(qF w S k j).1.a8<=1000:=by
 intro k j h;have g:¬(k<0\/(w.a7.length:Int)<=k\/j<0):=fun n=>by
  unfold qF jo at h;rw[N6 n] at h;cases h
 obtain⟨x,f,d⟩:=dc (l:=w.a7) (i:=k) d9 d9;cases b:x.aC[j.toNat]? with
 |none =>
  unfold qF jo at h;rw[N5 g,f] at h;simp only[b] at h;cases h
 |some m =>
  have c:j4 x.aC j=some m:=by rw[fC d9,b]
  rw[vj d c] at h⊢;by_cases e:(bN w S k j m).1.any O1.eO=true
  ·rw[N6 e];have o:m.a8<=(bN w S k j m).2:=p5 w a (S k j) m.code.length m.code 0 0 m.a8;have q:=(a _ x f m (MT b)).toLeafy.a8;have p:(bN w S k j m).2<=40:=wy w a (S k j) m.code.length m.code 0 0 m.a8 d9;simp only;omega
  ·rw[N5 e] at h;cases h
theorem FF.dn {g p:j3} {m:Me} (W:cZ w) (h:FF w S g p m):g.code.length<=240/\p.code.length<=60:=by
 obtain⟨x,c,b⟩:=h.ak;have a:=W.code x (eG c) m (eG b);refine⟨?_,by rw[h.bh];exact a⟩;rw[h.codeF,xS,DJ];have:=x6 w (S p.aI p.aK) m.code.length m.code 0 0 m.a8 rfl d9;simpa[bN] using this
theorem FR.wk {g p:j3} {n:Int} {d:Nat} (W:cZ w) (h:FR w S g p) (f:dm w n d p):bz g:=by
 obtain⟨m,o,R⟩:=f;obtain⟨i,_,_,_,_,l,_⟩:=R.len;cases h with
 |same q=>exact⟨d9,by rw[R.code];have:=R.me.len;omega,fun v a b=>(R.ai v a).num b⟩
 |aV e c j k=>exact⟨by rw[c];omega,by have:=(e.dn W).1;omega,fun v a b=>by rw[c] at a;exact(R.ai v a).num b⟩
theorem dr.wk {G P:List j3} {n:Int} (W:cZ w) (h:dr w S G P) (b:∀p∈P,∃d,dm w n d p):∀g∈G,bz g:=by
 induction h with
 |nil=>intro g e;cases e
 |@cons g p G P c i ih =>
  intro x a;rcases MJ.1 a with rfl|a
  ·obtain⟨d,hd⟩:=b p l9;exact c.wk W hd
  ·exact ih (fun q f=>b q (by simp[f])) x a
def E4 {N:Nat} (W:cZ w) (d:eL w) {a b:Cf} (I:cz w fuel b) (g:a.heap=b.heap) (i:-1000000<=a.sends/\a.sends<=100000) (l:a.turns=b.turns) (hl:a.fs.length<=900) (e:∀f∈a.fs,bz f):Wk w (qF w S) a:=by
 have c:=I.wk W (Q:=cH) (fun k j h=>by cases h);exact⟨c.cls,c.ak,c.aG,CO (N:=N) W d,by rw[g];exact c.heap,hl,e,i,by rw[l];exact c.turns⟩
theorem FF.rH {g p:j3} {m:Me} (h:FF w S g p m) {q:Nat} {i:Ins} (hi:(bN w S p.aI p.aK m).1[q]?=some (.pl i)):j4 g.code ((bL (bN w S p.aI p.aK m).1 q:Nat):Int)=some (fI (X9 (bN w S p.aI p.aK m).1 0) i):=by
 rw[D5,h.codeF];exact wa _ _ 0 q i hi
theorem FF.lY {g p:j3} {m y:Me} {s c:Int} (h:FF w S g p m) {q:Nat} (hi:(bN w S p.aI p.aK m).1[q]?=some (.pc y s c (q:Int))) {r:Nat} (a:r<R5 y) :
  j4 g.code ((bL (bN w S p.aI p.aK m).1 q+r:Nat):Int)=(eK y s c (q:Int) (bL (bN w S p.aI p.aK m).1 q))[r]?:=by
 rw[D5,h.codeF,xk _ _ 0 q y s c _ hi r a,Mm]
def d58 {y:Me} {s c p:Int} {b r:Nat} (a:r<y.code.length):(eK y s c p b)[hl y+r]?=(y.code[r]?).map (ba s y ((b+hl y:Nat):Int)):=by
 unfold eK hl;rw[show 3+y.args.toNat+2*y.a8.toNat+r=(1+y.args.toNat+2*y.a8.toNat+r)+1+1 by omega,N1,N1,
  Mf (by simp[gg,jZ];omega)]
 simp only[MN,gg,jZ];rw[show 1+y.args.toNat+2*y.a8.toNat+r-(y.args.toNat+1+2*y.a8.toNat)=r by omega,Mn]
theorem FF.item {g p:j3} {m:Me} (j:eL w) (h:FF w S g p m) (b:0<=p.aH) {i:Ins} (hi:j4 p.code p.aH=some i) :
  (bN w S p.aI p.aK m).1[p.aH.toNat]?=some (.pl (Y6 p.aH.toNat i)) \/
  ∃y t c sz,di w (S p.aI p.aK) m.code.length p.aH.toNat i sz t=some (y,c)/\m.a8<=t/\(bN w S p.aI p.aK m).1[p.aH.toNat]?=some (.pc y t c ((p.aH.toNat:Nat):Int))/\t+1+y.args+y.a8<=(bN w S p.aI p.aK m).2:=by
 rw[h.bh,fC b] at hi;obtain⟨t,sz,d,a⟩:=xE w j (S p.aI p.aK) m.code.length m.code 0 0 m.a8 p.aH.toNat i hi;rw[Mm] at a;rcases a with⟨_,a⟩|⟨y,c,a,e,f⟩
 ·exact .inl a
 ·exact .inr ⟨y,t,c,sz,a,d,e,f⟩
def DY (k j:Int) (m:Me):(bN w S k j m).1.length=m.code.length:=xA w (S k j) m.code.length m.code 0 0 m.a8
def na {a:Cf} {g g1:j3} {G:List j3} {b:Cf} (j:a.err=0) (c:a.fs=g::G) (d:Wk w (qF w S) a) (e:P8 w fuel (fun _ k s=>l7 w s k) (qF w S) a=some b) (f:b.fs=g1::G) (h:b.sends=a.sends) (i:b.turns=a.turns) (l:Z7 g1+1<=Z7 g) :
  cw w fuel (fun _ k s=>l7 w s k) (qF w S) a b:=by
 refine .step j (by rw[c];simp) d e ?_ (.refl _);simp only[mu,c,f,h,i,MW,Mg];omega
end
structure ve (w:Wd) (S:Int->Int->List Int) (g p:j3) (iF i:Ins):Prop where
 st:g.aA=p.aA
 self:g.aQ=p.aQ
 args:g.args=p.args
 cls:g.aI=p.aI
 iW:g.aK=p.aK
 tk:g.a8.take p.a8.length=p.a8
 tl:p.a8.length<=g.a8.length
 aH:j4 g.code g.aH=some iF
 op:iF.op=i.op
 nm:iF.name=i.name
 b:iF.b=i.b
 a:i.op≠15->i.op≠16->iF.a=i.a
 dn:g.code.length<=240
 next:∀T Tp S',T.length=g.a8.length->Tp.length=p.a8.length->T.take p.a8.length=Tp->FR w S { g with aH:=g.aH+1,a8:=T,aA:=S' } { p with aH:=p.aH+1,a8:=Tp,aA:=S' }
 jmp:i.op=15\/i.op=16->0<=iF.a/\(iF.a<g.aH+1↔i.a<p.aH+1)/\∀S',FR w S { g with aH:=iF.a,aA:=S' } { p with aH:=i.a,aA:=S' }
section
variable {w:Wd} {S:Int->Int->List Int} {fuel:Int}
def AJ (W:cZ w) {p:j3} {i:Ins} (b:p.aV=false) (e:p.code.length<=240) (hi:j4 p.code p.aH=some i) (f:i.op=15\/i.op=16->0<=i.a):ve w S p p i i :=
 ⟨rfl,rfl,rfl,rfl,rfl,List.take_length,It _,hi,rfl,rfl,rfl,fun _ _=>rfl,e,fun T Tp c g j d=>by
  have:T=Tp:=by rw[<-d,List.take_of_length_le d9]
  subst this;exact .same b,fun h=>⟨f h,Iff.rfl,fun c=>.same b⟩⟩
def d22 (W:cZ w) (D:eL w) {g p:j3} {m:Me} {i:Ins} (h:FF w S g p m) (k:g.aA=p.aA) (I:0<=p.aH) (ad:g.aH=(bL (bN w S p.aI p.aK m).1 p.aH.toNat:Int))
  (hi:j4 p.code p.aH=some i) (c:(bN w S p.aI p.aK m).1[p.aH.toNat]?=some (.pl (Y6 p.aH.toNat i))) (G:i.op=15\/i.op=16->0<=i.a/\i.a<m.code.length) :
  ve w S g p (fI (X9 (bN w S p.aI p.aK m).1 0) (Y6 p.aH.toNat i)) i:=by
 obtain⟨e1,B,C⟩:=K1 (X9 (bN w S p.aI p.aK m).1 0) (Y6 p.aH.toNat i);obtain⟨d,r,z,A⟩:=IQ p.aH.toNat i;have j:=fX hi;rw[h.bh] at j;have E:p.a8.length<=g.a8.length:=by
  have J:=h.len;have K:=h.dq;have:m.a8<=(bN w S p.aI p.aK m).2:=p5 w D (S p.aI p.aK) m.code.length m.code 0 0 m.a8;omega
 refine⟨k,h.self,h.args,h.cls,h.iW,h.tk,E,by rw[ad];exact h.rH c,by rw[e1,d],by rw[C,A],by rw[B,z],fun u v=>by rw[LW _ _ (by rw[d];exact u) (by rw[d];exact v),r],(h.dn W).1,fun T Tp t x o y=>?_,fun b=>?_⟩
 ·refine .aV (m:=m) ⟨h.aV,h.bm,h.cls,h.iW,h.self,h.args,h.ak,h.bh,h.codeF,by simp only;rw[x];exact h.len,by simp only;rw[o];exact h.dq,by simp only;rw[o];exact y⟩ rfl bK ?_;simp only;rw[show(p.aH+1).toNat=p.aH.toNat+1 by omega,xw c,ad];simp[O1.len]
 ·obtain⟨H,L⟩:=G b;have f:i.a.toNat<(bN w S p.aI p.aK m).1.length:=by rw[DY];omega
  have n:(fI (X9 (bN w S p.aI p.aK m).1 0) (Y6 p.aH.toNat i)).a=((bL (bN w S p.aI p.aK m).1 i.a.toNat:Nat):Int):=by
   rw[K2 _ _ (by rw[d];exact b),r,BS _ 0 _ f,Mm];rfl
  rw[n];refine⟨d9,?_,fun t=>.aV (m:=m) ⟨h.aV,h.bm,h.cls,h.iW,h.self,h.args,h.ak,h.bh,h.codeF,h.len,h.dq,h.tk⟩ rfl H rfl⟩;rw[ad];have s:p.aH.toNat<(bN w S p.aI p.aK m).1.length:=by rw[DY];omega
  constructor
  ·intro F;by_cases e:i.a<p.aH+1
   ·exact e
   ·have:=yU (l:=(bN w S p.aI p.aK m).1) (p:=p.aH.toNat) (q:=i.a.toNat) d9 d9;omega
  ·intro F;by_cases e:i.a.toNat=p.aH.toNat
   ·rw[e];omega
   ·have:=yU (l:=(bN w S p.aI p.aK m).1) (p:=i.a.toNat) (q:=p.aH.toNat) d9 d9;omega
def yS {f:j3} {v:V} (h:f.aA.getLast?=some v):cN f=some (v,{ f with aA:=f.aA.dropLast }):=by
 unfold cN;rw[h];rfl
def Bw (W:cZ w) (hL:eL w) {a b Z:Cf} {g p:j3} {G P:List j3} {d i:Ins} (hS:cf a b) (j:a.fs=g::G) (hb:b.fs=p::P) (K:dr w S G P) (R:ve w S g p d i) (he:b.err=0) (I:cz w fuel b) (Wk0:Wk w (qF w S) a)
  (hi:j4 p.code p.aH=some i) (hop:i.op<=17) (c:P8 w fuel (fun _ k s=>l7 w s k) cH b=some Z) :
  ∃n,cw w fuel (fun _ k s=>l7 w s k) (qF w S) a n/\cf n Z/\(Z.err=0->dr w S n.fs Z.fs):=by
 have O:a.err=0:=by rw[hS.err];exact he
 have hgl:=fX R.aH;have hglen:=R.dn;have H:Z7 { g with aH:=g.aH+1 }+1=Z7 g:=rJ hgl.2;have step:∀n,P8 w fuel (fun _ k s=>l7 w s k) (qF w S) a=some n->mu fuel n<mu fuel a->cw w fuel (fun _ k s=>l7 w s k) (qF w S) a n:=fun n h1 h2=>.step O (by rw[j];simp) Wk0 h1 h2 (.refl _);have ad:P8 w fuel (fun _ k s=>l7 w s k) (qF w S) a=(if d.op=14 then kW w fuel (fun _ k s=>l7 w s k) (qF w S) a { g with aH:=g.aH+1 } G d g.aH
  else if d.op=15 then some (cS a { g with aH:=g.aH+1 } G d.a)
  else if d.op=16 then(cN { g with aH:=g.aH+1 }).map (kf a G d)
  else if d.op=17 then(cN { g with aH:=g.aH+1 }).map fun q=>dG { a with fs:=G } q.1
  else if d.op=18 then ly w a { g with aH:=g.aH+1 } G d
  else if d.op=21 then some (iE fuel { a with fs:={ g with aH:=g.aH+1 }::G })
  else ka w a { g with aH:=g.aH+1 } G d):=by
  unfold P8;rw[j];simp only[R.aH,A0]
 rw[R.op] at ad;unfold P8 at c;rw[hb] at c;simp only[hi,A0] at c;have T:∀(X:List V) (to t:Int),0<=to->(to<g.aH+1↔t<p.aH+1)->FR w S { g with aH:=to,aA:=X } { p with aH:=t,aA:=X } ->
   cf (cS a { g with aH:=g.aH+1,aA:=X } G to) (cS b { p with aH:=p.aH+1,aA:=X } P t)/\dr w S (cS a { g with aH:=g.aH+1,aA:=X } G to).fs (cS b { p with aH:=p.aH+1,aA:=X } P t).fs /\
   mu fuel (cS a { g with aH:=g.aH+1,aA:=X } G to)<mu fuel a:=by
  intro X to t h0 D z;have ht:=I.turns;unfold cS;simp only;by_cases E:to<g.aH+1
  ·rw[N6 E,N6 (D.1 E)];refine⟨⟨hS.heap,hS.sends,by simp only;rw[hS.turns],hS.back,by simp only;rw[hS.turns,hS.err]⟩,.cons z K,?_⟩;have:=hS.turns;have e1:Z7 { g with aH:=to,aA:=X }<=Z7 g+240:=by
    unfold Z7;simp only;omega
   simp only[mu,j,MW,Mg];omega
  ·rw[N5 E,N5 (fun h=>E (D.2 h))];refine⟨⟨hS.heap,hS.sends,hS.turns,hS.back,hS.err⟩,.cons z K,?_⟩;have e1:Z7 { g with aH:=to,aA:=X }+1<=Z7 g:=by
    unfold Z7;simp only;omega
   simp only[mu,j,MW,Mg];omega
 by_cases M:i.op=14
 ·rw[N6 M] at c ad;obtain⟨x,cl,m,k0,Y,hy,E,Q,h⟩:=pR c;simp only at Y hy E Q;have ea:d.a=i.a:=R.a d9 d9;have key:P8 w fuel (fun _ k s=>l7 w s k) (qF w S) a=(if(l7 w i.name (H5 b.heap x)).2<0 then some (V4 { a with fs:={ g with aH:=g.aH+1 }::G,ev:=a.ev++[(S9 { g with aH:=g.aH+1 } m d g.aH,H5 b.heap x)] } 10)
    else fg w fuel (qF w S) { a with fs:={ g with aH:=g.aH+1,aA:=p.aA.take (p.aA.length-i.a.toNat-1) }::G,ev:=a.ev++[(S9 { g with aH:=g.aH+1 } m d g.aH,H5 b.heap x)] }
     (l7 w i.name (H5 b.heap x)).1 (l7 w i.name (H5 b.heap x)).2 x (p.aA.drop (p.aA.length-i.a.toNat))):=by
   rw[ad];unfold kW;simp only[ea,R.st,R.nm,R.cls,R.iW,hS.heap];rw[N6 ⟨k0,Y⟩];simp only[hy,E,Q,A0]
  rcases h with⟨h2,rfl⟩|⟨h2,h⟩
  ·rw[N6 h2] at key;refine⟨_,step _ key ?_,⟨hS.heap,hS.sends,hS.turns,hS.back,rfl⟩,fun e=>by cases e⟩;simp only[mu,j,V4,MW,Mg];omega
  ·rw[N5 d9] at key;have z:=R.next g.a8 p.a8 (p.aA.take (p.aA.length-i.a.toNat-1)) rfl rfl R.tk;obtain⟨n,l,B,L⟩:=Bu (fuel:=fuel) W hL (a:={ a with fs:={ g with aH:=g.aH+1,aA:=p.aA.take (p.aA.length-i.a.toNat-1) }::G,ev:=a.ev++[(S9 { g with aH:=g.aH+1 } m d g.aH,H5 b.heap x)] })
    (by exact⟨hS.heap,hS.sends,hS.turns,hS.back,hS.err⟩) (by exact .cons z K) h
   rw[<-key] at l;refine⟨n,step n l ?_,B,fun _=>L⟩;rw[key] at l;obtain⟨x2,m2,J,F,hh⟩:=pO l;have e0:Z7 { g with aH:=g.aH+1,aA:=p.aA.take (p.aA.length-i.a.toNat-1) }+1=Z7 g:=H;rcases hh with⟨_,rfl⟩|⟨_,_,rfl⟩|⟨_,A,_,v,_,hh⟩|⟨_,_,_,_,rfl⟩|⟨_,A,_,_,rfl⟩
   ·simp only[mu,j,V4,MW,Mg];omega
   ·simp only[mu,j,V4,MW,Mg];omega
   ·rcases hh with⟨_,rfl⟩|⟨_,rfl⟩
    ·simp only at A;simp only[mu,j,V4,MW,Mg];omega
    ·rw[sj];simp only at A;simp only[mu,j,MW,Mg];omega
   ·simp only[mu,j,V4,MW,Mg];omega
   ·simp only at A;have hnew:Z7 (fh (qF w S) (l7 w i.name (H5 b.heap x)).1 (l7 w i.name (H5 b.heap x)).2 m2 x (p.aA.drop (p.aA.length-i.a.toNat)))<=320:=by
     have C:=xX (S:=S) W hL J F (W.a8 x2 (eG J) m2 (eG F)).1 x (p.aA.drop (p.aA.length-i.a.toNat));have hc60:=W.code x2 (eG J) m2 (eG F);generalize hg:fh (qF w S) (l7 w i.name (H5 b.heap x)).1 (l7 w i.name (H5 b.heap x)).2 m2 x (p.aA.drop (p.aA.length-i.a.toNat))=ng at C;have jG:ng.aH=0:=by rw[<-hg];unfold fh;split<;>rfl
     unfold Z7;rw[jG];have hcl:ng.code.length<=240:=by
      cases C with
      |same hs=>rw[pY (fun _ _=>rfl)];simp only;omega
      |aV hff=>exact(hff.dn W).1
     split<;>omega
    simp only[mu,j,MW,Mg];omega
 rw[N5 M] at c ad;by_cases u:i.op=15
 ·rw[N6 u] at c ad;cases c;obtain⟨j0,j1,j2⟩:=R.jmp (.inl u);obtain⟨l,B,L⟩:=T p.aA d.a i.a j0 j1 (j2 p.aA);rw[<-R.st] at l B L;refine⟨_,step _ ad L,?_,fun _=>?_⟩
  ·rw[R.st] at l⊢;exact l
  ·rw[R.st] at B⊢;exact B
 rw[N5 u] at c ad;by_cases y:i.op=16
 ·rw[N6 y] at c ad;rw[MP] at c;obtain⟨⟨v,f2⟩,hv,rfl⟩:=c;obtain⟨o,U⟩:=ij hv;simp only at o U;subst U;have hg:cN { g with aH:=g.aH+1 }=some (v,{ g with aH:=g.aH+1,aA:=p.aA.dropLast }):=by
   rw[yS (f:={ g with aH:=g.aH+1 }) (v:=v) (by rw[show({ g with aH:=g.aH+1 }:j3).aA=g.aA from rfl,R.st];exact o)];simp only[R.st]
  rw[hg] at ad;simp only[Mj] at ad;have hn:=R.next g.a8 p.a8 p.aA.dropLast rfl rfl R.tk;obtain⟨j0,j1,j2⟩:=R.jmp (.inr y);unfold kf at ad⊢;by_cases Y:v.k=1
  ·rw[N6 Y] at ad⊢;obtain⟨l,B,L⟩:=T p.aA.dropLast d.a i.a j0 j1 (j2 p.aA.dropLast);exact⟨_,step _ ad L,l,fun _=>B⟩
  ·rw[N5 Y] at ad⊢;have Q:mu fuel { a with fs:={ g with aH:=g.aH+1,aA:=p.aA.dropLast }::G }<mu fuel a:=by
    have e0:Z7 { g with aH:=g.aH+1,aA:=p.aA.dropLast }+1=Z7 g:=H;simp only[mu,j,MW,Mg];omega
   by_cases k2:v.k=2
   ·rw[N6 k2] at ad⊢;exact⟨_,step _ ad Q,⟨hS.heap,hS.sends,hS.turns,hS.back,hS.err⟩,fun _=>.cons hn K⟩
   ·rw[N5 k2] at ad⊢;exact⟨_,step _ ad Q,⟨hS.heap,hS.sends,hS.turns,hS.back,rfl⟩,fun e=>by cases e⟩
 rw[N5 y] at c ad;by_cases N:i.op=17
 ·rw[N6 N] at c ad;rw[MP] at c;obtain⟨⟨v,f2⟩,hv,rfl⟩:=c;obtain⟨o,_⟩:=ij hv;simp only at o;rw[yS (f:={ g with aH:=g.aH+1 }) (v:=v) (by rw[show({ g with aH:=g.aH+1 }:j3).aA=g.aA from rfl,R.st];exact o)] at ad;obtain⟨l,B⟩:=CX (w:=w) (S:=S) (a:={ a with fs:=G }) (b:={ b with fs:=P }) ⟨hS.heap,hS.sends,hS.turns,hS.back,hS.err⟩ K v;refine⟨_,step _ ad ?_,l,fun _=>B⟩;rw[sj];simp only[mu,j,MW,Mg];omega
 rw[N5 N,N5 (show¬i.op=18 by omega),N5 (show¬i.op=21 by omega)] at c ad;rw[vP w b he,MP] at c;obtain⟨r,hr,rfl⟩:=c;simp only at hr;rw[<-R.tk] at hr;obtain⟨T',t1,t2,t3,t4⟩:=JK R.tl hr;rw[vP w a O] at ad;simp only at ad;have t1':br w a.heap g.aQ g.args g.a8 g.aA d=some (r.1,T',r.2.2.1,r.2.2.2):=by
  rw[IW (i:=i) R.op (R.a u y) R.b,R.self,R.args,R.st,hS.heap,t1]
 rw[t1'] at ad;simp only[Mj] at ad;refine⟨_,step _ ad ?_,⟨rfl,hS.sends,hS.turns,hS.back,rfl⟩,fun _=>.cons ?_ K⟩
 ·have e0:Z7 { g with aH:=g.aH+1,a8:=T',aA:=r.2.2.1 }+1=Z7 g:=H;simp only[mu,iX,j,MW,Mg];omega
 ·exact R.next T' r.2.1 r.2.2.1 t3 t4 t2
end
section
variable {w:Wd} {S:Int->Int->List Int} {fuel:Int}
def vQ {a:Cf} {g:j3} {G:List j3} {b:Ins} {r:List Ob×List V×List V×Int} (e:a.err=0) (d:a.fs=g::G) (ad:j4 g.code g.aH=some b) (h:¬(14<=b.op/\b.op<=18)) (c:b.op≠21)
  (f:br w a.heap g.aQ g.args g.a8 g.aA b=some r) (L:St->Int->ByteArray->Int×Int) (Q:Int->Int->Fs×Bool):P8 w fuel L Q a=some (iX a { g with aH:=g.aH+1 } G r):=by
 unfold P8;rw[d];simp only[ad,A0];rw[N5 d9,N5 d9,N5 d9,N5 d9,N5 d9,N5 c,vP w a e];simp only[f,Mj]
def Da {H:List Ob} {self v:V} {args T X:List V} {k:Int} (a:0<=k) (b:k<T.length):br w H self args T (X++[v]) ⟨11,k,0,0,BY⟩=some (H,T.set k.toNat v,X,0):=by
 unfold br;simp[a,b]
def Jy {H:List Ob} {self:V} {args T X:List V}:br w H self args T X ⟨6,0,0,0,BY⟩=some (H,T,X++[⟨0,0⟩],0):=by
 unfold br;simp
theorem Ci {a:Cf} {G:List j3} (q:a.err=0) (C:∀g,bz g->Wk w (qF w S) { a with fs:=g::G }) {s:Int} (J:0<=s) {X:List V}:∀(n:Nat) (vs:List V) (g:j3),vs.length=n->g.aA=X++vs->0<=g.aH->(∀r,r<n->j4 g.code (g.aH+r)=(jC s n)[r]?) ->
  s.toNat+n<=g.a8.length->bz g->∃l,cw w fuel (fun _ k s=>l7 w s k) (qF w S) { a with fs:=g::G } { a with fs:={ g with aH:=g.aH+n,a8:=l,aA:=X }::G } /\
   l.length=g.a8.length/\(∀j,j<s.toNat\/s.toNat+n<=j->l[j]?=g.a8[j]?)/\∀(j:Nat) v,vs[j]?=some v->l[s.toNat+j]?=some v
 |0,vs,g,t,f,H,x,hl,d=>by
  obtain rfl:=Mo t;rw[List.append_nil] at f;refine⟨g.a8,?_,rfl,fun _ _=>rfl,fun j v h=>by simp at h⟩;have:({ g with aH:=g.aH+((0:Nat):Int),a8:=g.a8,aA:=X }:j3)=g:=by
   rw[<-f];simp
  rw[this];exact .refl _
 |n+1,vs,g,t,f,H,x,hl,d=>by
  obtain⟨b,v,rfl⟩:∃b v,vs=b++[v]:=by
   cases B:vs.getLast? with
   |none=>rw[List.getLast?_eq_none_iff] at B;subst B;simp at t
   |some v=>obtain⟨b,h⟩:=List.getLast?_eq_some_iff.1 B;exact⟨b,v,h⟩
  simp only[MN,Mz] at t;have p:b.length=n:=d9;have hi:j4 g.code g.aH=some ⟨11,s+n,0,0,BY⟩:=by
   have:=x 0 d9;simpa[jC] using this
  have A:=fX hi;have c:g.aA=(X++b)++[v]:=by rw[f];simp
  have D:br w a.heap g.aQ g.args g.a8 g.aA ⟨11,s+n,0,0,BY⟩=some (a.heap,g.a8.set (s+n).toNat v,X++b,0):=by
   rw[c];exact Da d9 d9
  have m:=vQ (fuel:=fuel) (a:={ a with fs:=g::G }) q rfl hi bK bK D (fun _ k s=>l7 w s k) (qF w S);have o:bz { g with aH:=g.aH+1,a8:=g.a8.set (s+n).toNat v,aA:=X++b }:=⟨by have:=d.aA;rw[c] at this;simp at this⊢;omega,d.code,fun u i I=>d.num u (by rw[c];simp only[MY] at i⊢;exact .inl i) I⟩;obtain⟨l,K,L,E,M⟩:=Ci q C J n b { g with aH:=g.aH+1,a8:=g.a8.set (s+n).toNat v,aA:=X++b } p rfl bK (fun r D=>by
   have:=x (r+1) d9;simp only[jC,N1] at this;rw[<-this];congr 1;simp only;omega) (by simp only[Mh];omega) o
  refine⟨l,?_,by rw[L];simp,fun j N=>?_,fun j u i=>?_⟩
  ·refine .trans (na (a:={ a with fs:=g::G }) q rfl (C g d) m (g1:={ g with aH:=g.aH+1,a8:=g.a8.set (s+n).toNat v,aA:=X++b }) rfl rfl rfl ?_) ?_
   ·have:=rJ A.2;unfold Z7 at this⊢;simp only at this⊢;omega
   ·have e:({ g with aH:=g.aH+((n+1:Nat):Int),a8:=l,aA:=X }:j3)={ ({ g with aH:=g.aH+1,a8:=g.a8.set (s+n).toNat v,aA:=X++b }:j3) with aH:=g.aH+1+(n:Int),a8:=l,aA:=X }:=by
     simp only[j3.mk.injEq,true_and];omega
    rw[e];have F:iX { a with fs:=g::G } { g with aH:=g.aH+1 } G (a.heap,g.a8.set (s+n).toNat v,X++b,0)={ a with fs:={ g with aH:=g.aH+1,a8:=g.a8.set (s+n).toNat v,aA:=X++b }::G }:=by
     unfold iX;simp only[q]
    rw[F];exact K
  ·rw[E j d9,List.getElem?_set_ne d9]
  ·by_cases y:j=n
   ·subst y;rw[Mf d9,p,Nat.sub_self] at i;simp only[N2,Option.some.injEq] at i;subst i;rw[E _ d9,show(s+(j:Int)).toNat=s.toNat+j by omega,List.getElem?_set_self d9]
   ·have z:j<b.length:=by
     have:=(MI.1 i).1;simp at this;omega
    rw[Mu z] at i;exact M j u i
theorem C3 {a:Cf} {G:List j3} (l:a.err=0) (x:∀g,bz g->Wk w (qF w S) { a with fs:=g::G }) {b:Int} (F:0<=b):∀(n k:Nat) (g:j3),0<=g.aH->(∀r,r<2*n->j4 g.code (g.aH+r)=(iH b n k)[r]?) ->
  b.toNat+k+n<=g.a8.length->bz g->g.aA.length<=900->∃i,cw w fuel (fun _ k s=>l7 w s k) (qF w S) { a with fs:=g::G } { a with fs:={ g with aH:=g.aH+(2*n:Nat),a8:=i }::G } /\
   i.length=g.a8.length/\(∀j,j<b.toNat+k\/b.toNat+k+n<=j->i[j]?=g.a8[j]?)/\∀j,j<n->i[b.toNat+k+j]?=some ⟨0,0⟩
 |0,k,g,E,t,hl,c,B=>by
  refine⟨g.a8,?_,rfl,fun _ _=>rfl,fun j h=>d9⟩;have:({ g with aH:=g.aH+((2*0:Nat):Int),a8:=g.a8 }:j3)=g:=l9;rw[this];exact .refl _
 |n+1,k,g,E,t,hl,c,B=>by
  have hi:j4 g.code g.aH=some ⟨6,0,0,0,BY⟩:=by
   have:=t 0 d9;simpa[iH] using this
  have m:j4 g.code (g.aH+1)=some ⟨11,b+k,0,0,BY⟩:=by
   have:=t 1 d9;simpa[iH] using this
  have I:=fX hi;have A:=fX m;have f:=vQ (fuel:=fuel) (a:={ a with fs:=g::G }) l rfl hi bK bK (Jy (w:=w)) (fun _ k s=>l7 w s k) (qF w S);have p:bz { g with aH:=g.aH+1,aA:=g.aA++[⟨0,0⟩] }:=⟨L9,c.code,fun u o z=>by
   rcases MY.1 o with o|o
   ·exact c.num u o z
   ·rw[Ml.1 o] at z;cases z⟩
  have e1:iX { a with fs:=g::G } { g with aH:=g.aH+1 } G (a.heap,g.a8,g.aA++[⟨0,0⟩],0)={ a with fs:={ g with aH:=g.aH+1,aA:=g.aA++[⟨0,0⟩] }::G }:=by
   unfold iX;simp only[l]
  have d:=vQ (fuel:=fuel) (a:={ a with fs:={ g with aH:=g.aH+1,aA:=g.aA++[⟨0,0⟩] }::G }) (g:={ g with aH:=g.aH+1,aA:=g.aA++[⟨0,0⟩] }) l rfl m bK bK
   (Da (w:=w) (X:=g.aA) (v:=⟨0,0⟩) (T:=g.a8) (k:=b+k) d9 d9) (fun _ k s=>l7 w s k) (qF w S)
  have D:iX { a with fs:={ g with aH:=g.aH+1,aA:=g.aA++[⟨0,0⟩] }::G } { g with aH:=g.aH+1+1,aA:=g.aA++[⟨0,0⟩] } G (a.heap,g.a8.set (b+k).toNat ⟨0,0⟩,g.aA,0)={ a with fs:={ g with aH:=g.aH+2,a8:=g.a8.set (b+k).toNat ⟨0,0⟩ }::G }:=by
   unfold iX;simp only[l,Cf.mk.injEq,List.cons.injEq,j3.mk.injEq,true_and,and_true];omega
  have q:bz { g with aH:=g.aH+2,a8:=g.a8.set (b+k).toNat ⟨0,0⟩ }:=⟨c.aA,c.code,c.num⟩;obtain⟨i,J,K,C,L⟩:=C3 l x F n (k+1) { g with aH:=g.aH+2,a8:=g.a8.set (b+k).toNat ⟨0,0⟩ } bK (fun r M=>by
   have:=t (r+2) d9;simp only[iH,N1] at this;rw[<-this];congr 1;simp only;omega) (by simp only[Mh];omega) q B
  refine⟨i,?_,by rw[K];simp,fun j H=>?_,fun j H=>?_⟩
  ·rw[e1] at f;rw[D] at d;refine .trans (na (a:={ a with fs:=g::G }) l rfl (x g c) f rfl rfl rfl ?_) (.trans (na (a:={ a with fs:={ g with aH:=g.aH+1,aA:=g.aA++[⟨0,0⟩] }::G }) l rfl (x _ p) d rfl rfl rfl ?_) ?_)
   ·unfold Z7;simp only;omega
   ·unfold Z7;simp only;omega
   ·have e:({ g with aH:=g.aH+((2*(n+1):Nat):Int),a8:=i }:j3)={ ({ g with aH:=g.aH+2,a8:=g.a8.set (b+k).toNat ⟨0,0⟩ }:j3) with aH:=g.aH+2+((2*n:Nat):Int),a8:=i }:=by
     simp only[j3.mk.injEq,true_and,and_true];omega
    rw[e];exact J
  ·rw[C j d9,List.getElem?_set_ne d9]
  ·by_cases y:j=0
   ·subst y;rw[C _ d9,show(b+(k:Int)).toNat=b.toNat+k+0 by omega,List.getElem?_set_self d9]
   ·have:=L (j-1) d9;rw[show b.toNat+(k+1)+(j-1)=b.toNat+k+j by omega] at this;exact this
end
section
variable {w:Wd} {S:Int->Int->List Int} {fuel:Int}
def yW (W:cZ w) (i:eL w) {a b:Cf} (hS:cf a b) {G P:List j3} {p:j3} (h:b.fs=p::P) (e:dr w S G P) (I:cz w fuel b) {n:Int} (o:n=a.sends\/n=a.sends+1):∀g,bz g->Wk w (qF w S) { a with fs:=g::G,sends:=n }:=fun g j=>by
 have d:=I.fs;rw[h] at d;have hl:=I.fl;rw[h,MO] at hl;have l:=I.sends;have m:=hS.sends;refine E4 (N:=0) W i I hS.heap bK hS.turns (by simp only[MO,e.len];omega) fun f c=>?_;rcases MJ.1 c with rfl|c
 ·exact j
 ·exact e.wk W (fun q k=>⟨1,d.2 q k⟩) f c
def d46 {y:Me} (h:fR y=true):y.aU=0:=by
 unfold fR at h;simp only[IT,NF] at h;exact h.1
def IV (W:cZ w) (hL:eL w) {a b b':Cf} {g p:j3} {G P:List j3} {m y:Me} {i:Ins} {s c t:Int} {sz:Nat} (hS:cf a b) (Z:a.fs=g::G) (hb:b.fs=p::P) (T:dr w S G P) (h:FF w S g p m) (o:g.aA=p.aA) (h0:0<=p.aH)
  (ad:g.aH=(bL (bN w S p.aI p.aK m).1 p.aH.toNat:Int)) (he:b.err=0) (I:cz w fuel b) (hi:j4 p.code p.aH=some i) (hcl:di w (S p.aI p.aK) m.code.length p.aH.toNat i sz t=some (y,c))
  (N:(bN w S p.aI p.aK m).1[p.aH.toNat]?=some (.pc y s c (p.aH.toNat:Int))) (hms:m.a8<=s) (htot:s+1+y.args+y.a8<=(bN w S p.aI p.aK m).2) (z:P8 w fuel (fun _ k s=>l7 w s k) cH b=some b') :
  ∃Q,cw w fuel (fun _ k s=>l7 w s k) (qF w S) a Q/\cf Q b'/\(b'.err=0->CR w S Q b'):=by
 obtain⟨h14,_,_,l,hlf,hargs,_,_⟩:=pL hcl;obtain⟨hy,_⟩:=um w hL (S p.aI p.aK) m.code.length m.code 0 0 m.a8 y s c _ (MT N);have ya:=hy.args;have yt:=hy.a8;have n:a.err=0:=by rw[hS.err];exact he
 have Ib:=I.fs;rw[hb] at Ib;obtain⟨mp,hh,Fp⟩:=Ib.1;obtain⟨_,_,_,_,_,hplen,_⟩:=Fp.len;have e:bz g:=(FR.aV h o h0 ad).wk W Ib.1;have hpwk:bz p:=⟨d9,by have:=(h.dn W).2;omega,fun v H hk=>(Fp.ai v H).num hk⟩;have u:=yW W hL hS hb T I (.inl rfl);have U:=yW W hL hS hb T I (.inr rfl);have hab:({ a with fs:=g::G }:Cf)=a:=by rw[<-Z]
 have V:Wk w (qF w S) a:=by have:=u g e;rw[<-Z] at this;exact this
 have hms0:0<=m.a8:=by have:=h.dq;omega
 have hgl:=h.len;have htl:=h.dq;have bj:∀r,r<R5 y->j4 g.code (g.aH+(r:Nat))=(eK y s c (p.aH.toNat:Int) (bL (bN w S p.aI p.aK m).1 p.aH.toNat))[r]?:=fun r hr=>by
  rw[ad,<-Int.natCast_add];exact h.lY N hr
 have hsz:R5 y=3+y.args.toNat+2*y.a8.toNat+y.code.length:=by rw[<-ig y s c (p.aH.toNat:Int) 0];simp only[eK,MO,MN,gg,jZ,Mb];omega
 have hi0:j4 g.code g.aH=some ⟨18,c,y.args,(p.aH.toNat:Int),BY⟩:=by
  have:=bj 0 d9;simpa[eK] using this
 have hi1:j4 g.code (g.aH+1)=some ⟨21,0,0,0,BY⟩:=by
  have:=bj 1 d9;simpa[eK] using this
 have hl0:=fX hi0;have hl1:=fX hi1;have hb0:=z;unfold P8 at z;rw[hb] at z;simp only[hi,A0,N6 h14] at z;obtain⟨x,cl,mm,k0,k1,hx,hcls,hmm,D⟩:=pR z;simp only at k1 hx hcls hmm;have f:P8 w fuel (fun _ k s=>l7 w s k) (qF w S) a=if H5 a.heap x=c then some { a with fs:={ g with aH:=g.aH+1 }::G } else some { a with fs:=p::G }:=by
  unfold P8;rw[Z];simp only[hi0,A0];rw[N5 d9,N5 d9,N5 d9,N5 d9,N6 trivial];unfold ly;simp only;rw[o,N6 ⟨d9,d9⟩,show p.aA.length-1-y.args.toNat=p.aA.length-i.a.toNat-1 by omega,hx];simp only[A0];by_cases J:H5 a.heap x=c
  ·rw[N6 J,N6 J]
  ·rw[N5 J,N5 J,h.cls,h.iW];obtain⟨x2,e1,e2⟩:=h.ak;rw[e1];simp only[A0];rw[e2];simp only[A0];rw[N6 ⟨hms0,by have:=h.tk;have:=congrArg List.length this;simp only[Mw] at this;omega⟩];have:({ g with aH:=(p.aH.toNat:Int),aV:=false,code:=m.code,a8:=g.a8.take m.a8.toNat }:j3)=p:=by
    have e3:g.a8.take m.a8.toNat=p.a8:=by rw[show m.a8.toNat=p.a8.length by omega];exact h.tk
    rw[e3];obtain⟨c1,c2,c3,c4,c5,c6,c7,c8,c9⟩:=p;have q1:=h.cls;have q2:=h.iW;have q3:=h.bm;have q4:=h.bh;have q5:=h.self;have q6:=h.args;simp only at q1 q2 q3 q4 q5 q6 o h0⊢;simp only[q1,q2,q3,q4,q5,q6,o,j3.mk.injEq,true_and,and_true];omega
   simp only[h.cls,h.iW,o] at this⊢;rw[this]
 by_cases J:H5 a.heap x=c
 ·rw[N6 J] at f;have hcb:H5 b.heap x=c:=by rw[<-hS.heap];exact J
  have F:cw w fuel (fun _ k s=>l7 w s k) (qF w S) a { a with fs:={ g with aH:=g.aH+1 }::G }:=na n Z V f rfl rfl rfl (Nat.le_of_eq (rJ hl0.2));have E:bz { g with aH:=g.aH+1 }:=⟨e.aA,e.code,e.num⟩;have d:P8 w fuel (fun _ k s=>l7 w s k) (qF w S) { a with fs:={ g with aH:=g.aH+1 }::G }=some (iE fuel { a with fs:={ g with aH:=g.aH+2 }::G }):=by
   unfold P8;simp only[hi1,A0];rw[N5 d9,N5 d9,N5 d9,N5 d9,N5 d9,N6 trivial,show g.aH+1+1=g.aH+2 by omega]
  have C:Z7 { g with aH:=g.aH+2 }+1<=Z7 { g with aH:=g.aH+1 }:=by
   unfold Z7;simp only;omega
  have hlen:=T.len;unfold ld at l;split at l
  ·cases l
  rename_i hf0;obtain⟨x3,e3,e4⟩:=M6 l;rw[hcb] at D;rcases D with⟨h2,_⟩|⟨_,hent⟩
  ·omega
  obtain⟨x4,m4,e5,e6,L⟩:=pO hent;rw[e3] at e5;cases e5;rw[e4] at e6;cases e6;have hdl:(p.aA.drop (p.aA.length-i.a.toNat)).length=i.a.toNat:=by rw[List.length_drop];omega
  rcases L with⟨k2,_⟩|⟨_,O,rfl⟩|⟨_,_,k4,_⟩|⟨_,O,_,k5,rfl⟩|⟨_,O,_,k5,rfl⟩
  ·simp only at k2;omega
  ·have R:iE fuel { a with fs:={ g with aH:=g.aH+2 }::G }=V4 { a with fs:={ g with aH:=g.aH+2 }::G } 13:=by
    unfold iE;simp only at O;rw[N6 (by simp only;rw[hS.sends];exact O)]
   rw[R] at d;exact⟨_,F.trans (na (a:={ a with fs:={ g with aH:=g.aH+1 }::G }) n rfl (u _ E) d rfl rfl rfl C),⟨hS.heap,hS.sends,hS.turns,hS.back,rfl⟩,fun hz=>by cases hz⟩
  ·exact absurd (d46 hlf) k4
  ·have R:iE fuel { a with fs:={ g with aH:=g.aH+2 }::G }=V4 { a with fs:={ g with aH:=g.aH+2 }::G } 14:=by
    unfold iE;simp only[MO] at O k5;rw[N5 (by simp only;rw[hS.sends];omega),N6 (by simp only[MO];omega)]
   rw[R] at d;exact⟨_,F.trans (na (a:={ a with fs:={ g with aH:=g.aH+1 }::G }) n rfl (u _ E) d rfl rfl rfl C),⟨hS.heap,hS.sends,hS.turns,hS.back,rfl⟩,fun hz=>by cases hz⟩
  ·simp only[MO] at O k5;have R:iE fuel { a with fs:={ g with aH:=g.aH+2 }::G }={ a with fs:={ g with aH:=g.aH+2 }::G,sends:=a.sends+1 }:=by
    unfold iE;rw[N5 (by simp only;rw[hS.sends];omega),N5 (by simp only[MO];omega)]
   rw[R] at d;have st2:cw w fuel (fun _ k s=>l7 w s k) (qF w S) { a with fs:={ g with aH:=g.aH+1 }::G } { a with fs:={ g with aH:=g.aH+2 }::G,sends:=a.sends+1 }:=by
    refine .step n l9 (u _ E) d ?_ (.refl _);have:=hS.sends;simp only[mu,MW,Mg];omega
   have Y:p.aA=p.aA.take (p.aA.length-i.a.toNat-1)++(x::p.aA.drop (p.aA.length-i.a.toNat)):=by
    obtain⟨hxl,hxe⟩:=MI.1 hx;have:=List.drop_eq_getElem_cons hxl;rw[hxe,show p.aA.length-i.a.toNat-1+1=p.aA.length-i.a.toNat by omega] at this;rw[<-this,List.take_append_drop]
   generalize hXd:p.aA.take (p.aA.length-i.a.toNat-1)=X at Y;generalize hAd:p.aA.drop (p.aA.length-i.a.toNat)=A at Y hdl;have hXl:X.length<=12:=by have:=congrArg List.length Y;simp only[MN,MO] at this;omega
   have hwk2:bz { g with aH:=g.aH+2 }:=⟨e.aA,e.code,e.num⟩;obtain⟨T1,t1,t2,t3,t4⟩:=Ci (w:=w) (S:=S) (fuel:=fuel) (a:={ a with sends:=a.sends+1 }) (G:=G) n U (s:=s) d9 (X:=X) (y.args.toNat+1) (x::A) { g with aH:=g.aH+2 } (by simp only[MO];omega) (by simp only;rw[o];exact Y) bK (fun r hr=>by
    have:=bj (r+2) d9;simp only[eK,N1,MZ] at this;rw[Mu (by rw[gg];exact hr)] at this;rw[<-this];congr 1;simp only;omega) bK hwk2
   have hwk3:bz { g with aH:=g.aH+2+((y.args.toNat+1:Nat):Int),a8:=T1,aA:=X }:=⟨bK,e.code,fun v H hk=>e.num v (by rw[o,Y];exact List.mem_append_left _ H) hk⟩;obtain⟨T2,u1,u2,u3,u4⟩:=C3 (w:=w) (S:=S) (fuel:=fuel) (a:={ a with sends:=a.sends+1 }) (G:=G) n U (b:=s+1+y.args) d9 y.a8.toNat 0 { g with aH:=g.aH+2+((y.args.toNat+1:Nat):Int),a8:=T1,aA:=X } bK (fun r hr=>by
    have:=bj (y.args.toNat+1+r+2) d9;simp only[eK,N1,MZ] at this;rw[Mf (by rw[gg];omega),gg,show y.args.toNat+1+r-(y.args.toNat+1)=r by omega,Mu (by rw[jZ];exact hr)] at this;rw[<-this];congr 1;simp only;omega) (by simp only at t2⊢;omega) hwk3 bK
   simp only at t2 t3 t4 u2 u3 u4;have hlo:∀j,j<s.toNat->T2[j]?=g.a8[j]?:=fun j M=>by rw[u3 j d9,t3 j d9]
   have K:∀j,j<s.toNat+1+y.args.toNat->T2[j]?=T1[j]?:=fun j M=>u3 j d9;refine⟨_,F.trans (st2.trans (t1.trans u1)),⟨hS.heap,by simp only;rw[hS.sends],hS.turns,hS.back,hS.err⟩,fun _=>?_⟩;rw[pY (fun _ _=>rfl)];refine .oO (q:=p.aH.toNat) (m:=m) (y:=y) (s:=s) (c:=c) ⟨hS.heap,by simp only;rw[hS.sends],hS.turns,hS.back,hS.err⟩ rfl rfl T ⟨⟨h.aV,h.bm,h.cls,h.iW,h.self,h.args,h.ak,h.bh,h.codeF,bK,h.dq,?_⟩,N,bK,rfl,rfl,MS _,?_,by simp only;rw[List.append_nil],hms,⟨d9,bK,ya.1,yt.1,bK,by simp only[List.length_replicate];omega,?_,fun j v H=>?_,fun j v H=>?_⟩,hlf⟩
   ·simp only;rw[<-h.tk];apply Mr;intro j;rw[My,My];by_cases M:j<p.a8.length
    ·have B:(List.take p.a8.length g.a8).length=p.a8.length:=(by rw[h.tk]);rw[B,N6 M,N6 M,hlo j d9]
    ·have B:(List.take p.a8.length g.a8).length=p.a8.length:=(by rw[h.tk]);rw[B,N5 M,N5 M]
   ·simp only[hl];omega
   ·simp only;rw[K _ d9];exact t4 0 x rfl
   ·simp only at H⊢;have hjl:=(MI.1 H).1;rw[K _ d9,Ms,Nat.add_comm 1 j];exact t4 (j+1) v (by simpa using H)
   ·simp only at H⊢;obtain⟨hj1,hj2⟩:=MI.1 H;rw[List.length_replicate] at hj1;rw[List.getElem_replicate] at hj2;subst hj2;have:=u4 j hj1;rw[<-this];congr 1;omega
 ·rw[N5 J] at f;have F:cw w fuel (fun _ k s=>l7 w s k) (qF w S) a { a with fs:=p::G }:=na n Z V f rfl rfl rfl (by
   have:=(h.dn W).2;unfold Z7;rw[h.bm,h.aV];simp only[Mp,if_false,if_true];omega)
  obtain⟨Q,q1,q2,q3⟩:=Bw (fuel:=fuel) W hL (a:={ a with fs:=p::G }) (S:=S) ⟨hS.heap,hS.sends,hS.turns,hS.back,hS.err⟩ rfl hb T (AJ W h.bm (by have:=(h.dn W).2;omega) hi (fun M=>d9)) he I (u p hpwk) hi d9 hb0;exact⟨Q,F.trans q1,q2,fun hz=>.out q2 (q3 hz)⟩
end
def Kb {s:Int} {y:Me} {f:Int} {i:Ins} (h:i.op<=13):¬(14<=(ba s y f i).op/\(ba s y f i).op<=18)/\(ba s y f i).op≠21:=by
 unfold ba
 (repeat' split)<;>simp only<;>omega
section
variable {w:Wd} {S:Int->Int->List Int} {fuel:Int}
theorem qk.go {g h p:j3} {m y:Me} {q:Nat} {s c:Int} (X:qk w S g h p m y q s c) {T Tp A:List V} {to:Int} (b:0<=to) (d:tr T s y h.aQ h.args Tp) (a:T.length=g.a8.length) (e:∀n:Nat,(n:Int)<=s->T.take n=g.a8.take n) :
  qk w S { g with aH:=((bL (bN w S p.aI p.aK m).1 q+hl y:Nat):Int)+to,a8:=T,aA:=p.aA++A } { h with aH:=to,a8:=Tp,aA:=A } p m y q s c:=by
 have F:=X.ff;have f:=F.dq;have i:=X.ms;refine⟨⟨F.aV,F.bm,F.cls,F.iW,F.self,F.args,F.ak,F.bh,F.codeF,by simp only;rw[a];exact F.len,F.dq,?_⟩,X.item,X.aH,X.tU,X.bj,b,rfl,rfl,X.ms,d,X.leaf⟩;simp only;rw[e p.a8.length d9];exact F.tk
def LL (W:cZ w) (hL:eL w) {a b b':Cf} {g h p:j3} {G P:List j3} {m y:Me} {q:Nat} {s c:Int} (hS:cf a b) (x:a.fs=g::G) (hb:b.fs=h::p::P) (L:dr w S G P) (X:qk w S g h p m y q s c) (he:b.err=0) (I:cz w fuel b)
  (d:P8 w fuel (fun _ k s=>l7 w s k) cH b=some b'):∃K,cw w fuel (fun _ k s=>l7 w s k) (qF w S) a K/\cf K b'/\(b'.err=0->CR w S K b'):=by
 have Q:a.err=0:=by rw[hS.err];exact he
 have M:=I.fs;rw[hb] at M;obtain⟨mh,hh,Fh⟩:=M.1;obtain⟨i,_,hi,C,hlt,hslen,_,h17,_,_⟩:=Fh.len;have hmy:mh.code=y.code:=by rw[<-Fh.code];exact X.bj
 rw[hmy] at C;rw[X.bj] at hlt;obtain⟨hy,_⟩:=um w hL (S p.aI p.aK) m.code.length m.code 0 0 m.a8 y s c _ (MT X.item);have hop:=hy.op i C;have h14:i.op≠14:=d51 X.leaf i C;have ya:=hy.args;have yt:=hy.a8;have hh0:=X.jG;have hsz:R5 y=hl y+y.code.length:=by rw[<-ig y s c (q:Int) 0];simp only[eK,MO,MN,gg,jZ,Mb,hl];omega
 generalize O:bL (bN w S p.aI p.aK m).1 q+hl y=B at *;have hgat:g.aH=(B:Int)+h.aH:=by have:=X.ad;rw[O] at this;exact this
 have z:j4 g.code g.aH=some (ba s y (B:Int) i):=by
  have e1:=X.ff.lY X.item (r:=hl y+h.aH.toNat) d9;have e2:((bL (bN w S p.aI p.aK m).1 q+(hl y+h.aH.toNat):Nat):Int)=g.aH:=d9;rw[e2,d58 d9,O] at e1;rw[e1];obtain⟨_,e3⟩:=l6 hi;rw[X.bj] at e3;rw[e3];rfl
 have hgl:=fX z;have hclen:=(X.ff.dn W).1;have hpk:∀u∈p.aA,u.k=3->gL u.n:=fun u hu hk=>by
  obtain⟨mp,hp,Fp⟩:=M.2 p l9;exact(Fp.ai u hu).num hk
 have hps:p.aA.length<=12:=by
  obtain⟨mp,hp,Fp⟩:=M.2 p l9;obtain⟨_,_,_,_,_,k,_⟩:=Fp.len;omega
 have R:bz g:=⟨by rw[X.aA,MN];omega,d9,fun v E hk=>by
  rw[X.aA] at E;rcases MY.1 E with E|E
  ·exact hpk v E hk
  ·exact(Fh.ai v E).num hk⟩
 have hWa:Wk w (qF w S) a:=by
  have hl:=I.fl;rw[hb,MO,MO] at hl;have h1:=I.sends;have h2:=hS.sends;refine E4 (N:=0) W hL I hS.heap d9 hS.turns (by rw[x];simp only[MO,L.len];omega) fun f hf=>?_;rw[x] at hf;rcases MJ.1 hf with rfl|hf
  ·exact R
  ·exact L.wk W (fun r hr=>⟨1,M.2 r (by simp[hr])⟩) f hf
 have Y:Z7 { g with aH:=g.aH+1 }+1=Z7 g:=rJ hgl.2;have step:∀K,P8 w fuel (fun _ k s=>l7 w s k) (qF w S) a=some K->mu fuel K<mu fuel a->cw w fuel (fun _ k s=>l7 w s k) (qF w S) a K:=fun K h1 h2=>.step Q (by rw[x];simp) hWa h1 h2 (.refl _);unfold P8 at d;rw[hb] at d;simp only[hi,A0] at d;have D:∀n:Nat,(n:Int)<=s->g.a8.take n=g.a8.take n:=fun _ _=>rfl;have Z:∀(A:List V) (to:Int),0<=to ->
   cf (cS a { g with aH:=g.aH+1,aA:=p.aA++A } G ((B:Int)+to)) (cS b { h with aH:=h.aH+1,aA:=A } (p::P) to)/\CR w S (cS a { g with aH:=g.aH+1,aA:=p.aA++A } G ((B:Int)+to)) (cS b { h with aH:=h.aH+1,aA:=A } (p::P) to) /\
   mu fuel (cS a { g with aH:=g.aH+1,aA:=p.aA++A } G ((B:Int)+to))<mu fuel a:=by
  intro A to h0;have ht:=I.turns;have j:=X.go (T:=g.a8) (Tp:=h.a8) (A:=A) h0 X.a8 rfl D;rw[O] at j;unfold cS;simp only;by_cases hc:to<h.aH+1
  ·rw[N6 d9,N6 hc];have l:cf ({ a with turns:=a.turns+1,fs:={ g with aH:=(B:Int)+to,aA:=p.aA++A }::G,err:=if 300<a.turns+1 then 16 else a.err }:Cf) { b with turns:=b.turns+1,fs:={ h with aH:=to,aA:=A }::p::P,err:=if 300<b.turns+1 then 16 else b.err }:=⟨hS.heap,hS.sends,by simp only;rw[hS.turns],hS.back,by simp only;rw[hS.turns,hS.err]⟩;refine⟨l,.oO l rfl rfl L j,?_⟩;have:=hS.turns;have e1:Z7 { g with aH:=(B:Int)+to,aA:=p.aA++A }<=Z7 g+240:=by
    unfold Z7;simp only;omega
   simp only[mu,x,MW,Mg];omega
  ·rw[N5 d9,N5 hc];have l:cf ({ a with fs:={ g with aH:=(B:Int)+to,aA:=p.aA++A }::G }:Cf) { b with fs:={ h with aH:=to,aA:=A }::p::P }:=⟨hS.heap,hS.sends,hS.turns,hS.back,hS.err⟩;refine⟨l,.oO l rfl rfl L j,?_⟩;have e1:Z7 { g with aH:=(B:Int)+to,aA:=p.aA++A }+1<=Z7 g:=by
    unfold Z7;simp only;omega
   simp only[mu,x,MW,Mg];omega
 rw[N5 h14] at d;by_cases H:i.op=15
 ·rw[N6 H] at d;cases d;have j0:=(hy.jump i C (.inl H)).1;obtain⟨q1,q2,q3⟩:=Z h.aA i.a j0;have ad:P8 w fuel (fun _ k s=>l7 w s k) (qF w S) a=some (cS a { g with aH:=g.aH+1,aA:=p.aA++h.aA } G ((B:Int)+i.a)):=by
   unfold P8;rw[x];simp only[z,A0];have e:ba s y (B:Int) i=⟨15,(B:Int)+i.a,0,0,BY⟩:=by unfold ba;simp[H]
   simp only[e];rw[N5 d9,N6 trivial];congr 2;rw[<-X.aA]
  exact⟨_,step _ ad q3,q1,fun _=>q2⟩
 rw[N5 H] at d;by_cases J:i.op=16
 ·rw[N6 J,MP] at d;obtain⟨⟨v,f2⟩,E,rfl⟩:=d;obtain⟨o,hv2⟩:=ij E;simp only at o hv2;subst hv2;obtain⟨e1,e2⟩:=rh (a:=p.aA) o;have ad:P8 w fuel (fun _ k s=>l7 w s k) (qF w S) a=some (kf a G ⟨16,(B:Int)+i.a,0,0,BY⟩ (v,{ g with aH:=g.aH+1,aA:=p.aA++h.aA.dropLast })):=by
   unfold P8;rw[x];simp only[z,A0];have e:ba s y (B:Int) i=⟨16,(B:Int)+i.a,0,0,BY⟩:=by unfold ba;simp[J]
   simp only[e];rw[N5 d9,N5 d9,N6 trivial,yS (f:={ g with aH:=g.aH+1 }) (v:=v) (by simp only;rw[X.aA];exact e1)];simp only[Mj,X.aA,e2]
  have j0:=(hy.jump i C (.inr J)).1;unfold kf at ad⊢;simp only at ad⊢;by_cases k1:v.k=1
  ·rw[N6 k1] at ad⊢;obtain⟨q1,q2,q3⟩:=Z h.aA.dropLast i.a j0;exact⟨_,step _ ad q3,q1,fun _=>q2⟩
  ·rw[N5 k1] at ad⊢;have hm:mu fuel { a with fs:={ g with aH:=g.aH+1,aA:=p.aA++h.aA.dropLast }::G }<mu fuel a:=by
    have e0:Z7 { g with aH:=g.aH+1,aA:=p.aA++h.aA.dropLast }+1=Z7 g:=Y;simp only[mu,x,MW,Mg];omega
   by_cases k2:v.k=2
   ·rw[N6 k2] at ad⊢;have l:cf ({ a with fs:={ g with aH:=g.aH+1,aA:=p.aA++h.aA.dropLast }::G }:Cf) { b with fs:={ h with aH:=h.aH+1,aA:=h.aA.dropLast }::p::P }:=⟨hS.heap,hS.sends,hS.turns,hS.back,hS.err⟩;have j:=X.go (T:=g.a8) (Tp:=h.a8) (A:=h.aA.dropLast) (to:=h.aH+1) d9 X.a8 rfl D;rw[O,show(B:Int)+(h.aH+1)=g.aH+1 by omega] at j;exact⟨_,step _ ad hm,l,fun _=>.oO l rfl rfl L j⟩
   ·rw[N5 k2] at ad⊢;exact⟨_,step _ ad hm,⟨hS.heap,hS.sends,hS.turns,hS.back,rfl⟩,fun e=>by cases e⟩
 rw[N5 J] at d;by_cases t:i.op=17
 ·rw[N6 t,MP] at d;obtain⟨⟨v,f2⟩,E,rfl⟩:=d;obtain⟨o,_⟩:=ij E;simp only at o;have U:h.aA=[v]:=by
   have:=h17 t
   match l:h.aA with
   |[]=>rw[l] at this;simp at this
   |[u]=>rw[l] at o;simp at o;rw[o]
   |_::_::_=>rw[l] at this;simp at this
  have ad:P8 w fuel (fun _ k s=>l7 w s k) (qF w S) a=some { a with fs:={ g with aH:=(B:Int)+y.code.length }::G }:=by
   unfold P8;rw[x];simp only[z,A0];have e:ba s y (B:Int) i=⟨15,(B:Int)+y.code.length,0,0,BY⟩:=by unfold ba;simp[t]
   simp only[e];rw[N5 d9,N6 trivial];unfold cS;simp only;rw[N5 d9]
  have l:cf ({ a with fs:={ g with aH:=(B:Int)+y.code.length }::G }:Cf) (dG { b with fs:=p::P } v):=⟨hS.heap,hS.sends,hS.turns,hS.back,hS.err⟩;refine⟨_,step _ ad ?_,l,fun _=>.out l ?_⟩
  ·have e0:Z7 { g with aH:=(B:Int)+y.code.length }+1<=Z7 g:=by
    unfold Z7;simp only;omega
   simp only[mu,x,MW,Mg];omega
  ·have F:=X.ff;have hpa:=X.aH;refine .cons (.aV (m:=m) ⟨F.aV,F.bm,F.cls,F.iW,F.self,F.args,F.ak,F.bh,F.codeF,F.len,F.dq,F.tk⟩ ?_ (by simp only[cC];omega) ?_) L
   ·simp only[cC];rw[X.aA,U]
   ·simp only[cC];rw[hpa,show((q:Int)+1).toNat=q+1 by omega,xw X.item];simp only[O1.len];omega
 rw[N5 t,N5 d9,N5 d9,vP w b he,MP] at d;obtain⟨r,hr,rfl⟩:=d;simp only at hr;obtain⟨T',t1,t2,t3,t4⟩:=KP (gs:=g.aQ) (gargs:=g.args) (base:=p.aA) (f:=(B:Int)) X.a8 d9 hop.1 hr;obtain⟨o1,o2⟩:=Kb (s:=s) (y:=y) (f:=(B:Int)) (i:=i) d9;rw[<-X.aA,<-hS.heap] at t1;have ad:=vQ (fuel:=fuel) (w:=w) Q x z o1 o2 t1 (fun _ k s=>l7 w s k) (qF w S);have l:cf (iX a { g with aH:=g.aH+1 } G (r.1,T',p.aA++r.2.2.1,r.2.2.2)) (iX b { h with aH:=h.aH+1 } (p::P) r):=⟨rfl,hS.sends,hS.turns,hS.back,rfl⟩;refine⟨_,step _ ad ?_,l,fun _=>?_⟩
 ·have e0:Z7 { g with aH:=g.aH+1,a8:=T',aA:=p.aA++r.2.2.1 }+1=Z7 g:=Y;simp only[mu,iX,x,MW,Mg];omega
 ·have j:=X.go (A:=r.2.2.1) (to:=h.aH+1) d9 t2 t3 t4;rw[O,show(B:Int)+(h.aH+1)=g.aH+1 by omega] at j;exact .oO l rfl rfl L j
end
section
variable {w:Wd} {S:Int->Int->List Int} {fuel:Int}
def JF (W:cZ w) (v:eL w) {a b q:Cf} (h:CR w S a b) (J:b.err=0) (I:cz w fuel b) (d:P8 w fuel (fun _ k s=>l7 w s k) cH b=some q) :
  ∃e,cw w fuel (fun _ k s=>l7 w s k) (qF w S) a e/\cf e q/\(q.err=0->CR w S e q):=by
 cases h with
 |oO hS u f r X=>exact LL W v hS u f r X J I d
 |out hS r =>
  cases f:b.fs with
  |nil=>unfold P8 at d;rw[f] at d;cases d
  |cons p P =>
   rw[f] at r;cases u:a.fs with
   |nil=>rw[u] at r;cases r
   |cons g G =>
    rw[u] at r;have B:=I.fs;rw[f] at B;obtain⟨mp,hh,x⟩:=B.1;obtain⟨i,_,hi,K,_,Q,_,_,_,_⟩:=x.len;have Y:=y6 (x.me.num i K);have n:i.op=15\/i.op=16->0<=i.a/\i.a<mp.code.length:=fun h=>d9;have z:i.op<=17:=d9;have V:=x.me.len;have hl:=I.fl;rw[f,MO] at hl;cases r with
    |cons U D =>
     have F:∀T,bz T->Wk w (qF w S) { a with fs:=T::G }:=yW W v hS f D I (.inl rfl);have E:Wk w (qF w S) a:=by
      have:=F g (U.wk W B.1);rw[<-u] at this;exact this
     have done:ve w S g p (match j4 g.code g.aH with|some j=>j|none=>i) i->∃e,cw w fuel (fun _ k s=>l7 w s k) (qF w S) a e/\cf e q/\(q.err=0->CR w S e q):=fun R=>by
      obtain⟨e,q1,Z,q3⟩:=Bw W v hS u f D R J I E hi z d;exact⟨e,q1,Z,fun hz=>.out Z (q3 hz)⟩
     cases U with
     |same hs =>
      refine done ?_;rw[hi];exact AJ W hs (by rw[x.code];omega) hi (fun L=>(n L).1)
     |@aV _ m l o C ad =>
      rcases l.item v C hi with O|⟨y,t,c,sz,H,M,N,A⟩
      ·have R:=d22 W v l o C ad hi O (fun L=>by
        have:=n L;rw[<-x.code,l.bh] at this;exact this)
       refine done ?_;rw[R.aH];exact R
      ·exact IV W v hS u f D l o C ad J I hi H N M A d
def Jd (W:cZ w) (o:0<w.a7.length) (y:eL w) {b c:Cf} (z:Path w fuel (fun _ k s=>l7 w s k) cH b c) (v:c.done):∀{a:Cf},cf a b->(b.err=0->CR w S a b)->(b.err=0->cz w fuel b) ->
  ∃i,cw w fuel (fun _ k s=>l7 w s k) (qF w S) a i/\cf i c/\i.done:=by
 induction z with
 |refl c =>
  intro a hS n _;refine⟨a,.refl _,hS,?_⟩;by_cases e:c.err=0
  ·have d:c.fs=[]:=v.resolve_left (fun h=>h e);cases n e with
   |out _ l =>
    rw[d] at l;cases t:a.fs with
    |nil=>exact .inr t
    |cons g G=>rw[t] at l;cases l
   |oO _ _ u=>rw[d] at u;cases u
  ·exact .inl (by rw[hS.err];exact e)
 |@step b q c e p j _ ih =>
  intro a hS n r;obtain⟨J,B,C,D⟩:=JF W y (n e) e (r e) j;have m:q.err=0->cz w fuel q:=by
   cases d:b.fs with
   |nil=>exact absurd d p
   |cons f F =>
    obtain⟨K,x,A⟩:=sU (Q:=cH) W o (fun _ _=>rfl) (r e) e d;rw[j] at x;cases x;exact A.inv
  obtain⟨i,E,H,I⟩:=ih v C D m;exact⟨i,B.trans E,H,I⟩
def IJ (W:cZ w) (m:eL w) (c:O9) (d:fuel<=400) {i:Cf} (h:gI w fuel cH c=some i):∃g,gI w fuel (qF w S) c=some g/\cf g i/\dr w S g.fs i.fs/\mu fuel g<1048576:=by
 unfold gI at h⊢;by_cases o:(l7 w c.name (H5 w.heap c.aQ)).2<0
 ·rw[N6 o] at h⊢;cases h;exact⟨_,rfl,⟨rfl,rfl,rfl,rfl,rfl⟩,.nil,lb d (MS _) (MS _) (by simp[V4,cc])⟩
 ·rw[N5 o] at h⊢;obtain⟨g,q,u,x⟩:=Bu (S:=S) (a:=cc w) W m ⟨rfl,rfl,rfl,rfl,rfl⟩ .nil h;refine⟨g,q,u,x,?_⟩;obtain⟨r,l,f,e,k⟩:=pO q;rcases k with⟨_,rfl⟩|⟨_,_,rfl⟩|⟨_,_,_,v,_,k⟩|⟨_,_,_,_,rfl⟩|⟨_,_,_,_,rfl⟩
  ·exact lb d (MS _) (MS _) (by simp[V4,cc])
  ·exact lb d (MS _) (MS _) (by simp[V4,cc])
  ·rcases k with⟨_,rfl⟩|⟨_,rfl⟩
   ·exact lb d (by simp[V4,cc]) (MS _) (by simp[V4,cc])
   ·rw[sj];exact lb d (by simp[cc]) (MS _) (by simp[cc])
  ·exact lb d (MS _) (MS _) (by simp[V4,cc])
  ·refine lb d (by simp[cc]) (MS _) ?_;have b:=xX (S:=S) W m f e (W.a8 r (eG f) l (eG e)).1 c.aQ c.args;have n:=W.code r (eG f) l (eG e);simp only[cc,MW,List.map_nil,Mg,List.sum_nil];generalize t:fh (qF w S) (l7 w c.name (H5 w.heap c.aQ)).1 (l7 w c.name (H5 w.heap c.aQ)).2 l c.aQ c.args=p at b⊢;have jG:p.aH=0:=by rw[<-t];unfold fh;split<;>rfl
   unfold Z7;rw[jG];have s:p.code.length<=240:=by
    cases b with
    |same y=>rw[pY (fun _ _=>rfl)];simp only;omega
    |aV j=>exact(j.dn W).1
   split<;>omega
def Kj {N:Nat} {gl:St->Int->ByteArray->Option (Int×Int)} {gq:Int->Int->Option (Fs×Bool)} (e:4194304<=N) (d:D7 w) (b:I5 N w)
  (f:∀s k n,gl s k n=some (l7 w n k)) (o:∀k j x m,j4 w.a7 k=some x->j4 x.aC j=some m->gq k j=some (qF w S k j)) (c:O9):∃r,iK N w c fuel gl gq=some r/\iV w c fuel cH r:=by
 by_cases a:M4 w c fuel=0
 ·have W:=b.od e d;have i:=Cr e d b;have l:0<w.a7.length:=by have:=b.many.1;omega
  obtain⟨h1,h2,h3,H,h5,h6⟩:=qp a;obtain⟨D,h,b2,b3,b4,b5,C⟩:=vL (Q:=cH) e d b (fun _ _=>rfl) c a;obtain⟨s,s1,X⟩:=Dg (fuel:=fuel) (Q:=cH) (gl:=gl) (gq:=fun _ _=>some (cH 0 0)) e d b (fun _ _=>rfl) f (fun k j x m _ _=>rfl) c;rcases X with⟨M,_⟩|⟨_,d1,c',e1,q,t,e4⟩
  ·exact absurd a M
  ·rw[h] at e1;cases e1;obtain⟨B,T,u,U,V⟩:=IJ (S:=S) W i c H h;obtain⟨A,v,g,z⟩:=Jd W l i q t u (fun _=>.out u U) C;obtain⟨Z,O,P,p3,R⟩:=DL (L:=fun _ k s=>l7 w s k) (Q:=qF w S) e d b.ct f o (fun x=>∃y,cw w fuel (fun _ k s=>l7 w s k) (qF w S) x y/\y.done) (fun x J I p=>by
    obtain⟨y,K,hd⟩:=J;cases K with
    |refl=>rcases hd with hd|hd;exact absurd I hd;exact absurd hd p
    |@step _ Y _ _ _ g1 E F G=>exact⟨g1,Y,E,F,fun _=>⟨y,G,hd⟩⟩) W.a8 (CO (N:=N) W i) c a B T (fun _=>⟨A,v,z⟩) V
   have:=Path.mK O P v.path z;subst this;refine⟨_,R,.inr ⟨a,D,c',h,q,t,?_⟩⟩;unfold hB;rw[g.err,g.heap,g.back,g.sends]
 ·exact⟨_,AY d c a,.inl ⟨a,rfl⟩⟩
end
def d17 (w:Wd) (S:Int->Int->List Int) (l:List Fs):Prop:=∀f∈l,∃(c j:Nat) (x:Cl) (m:Me),w.a7[c]?=some x/\x.aC[j]?=some m/\(qF w S c j).2=true/\f=(qF w S c j).1
def yA {w:Wd} {S:Int->Int->List Int} {k j:Int} {x:Cl} {m:Me} (c:j4 w.a7 k=some x) (b:j4 x.aC j=some m) (h:(qF w S k j).2=true):(qF w S k j).1.cls=k/\(qF w S k j).1.name=m.name/\(qF w S k j).1.aB=w.aB:=by
 rw[vj c b] at h⊢;split at h
 ·rename_i a;rw[N6 a];exact⟨rfl,rfl,rfl⟩
 ·cases h
def Jq {w:Wd} {S:Int->Int->List Int} {k j:Int} {x:Cl} {m:Me} (c:j4 w.a7 k=some x) (b:j4 x.aC j=some m) (h:(qF w S k j).2=false):qF w S k j=(⟨0,BY,0,0,[]⟩,false):=by
 rw[vj c b] at h⊢;split at h
 ·cases h
 ·rename_i a;rw[N5 a]
def Jf {ms:List Me} (h:dK ms) {i j:Nat} {a b:Me} (g:ms[i]?=some a) (k:ms[j]?=some b) (d:a.name=b.name):i=j:=by
 obtain⟨hi,rfl⟩:=MI.1 g;obtain⟨e,rfl⟩:=MI.1 k;have f:=List.pairwise_iff_getElem.1 h;rcases Nat.lt_trichotomy i j with c|c|c
 ·have:=f i j hi e c;rw[d,jk] at this;cases this
 ·exact c
 ·have:=f j i e hi c;rw[d,jk] at this;cases this
theorem d17.one {w:Wd} {S:Int->Int->List Int} {l:List Fs} (t:dT w) (h:d17 w S l) {k j:Int} {x:Cl} {m:Me} (e:j4 w.a7 k=some x) (s:j4 x.aC j=some m) {f:Fs} (q:f∈l) (d:f.cls=k) (p:f.name=m.name):qF w S k j=(f,true):=by
 obtain⟨c,i,y,n,e1,a,b,rfl⟩:=h f q;obtain⟨g,o,v⟩:=yA (k:=(c:Int)) (j:=(i:Int)) (by rw[D5];exact e1) (by rw[D5];exact a) b;rw[g] at d;subst d;rw[D5,e1] at e;cases e;obtain⟨z,u⟩:=l6 s;have:=Jf (t x (MT e1)) a u (by rw[<-o,p]);have r:j=(i:Int):=d9;rw[r,<-b]
theorem Ch {N:Nat} {w:Wd} {t:List Tl} {c:Nat}:∀(r:List Me) (k:Nat) (f:Fs),f∈cm N w t c r k↔∃(i:Nat) (m:Me),r[i]?=some m/\(qF w (gJ N w t) c ((k+i:Nat):Int)).2=true/\f=(qF w (gJ N w t) c ((k+i:Nat):Int)).1
 |[],k,f=>by simp[cm]
 |x::r,k,f=>by
  rw[cm,MY,Ch r (k+1) f];constructor
  ·rintro(h|⟨i,m,d,a,b⟩)
   ·unfold nr at h;split at h
    ·rename_i g;exact⟨0,x,rfl,g,Ml.1 h⟩
    ·cases h
   ·exact⟨i+1,m,by simpa using d,by rw[show k+(i+1)=k+1+i by omega];exact a,by rw[show k+(i+1)=k+1+i by omega];exact b⟩
  ·rintro⟨i,m,d,a,b⟩;cases i with
   |zero =>
    left;have e:(jo w (c:Int) (k:Int) (gJ N w t c k)).2=true:=a;unfold nr;rw[N6 e];exact Ml.2 b
   |succ i=>exact .inr ⟨i,m,by simpa using d,by rw[show k+1+i=k+(i+1) by omega];exact a,by rw[show k+1+i=k+(i+1) by omega];exact b⟩
theorem xy {N:Nat} {w:Wd} {t:List Tl}:∀(r:List Cl) (c:Nat) (f:Fs),f∈gr N w t r c↔∃(k:Nat) (x:Cl) (i:Nat) (m:Me),r[k]?=some x/\x.aC[i]?=some m/\(qF w (gJ N w t) ((c+k:Nat):Int) i).2=true/\f=(qF w (gJ N w t) ((c+k:Nat):Int) i).1
 |[],c,f=>by simp[gr]
 |x::r,c,f=>by
  rw[gr,MY,Ch,xy r (c+1) f];constructor
  ·rintro(⟨i,m,d,a,b⟩|⟨k,y,i,m,e,d,a,b⟩)
   ·rw[Mm] at a b;exact⟨0,x,i,m,rfl,d,a,b⟩
   ·exact⟨k+1,y,i,m,by simpa using e,d,by rw[show c+(k+1)=c+1+k by omega];exact a,by rw[show c+(k+1)=c+1+k by omega];exact b⟩
  ·rintro⟨k,y,i,m,e,d,a,b⟩;cases k with
   |zero =>
    left;cases e;exact⟨i,m,d,by rw[Mm];exact a,by rw[Mm];exact b⟩
   |succ k=>exact .inr ⟨k,y,i,m,by simpa using e,d,by rw[show c+1+k=c+(k+1) by omega];exact a,by rw[show c+1+k=c+(k+1) by omega];exact b⟩
def IG (N:Nat) (w:Wd) (t:List Tl):d17 w (gJ N w t) (gr N w t w.a7 0):=fun f e=>by
 obtain⟨k,x,i,m,c,d,a,b⟩:=(xy w.a7 0 f).1 e;rw[Mm] at a b;exact⟨k,i,x,m,c,d,a,b⟩
theorem zS {N:Nat} {w:Wd} {S:Int->Int->List Int} (r:dT w) {k j:Int} {x:Cl} {m:Me} (n:j4 w.a7 k=some x) (d:j4 x.aC j=some m):∀(l:List Fs) (i:Nat),d17 w S l ->
  lK N k j w l i=some (.ret (qF w S k j))\/(lK N k j w l i=some (.next ())/\∀f∈l,¬(f.cls=k/\f.name=m.name))
 |[],i,_=>.inr ⟨rfl,fun f s=>by cases s⟩
 |f::l,i,h=>by
  have ih:=zS (N:=N) r n d l (i+1) fun g a=>h g (by simp[a]);rw[lK];by_cases b:f.cls=k
  ·rw[ND b];simp only[N3,n,d,A0];by_cases c:f.name=m.name
   ·have e:=h.one r n d l9 b c;obtain⟨t,u,o⟩:=yA n d (by rw[e]);rw[e] at o;simp only at o;rw[ND c,ND o];left;rw[e];rfl
   ·rw[NC c];rcases ih with ih|⟨ih,q⟩
    ·exact .inl ih
    ·exact .inr ⟨ih,fun g a=>by
      rcases MJ.1 a with rfl|a
      ·exact fun p=>c p.2
      ·exact q g a⟩
  ·rw[NC b];rcases ih with ih|⟨ih,q⟩
   ·exact .inl ih
   ·exact .inr ⟨ih,fun g a=>by
     rcases MJ.1 a with rfl|a
     ·exact fun p=>b p.1
     ·exact q g a⟩
def Gy {N:Nat} {w:Wd} {t:List Tl} (l:dT w) {k j:Int} {x:Cl} {m:Me} (b:j4 w.a7 k=some x) (a:j4 x.aC j=some m):pP N k j (gr N w t w.a7 0) w=some (qF w (gJ N w t) k j):=by
 unfold pP;rcases zS (N:=N) l b a (gr N w t w.a7 0) 0 (IG N w t) with h|⟨h,i⟩
 ·rw[h];rfl
 ·rw[h];cases c:(qF w (gJ N w t) k j).2 with
  |false=>rw[Jq b a c];rfl
  |true =>
   obtain⟨f,g,_⟩:=yA b a c;obtain⟨e,o⟩:=l6 b;obtain⟨d,n⟩:=l6 a;refine absurd ⟨f,g⟩ (i _ ((xy w.a7 0 _).2 ⟨k.toNat,x,j.toNat,m,o,n,?_,?_⟩))
   ·rw[Mm,Int.toNat_of_nonneg e,Int.toNat_of_nonneg d];exact c
   ·rw[Mm,Int.toNat_of_nonneg e,Int.toNat_of_nonneg d]
theorem cd.heap {w:Wd} {H:List Ob} {l:List Ce} (h:cd w l):cd ⟨w.a7,H,w.aB⟩ l:=by
 intro c e f y g;obtain⟨n,a,b,d⟩:=h c e f y g;exact⟨n,a,by rw[Ab];exact b,by rw[Ab];exact d⟩
structure SI (N:Nat) (E:Int) (z:Nat) (s:Q7):Prop where
 right:I5 N s.world
 small:D7 s.world
 ep:s.world.aB<=E
 cells:cd s.world s.cells
 jE:∀c∈s.cells,c.aB<=s.world.aB
 sz:k7 z ⟨⟨[],[],0⟩,⟨⟨0,0⟩,0,0⟩,s.cells,s.aX,0,0⟩
 saved:s.saved=[]\/∃w0,I5 N w0/\D7 w0/\w0.aB<=E/\s.saved=U (da w0)
section
variable {N:Nat} {E:Int} {z:Nat} {s:Q7}
theorem SI.more (h:SI N E z s) {g:Int} {i:Nat} (k:E<=g) (e:z<=i):SI N g i s :=
 ⟨h.right,h.small,by have:=h.ep;omega,h.cells,h.jE,⟨Nat.le_trans h.sz.1 e,fun x f=>Nat.le_trans (h.sz.2.1 x f) e,Nat.le_trans h.sz.2.2.1 e,fun x f=>Nat.le_trans (h.sz.2.2.2 x f) e⟩,
  h.saved.imp id fun⟨j,a,b,c,d⟩=>⟨j,a,b,d9,d⟩⟩
theorem SI.len (c:4194304<=N) (h:SI N E z s):s.saved.length<=1000000:=by
 rcases h.saved with e|⟨d,a,b,_,e⟩
 ·rw[e];simp
 ·rw[e,fS];exact(Bf c b a).2
def L2 (a:4194304<=N) (h:SI N E z s) (d:z<=1099511627000):pD N s=some s:=by
 have hl:=h.len a;unfold pD wM;rw[ic N _ h.small,w8 N ⟨by have:=h.sz.1;simp only at this;omega,fun x c=>by have:=h.sz.2.1 x c;omega⟩,BF N (fun t b=>by have:=h.sz.2.2.2 t b;omega) (by have:=h.sz.2.2.1;simp only at this;omega),
  show IN (s.saved.length*1) 140737488355328=true from Nat.ble_eq_true_of_le d9]
 rfl
def C6 {w:Wd} (f:4194304<=N) (e:D7 w) (a:I5 N w) {c:O9} {q:Wd×dz} (h:iV w c 400 cH q):I5 N q.1/\D7 q.1/\(∀l,cd w l->cd q.1 l)/\q.1.aB=w.aB/\(q.2.err≠0->q.1=w):=by
 obtain⟨f1,g⟩:=Ii f e a h;by_cases b:q.2.err=0
 ·obtain⟨_,_,_,_,i,e1,_⟩:=f1 b;have:=a.other f e i a.aB;rw[e1];exact⟨this.1,this.2,fun l hl=>hl.heap,rfl,fun d=>absurd b d⟩
 ·rw[(g b).1];exact⟨a,e,fun l hl=>hl,rfl,fun _=>rfl⟩
theorem CT {w:Wd}:∀{ev:List (St×Int)} {sb:D6},(∀c∈sb.cells,c.aB<=w.aB)->∀c∈(ev.foldl (iN w) sb).cells,c.aB<=w.aB
 |[],_,h=>h
 |e::ev,sb,h=>by
  rw[List.foldl_cons];refine CT fun c a=>?_;simp only[iN,iG] at a;split at a
  ·exact h c a
  split at a
  ·exact h c a
  ·rcases vI a with a|⟨y,_,_,rfl⟩
   ·exact h c a
   ·rw[(Bz _ _ _ _).2];exact MS _
def Kh (o:4194304<=N) (h:SI N E z s) (R:z<=1099511627000) {k:Int} (O:k=4\/k=5\/k=6) (c:O9):∃t q,rX N s k c=some (⟨q.2.err,q.2.sends,q.2.value⟩,t)/\iV s.world c 400 cH q/\t.world=q.1/\t.saved=s.saved/\SI N E (z+401) t/\(k≠5->t.cells=s.cells/\t.aX=s.aX):=by
 have a:=h.right;have i:=h.small;have d:∀{q:Wd×dz} {l:List Ce} {ts:List Tl},iV s.world c 400 cH q->cd s.world l->(∀c∈l,c.aB<=s.world.aB)->k7 (z+401) ⟨⟨[],[],0⟩,⟨⟨0,0⟩,0,0⟩,l,ts,0,0⟩->SI N E (z+401) ⟨q.1,l,ts,s.saved⟩:=fun {q l ts} y J K L=>by
  obtain⟨G,H,I,C,_⟩:=C6 o i a y;exact⟨G,H,by simp only;rw[C];exact h.ep,I _ J,fun c M=>by simp only;rw[C];exact K c M,L,h.saved⟩
 have p:=(h.more (MS _) (Nat.le_add_right z 401)).sz;unfold rX;rcases O with rfl|rfl|rfl
 ·obtain⟨q,u,b⟩:=HO o i a c 400;refine⟨⟨q.1,s.cells,s.aX,s.saved⟩,q,?_,b,rfl,rfl,d b h.cells h.jE p,fun _=>⟨rfl,rfl⟩⟩;simp only[NA,N3,u,A0]
 ·obtain⟨q,ev,sb,u,b,A,Q,T⟩:=Ig o i a c (fuel:=400) s.cells s.aX _ h.sz d9 h.cells;obtain⟨v,D⟩:=wb a.ct Q h.sz h.cells;have F:=CT (w:=s.world) (ev:=ev) (sb:=⟨⟨[],[],0⟩,⟨⟨0,0⟩,0,0⟩,s.cells,s.aX,0,0⟩) h.jE;rw[<-A] at v D F;refine⟨⟨q.1,sb.cells,sb.aX,s.saved⟩,q,?_,b.fN,rfl,rfl,d b.fN D F ⟨by have:=v.1;simp only;omega,fun x r=>by have:=v.2.1 x r;omega,by have:=v.2.2.1;simp only;omega,fun x r=>by have:=v.2.2.2 x r;omega⟩,fun e=>absurd rfl e⟩;rw[NC (show¬(5:Int)=4 by decide)];simp only[NA,N3,N4,u,A0]
 ·obtain⟨q,u,b⟩:=Kj (fuel:=400) (S:=gJ N s.world s.aX) (gl:=fun f g B=>pH N f g B s.world) (gq:=fun f g=>pP N f g (gr N s.world s.aX s.world.a7 0) s.world) o i a (fun st k n=>by
   show pH N st k n s.world=_;unfold pH;rw[lM N s.world k n d9 a.ct i];rfl) (fun k j x m r P=>Gy a.ct r P) c
  have y:rL N s.world c 400 (gr N s.world s.aX s.world.a7 0)=some q:=by
   unfold rL;rw[u];rfl
  refine⟨⟨q.1,s.cells,s.aX,s.saved⟩,q,?_,b,rfl,rfl,d b h.cells h.jE p,fun _=>⟨rfl,rfl⟩⟩;rw[NC (show¬(6:Int)=4 by decide),NC (show¬(6:Int)=5 by decide)];simp only[N4,HV N o s.world i a s.aX,y,A0]
end
def Ie {w w':Wd} (l:∀(j:Nat) x,w.a7[j]?=some x->w'.a7[j]?=some x) (d:∀(j:Nat) x,w.a7[j]?=some x->x.aR<j) (s:ByteArray):∀(c:Nat),c<w.a7.length->∀n a,c<n->c<a->X3 w' s a (c:Int)=X3 w s n (c:Int):=by
 intro c
 induction c using Nat.strongRecOn with
 |ind c ih =>
  intro o n a t p;obtain⟨n,rfl⟩:∃m,n=m+1:=⟨n-1,d9⟩;obtain⟨a,rfl⟩:∃m,a=m+1:=⟨a - 1,d9⟩;have f:=IS o;have r:=d c _ f;rw[X3,X3,N6 (Int.natCast_nonneg c),N6 (Int.natCast_nonneg c),Mk,l _ _ f,f];simp only;cases bJ s (w.a7[c]).aC with
  |some i=>rfl
  |none =>
   simp only;rcases Int.lt_or_le (w.a7[c]).aR 0 with g|b
   ·have h:∀(v:Wd) (k:Nat),X3 v s k (w.a7[c]).aR=none:=fun v k=>by
     cases k with
     |zero=>rfl
     |succ k=>rw[X3,N5 d9]
    rw[h,h]
   ·obtain⟨q,e⟩:=Int.eq_ofNat_of_zero_le b;rw[e] at r⊢;exact ih q d9 d9 n a d9 d9
theorem cd.more {w w':Wd} (p:∀(j:Nat) x,w.a7[j]?=some x->w'.a7[j]?=some x) (hl:w.a7.length<=w'.a7.length) (b:∀(j:Nat) x,w.a7[j]?=some x->x.aR<j) (F:w'.aB=w.aB) {l:List Ce} (h:cd w l):cd w' l:=by
 intro c D e y G;obtain⟨n,⟨x,m,i,j,t,u,v,A,B⟩,a,C⟩:=h c D (by rw[<-F];exact e) y G;have g:∀{k:Int} {x:Cl},j4 w.a7 k=some x->j4 w'.a7 k=some x:=fun {k x} d=>by
  obtain⟨H,I⟩:=l6 d;obtain⟨q,rfl⟩:=Int.eq_ofNat_of_zero_le H;rw[D5] at d⊢;exact p _ _ d
 have r:l7 w' n y.cls=l7 w n y.cls:=by
  rcases Int.lt_or_le y.cls 0 with o|o
  ·unfold l7 at a;rw[X3,N5 d9] at a;exact absurd (show(0:Int)<=-1 from a) G7
  ·obtain⟨q,e⟩:=Int.eq_ofNat_of_zero_le o;rcases Nat.lt_or_ge q w.a7.length with f|f
   ·rw[e];unfold l7;rw[Ie p b n q f (w.a7.length+1) (w'.a7.length+1) d9 d9]
   ·unfold l7 at a;rw[e,X3,N6 (Int.natCast_nonneg q),Mk,Mi f] at a;exact absurd (show(0:Int)<=-1 from a) G7
 exact⟨n,⟨x,m,i,j,g t,u,v,A,B⟩,by rw[r];exact a,by rw[r];exact C⟩
theorem cd.later {w w':Wd} {l:List Ce} (h:∀c∈l,c.aB<=w.aB) (b:w.aB<w'.aB):cd w' l:=fun c a e=>by
 have:=h c a;omega
def gQ : V:=⟨0,0⟩
def d23 (N:Nat) (w:Wd) (a:List Int) (x:O4):Wd×List Int×dS :=
 if x.kind=1 then(if(gv w x.name x.aI x.aG).2.2=0 then((gv w x.name x.aI x.aG).1,a,⟨0,(gv w x.name x.aI x.aG).2.1,gQ⟩) else(w,a,⟨(gv w x.name x.aI x.aG).2.2,0,gQ⟩))
 else if x.kind=2 then(match aj N w x.aI x.aK with
  |none=>(w,a,⟨0,0,gQ⟩)
  |some f=>if f.err=0 then(if(iO w x.aI x.aK).2=0 then((iO w x.aI x.aK).1,a,⟨0,0,gQ⟩) else(w,a,⟨(iO w x.aI x.aK).2,0,gQ⟩)) else(w,a,⟨f.err,f.aH,gQ⟩))
 else if x.kind=3 then(if x.aI≠0/\(x.aI<4\/(w.a7.length:Int)<=x.aI) then(w,a,⟨6,0,gQ⟩) else if 60<=w.heap.length then(w,a,⟨15,0,gQ⟩)
  else(⟨w.a7,w.heap++[⟨x.aI,MM (p8 w x.aI).toNat ⟨0,0⟩⟩],w.aB⟩,a,⟨0,(w.heap.length:Int),⟨4,(w.heap.length:Int)⟩⟩))
 else if x.kind=7 then(w,U (da w),⟨0,((U (da w)).length:Int),gQ⟩)
 else if x.kind=8 then(if a.length=0 then(w,a,⟨6,0,gQ⟩) else match lW N a with
  |none=>(w,a,⟨0,0,gQ⟩)
  |some p=>if p.2=0 then(⟨p.1.a7,p.1.heap,max p.1.aB w.aB+1⟩,a,⟨0,0,gQ⟩) else(w,a,⟨p.2,0,gQ⟩))
 else(w,a,⟨1,0,gQ⟩)
def dh (k:Int):Prop:=k=4\/k=5\/k=6
instance (k : Int):Decidable (dh k):=by unfold dh;infer_instance
def DR (N:Nat) (w:Wd) (b:List Int) (x:O4) (w':Wd) (a:List Int) (r:dS):Prop :=
 if dh x.kind then∃q,iV w x.call 400 cH q/\r=⟨q.2.err,q.2.sends,q.2.value⟩/\w'=q.1/\a=b else(w',a,r)=d23 N w b x
section
variable {N:Nat} {E:Int} {z:Nat} {s:Q7} {x:O4}
def KF (e:4194304<=N) (h:SI N E z s) (c:Int) (l:¬(c≠0/\(c<4\/(s.world.a7.length:Int)<=c))) (m:¬60<=s.world.heap.length) :
  ja N s.world.heap c (p8 s.world c)=some (s.world.heap++[⟨c,MM (p8 s.world c).toNat ⟨0,0⟩⟩],⟨4,(s.world.heap.length:Int)⟩,0)/\SI N E z ⟨⟨s.world.a7,s.world.heap++[⟨c,MM (p8 s.world c).toNat ⟨0,0⟩⟩],s.world.aB⟩,s.cells,s.aX,s.saved⟩:=by
 have b:=h.right;have d:=h.small;have n:=b.many;have W:=b.od e d;have k:=W.aG c;have j:=Dx W (x5 b) d9 (a:=c) d9 d9;have f:=b.other e d j b.aB;refine⟨?_,f.1,f.2,h.ep,h.cells.heap,h.jE,h.sz,h.saved⟩;unfold ja;have e1:max (p8 s.world c) 0=p8 s.world c:=d9;rw[NC (show¬(60:Int)<=(s.world.heap.length:Int) by omega),ra N d.2.2.2 d.2.1,e1];have g:(decide (0<=p8 s.world c) && decide (p8 s.world c<=140737488355328) && decide (p8 s.world c*16<=140737488355328))=true:=by
  simp only[IT,NF];omega
 have i:IN ((s.world.heap.length+[(⟨c,MM (p8 s.world c).toNat (⟨0,0⟩:V)⟩:Ob)].length)*32) 140737488355328=true:=Nat.ble_eq_true_of_le (by simp only[Mz];omega);simp only[N4,A0,g,N3,i]
def E6 (b:4194304<=N) (h:SI N E z s) (hE:E<=1000000) (hz:z<=1099511000000) (u:x.aK.code.length<=1048576):∃t r,pI N s x=some (t,r)/\SI N (E+1) (z+401) t/\DR N s.world s.saved x t.world t.saved r:=by
 have a:=h.right;have d:=h.small;have hm:=a.many;have R:=h.ep;have L:=a.aB;have H:=h.more (show E<=E+1 by omega) (Nat.le_add_right z 401);unfold pI DR;rw[L2 b h d9];simp only[A0];by_cases i:dh x.kind
 ·obtain⟨t,q,T,U,V,W,X,_⟩:=Kh b h d9 i x.call;have m:¬x.kind=1:=by unfold dh at i;omega
  have n:¬x.kind=2:=by unfold dh at i;omega
  have o:¬x.kind=3:=by unfold dh at i;omega
  refine⟨t,⟨q.2.err,q.2.sends,q.2.value⟩,?_,X.more d9 (It _),by rw[N6 i];exact⟨q,U,rfl,V,W⟩⟩;rw[NC m,NC n,NC o];simp only[N4,T,A0];rcases i with e|e|e<;>simp[e]
 simp only[N5 i];unfold d23;unfold dh at i;by_cases m:x.kind=1
 ·rw[ND m,N6 m,H3 N s.world _ _ _ d9 d (p6 a)];simp only[N3,A0];by_cases e:(gv s.world x.name x.aI x.aG).2.2=0
  ·obtain⟨F,G,k,Y⟩:=AQ b d a e;rw[ND e,N6 e];simp only[MK,N4];refine⟨_,_,rfl,⟨F,G,?_,?_,?_,H.sz,H.saved⟩,rfl⟩
   ·simp only[k];omega
   ·refine cd.more (w:=s.world) (fun j y O=>?_) Y.len a.sup (by simp only[k]) h.cells;simp only[k];rw[Mu (MI.1 O).1];exact O
   ·simp only[k];exact h.jE
  ·rw[NC e,N5 e];simp only[MU,N3];exact⟨_,_,rfl,H,rfl⟩
 rw[NC m,N5 m];by_cases n:x.kind=2
 ·rw[ND n,N6 n];unfold uW;obtain⟨f,M⟩:=wv N s.world x.aI x.aK b;rw[Az N s.world _ _ d9 d.1,M];simp only[N4,N3,A0];by_cases e:f.err=0
  ·rw[ND e,N6 e,GB N s.world _ _ d9 d a.ct u];simp only[MK,N4,A0];by_cases l:(iO s.world x.aI x.aK).2=0
   ·obtain⟨F,G,k⟩:=Ad b d a M e d9 l;rw[ND l,N6 l];simp only[N3,A0,l];exact⟨_,_,rfl,⟨F,G,by simp only[k];omega,cd.later h.jE (by simp only[k];omega),fun c u=>by have:=h.jE c u;simp only[k];omega,H.sz,H.saved⟩,rfl⟩
   ·rw[NC l,N5 l];simp only[N4,A0];exact⟨_,_,rfl,H,rfl⟩
  ·rw[NC e,N5 e];simp only[MU,N3,A0];exact⟨_,_,rfl,H,rfl⟩
 rw[NC n,N5 n];by_cases o:x.kind=3
 ·rw[ND o,N6 o];unfold ue;have e1:((bif (!decide (x.aI=(0:Int))) then(bif decide (x.aI<(4:Int)) then some (true) else some (decide ((s.world.a7.length:Int)<=x.aI))) else some (false)):Option Bool)=some (decide (x.aI≠0/\(x.aI<4\/(s.world.a7.length:Int)<=x.aI))):=by
   by_cases g1:x.aI=0
   ·simp[g1]
   ·by_cases p:x.aI<4<;>simp[g1,p]
  rw[e1];simp only[N4,N3,A0];by_cases g:x.aI≠0/\(x.aI<4\/(s.world.a7.length:Int)<=x.aI)
  ·rw[ND g,N6 g];simp only[N3,A0];exact⟨_,_,rfl,H,rfl⟩
  rw[NC g,N5 g];simp only[N4,oq N s.world _ d9 d.1,A0];by_cases p:60<=s.world.heap.length
  ·rw[N6 p];have:ja N s.world.heap x.aI (p8 s.world x.aI)=some ([],⟨0,0⟩,15):=by
    unfold ja;rw[ND (show(60:Int)<=(s.world.heap.length:Int) by omega)];rfl
   rw[this];exact⟨_,_,rfl,H,rfl⟩
  ·rw[N5 p];obtain⟨Z,v2⟩:=KF b h x.aI g p;rw[Z];exact⟨_,_,rfl,v2.more d9 (Nat.le_add_right z 401),rfl⟩
 rw[NC o,N5 o,NC (show¬x.kind=4 by omega),NC (show¬x.kind=5 by omega),NC (show¬x.kind=6 by omega)];simp only[N4,A0];by_cases B:x.kind=7
 ·obtain⟨s1,P⟩:=CW b d a;rw[ND B,N6 B,s1];simp only[N3,A0];exact⟨_,_,rfl,⟨a,d,H.ep,h.cells,h.jE,H.sz,.inr ⟨s.world,a,d,H.ep,rfl⟩⟩,rfl⟩
 rw[NC B,N5 B];by_cases C:x.kind=8
 ·rw[ND C,N6 C];unfold uf;simp only[N4,N3];rcases h.saved with e|⟨v,A,I,a3,e⟩
  ·rw[e];exact⟨_,_,rfl,H,by simp only[Mt,if_true];rw[e];rfl⟩
  ·have D:¬s.saved.length=0:=fun J=>by
    rw[e,fS] at J;exact Dt v (Mo J)
   obtain⟨_,P⟩:=CW b I A;have Q:=A.aB;have S:wr (max v.aB s.world.aB+1)=max v.aB s.world.aB+1:=u7 ino;have K:=A.other b I (x5 A) (e:=max v.aB s.world.aB+1) d9;rw[NC (show¬(s.saved.length:Int)=0 by omega),N5 D];rw[show lW N s.saved=some (v,0) by rw[e];exact P];simp only[N4,A0,NA,MK,S,if_true];exact⟨_,_,rfl,⟨K.1,K.2,bK,cd.later h.jE bK,fun c u=>by have:=h.jE c u;simp only;omega,H.sz,H.saved⟩,rfl⟩
 rw[NC C,N5 C];exact⟨_,_,rfl,H,rfl⟩
end
def EO (x y:O4):Prop:=y=x\/(dh x.kind/\∃k,dh k/\y=⟨k,x.name,x.aI,x.aG,x.aK,x.call⟩)
theorem DR.mK {N:Nat} {w:Wd} {sv:List Int} {x y:O4} {i j:Wd} {s1 h:List Int} {f g:dS} (l:EO x y) (d:DR N w sv x i s1 f) (a:DR N w sv y j h g):i=j/\s1=h/\f=g:=by
 have call:dh x.kind->dh y.kind->y.call=x.call->i=j/\s1=h/\f=g:=fun b c e=>by
  unfold DR at d a;rw[N6 b] at d;rw[N6 c,e] at a;obtain⟨q,t,u,v,z⟩:=d;obtain⟨p,m,n,o,s⟩:=a;have:=t.mK m;subst this;exact⟨by rw[v,o],by rw[z,s],by rw[u,n]⟩
 rcases l with rfl|⟨b,k,c,rfl⟩
 ·by_cases b:dh y.kind
  ·exact call b b rfl
  ·unfold DR at d a;rw[N5 b] at d a;rw[<-d] at a;simp only[Prod.mk.injEq] at a;exact⟨a.1.symm,a.2.1.symm,a.2.2.symm⟩
 ·exact call b c rfl
section
variable {N:Nat} {w:Wd} {sv:List Int} {x:O4} {w':Wd} {sv':List Int} {r:dS}
theorem DR.fN (h:DR N w sv x w' sv' r) (c:4194304<=N) (b:I5 N w) (d:D7 w):w.aB<=w'.aB/\(r.err≠0->w'=w)/\(x.kind≠7->sv'=sv):=by
 unfold DR at h;by_cases i:dh x.kind
 ·rw[N6 i] at h;obtain⟨q,m,rfl,rfl,rfl⟩:=h;obtain⟨_,_,_,o,j⟩:=C6 c d b m;exact⟨d9,j,fun _=>rfl⟩
 ·rw[N5 i] at h;have p:=b.aB;unfold d23 at h;split at h
  ·split at h
   ·rename_i e;obtain⟨_,_,n,_⟩:=AQ c d b e;cases h;exact⟨by rw[n];exact MS _,fun e=>absurd rfl e,fun _=>rfl⟩
   ·cases h;exact⟨MS _,fun _=>rfl,fun _=>rfl⟩
  split at h
  ·split at h
   ·cases h;exact⟨MS _,fun _=>rfl,fun _=>rfl⟩
   ·rename_i f k;split at h
    ·rename_i e;split at h
     ·rename_i a;cases h;refine⟨?_,fun e=>absurd rfl e,fun _=>rfl⟩;rcases Int.lt_or_le w.aB 1073741824 with g|g
      ·have:=(Ad c d b k e g a).2.2;omega
      ·unfold iO at a⊢;split
       ·split
        ·simp[*] at a
        ·split
         ·simp[*] at a
         ·simp only;rw[u7 ino];omega
       ·simp[*] at a
     ·cases h;exact⟨MS _,fun _=>rfl,fun _=>rfl⟩
    ·cases h;exact⟨MS _,fun _=>rfl,fun _=>rfl⟩
  split at h
  ·split at h
   ·cases h;exact⟨MS _,fun _=>rfl,fun _=>rfl⟩
   split at h
   ·cases h;exact⟨MS _,fun _=>rfl,fun _=>rfl⟩
   ·cases h;exact⟨MS _,fun e=>absurd rfl e,fun _=>rfl⟩
  split at h
  ·rename_i l;cases h;exact⟨MS _,fun _=>rfl,fun e=>absurd l e⟩
  split at h
  ·split at h
   ·cases h;exact⟨MS _,fun _=>rfl,fun _=>rfl⟩
   split at h
   ·cases h;exact⟨MS _,fun _=>rfl,fun _=>rfl⟩
   split at h
   ·cases h;exact⟨bK,fun e=>absurd rfl e,fun _=>rfl⟩
   ·cases h;exact⟨MS _,fun _=>rfl,fun _=>rfl⟩
  ·cases h;exact⟨MS _,fun _=>rfl,fun _=>rfl⟩
end
def d29 : Q7:=⟨N8,[],[],[]⟩
def LH (N:Nat) (e:4194304<=N):re N=some d29/\SI N 0 0 d29:=by
 refine⟨rfl,?_⟩;have f:nG N N8=some 0:=by rw[BT N N8 e uD];exact IM N
 obtain⟨r,d,g⟩:=d57 N N8 e uD;rw[f] at d;cases d;exact⟨g rfl,uD,MS _,(fun c a=>by cases a),(fun c a=>by cases a),⟨It _,(fun x b=>by cases b),It _,(fun x b=>by cases b)⟩,.inl rfl⟩
def ID {l:List O4} {b:Nat} (h:dX iL l<=b):∀x∈l,x.aK.code.length<=b:=fun x c=>by
 have d:=K4 (bk:=iL) c;have f:=yC (bk:=lf) (fun a=>d90 a) x.aK.code;have e:dX lf x.aK.code<=iL x:=by unfold iL d47;omega
 omega
def fj : List O4->List O4->Prop
 |[],[]=>True
 |x::l,y::m=>EO x y/\fj l m
 |_,_=>False
theorem fj.len : ∀{l m:List O4},fj l m->m.length=l.length
 |[],[],_=>rfl
 |_::_,_::_,h=>by rw[MO,MO,fj.len h.2]
 |[],_::_,h=>h.elim
 |_::_,[],h=>h.elim
theorem fj.refl : ∀l:List O4,fj l l
 |[]=>trivial
 |x::l=>⟨.inl rfl,fj.refl l⟩
theorem fj.set {k:Int} (d:dh k):∀{l m:List O4} (i:Nat) {x:O4},fj l m->m[i]?=some x->dh x.kind->fj l (m.set i ⟨k,x.name,x.aI,x.aG,x.aK,x.call⟩)
 |a::l,b::m,0,x,h,c,hc=>by
  cases c;refine⟨.inr ?_,h.2⟩;rcases h.1 with rfl|⟨e,g,f,rfl⟩
  ·exact⟨hc,k,d,rfl⟩
  ·exact⟨e,k,d,rfl⟩
 |a::l,b::m,i+1,x,h,c,hc=>⟨h.1,fj.set d i h.2 (by simpa using c) hc⟩
 |[],[],i,x,h,c,_=>by simp at c
 |[],_::_,_,_,h,_,_=>h.elim
 |_::_,[],_,_,h,_,_=>h.elim
theorem pf (N:Nat) (a:List Int) (e:a.length<=1048576) (l:List O4) (hl:l.length<=1048576):∀(n k:Nat) (v:List O4) (c:Int),fj l v->n+k=l.length->0<=c->c<=k->∃m,X7 N a n k v c=some m/\fj l m
 |0,k,v,c,d,_,_,_=>⟨v,rfl,d⟩
 |n+1,k,v,c,d,z,h,w=>by
  have o:=d.len;obtain⟨x,p⟩:∃x,v[k]?=some x:=⟨_,IS d9⟩;have b:wr (c+1)=c+1:=u7 ino;rw[X7];simp only[D5,p,A0];have e1:((bif decide (x.kind=(4:Int)) then some (true) else(bif decide (x.kind=(5:Int)) then some (true) else some (decide (x.kind=(6:Int))))):Option Bool)=some (decide (dh x.kind)):=by
   unfold dh;by_cases r:x.kind=4
   ·simp[r]
   ·by_cases u:x.kind=5<;>simp[r,u]
  rw[e1];simp only[A0];by_cases g:dh x.kind
  ·simp only[g,NA,N3];by_cases f:c<(a.length:Int)
   ·obtain⟨q,rfl⟩:=Int.eq_ofNat_of_zero_le h;obtain⟨y,t⟩:∃y,a[q]?=some y:=⟨_,IS d9⟩;simp only[f,NA,N3,D5,t,A0];by_cases i:0<=y
    ·simp only[i,NA,N3,A0];by_cases j:y<=2
     ·have s:wr (4+y)=4+y:=u7 ino;simp only[j,NA,N3,A0,s,b,Mk];exact pf N a e l hl n (k+1) _ _ (d.set (show dh (4+y) by unfold dh;omega) k p g) d9 d9 d9
     ·simp only[j,NB,N4,A0,b];exact pf N a e l hl n (k+1) _ _ d d9 d9 d9
    ·simp only[i,NB,N4,A0,b];exact pf N a e l hl n (k+1) _ _ d d9 d9 d9
   ·simp only[f,NB,N4,A0,b];exact pf N a e l hl n (k+1) _ _ d d9 d9 d9
  ·simp only[g,NB,N4,A0];exact pf N a e l hl n (k+1) _ _ d d9 h d9
theorem Bp {N:Nat} (g:4194304<=N):∀(l m:List O4) (k d:Nat) (s t:Q7) (b:List dS) (E:Int) (z:Nat),fj l m->(∀x∈l,x.aK.code.length<=1048576)->SI N E z s->SI N E z t->t.world=s.world->t.saved=s.saved->E+l.length<=1000->z+401*l.length<=1000000->b.length+l.length<=1000 ->
  ∃e f a,kC N l k s b=some (e,a)/\kC N m d t b=some (f,a)/\f.world=e.world
 |[],[],k,d,s,t,b,E,z,_,_,p,q,j,_,_,_,_=>⟨s,t,b,rfl,rfl,j⟩
 |x::l,y::m,k,d,s,t,b,E,z,hl,hc,p,q,j,hv,hE,hz,hr=>by
  simp only[MO] at hE hz hr;have c:=hc x l9;have i:y.aK=x.aK:=by
   rcases hl.1 with rfl|⟨_,_,_,rfl⟩<;>rfl
  obtain⟨s1,r,u,v,w⟩:=E6 (x:=x) g p d9 d9 c;obtain⟨J,K,A,B,n⟩:=E6 (x:=y) g q d9 d9 (by rw[i];exact c);rw[j,hv] at n;obtain⟨e1,G,H⟩:=DR.mK hl.1 w n;subst H;obtain⟨e,f,a,C,D,F⟩:=Bp g l m (k+1) (d+1) s1 J (b++[r]) (E+1) (z+401) hl.2 (fun x I=>hc x (Mv _ I)) v B e1.symm G.symm d9 d9 L9;have o:IN ((b.length+[r].length)*32) 140737488355328=true:=Nat.ble_eq_true_of_le (by simp only[Mz];omega);refine⟨e,f,a,?_,?_,F⟩
  ·rw[kC,u];simp only[A0,o,N3];exact C
  ·rw[kC,A];simp only[A0,o,N3];exact D
 |[],_::_,_,_,_,_,_,_,_,h,_,_,_,_,_,_,_,_=>h.elim
 |_::_,[],_,_,_,_,_,_,_,h,_,_,_,_,_,_,_,_=>h.elim
def d16 (a:dS):cT (iM a) (iM a)=true:=by
 obtain⟨e,n,k,m⟩:=a;simp[iM,cT,oK]
theorem Db (N:Nat) (p q:Q7×List dS×Int) (h:q.2.1=p.2.1):∀(l:List dS) (k:Nat),l=p.2.1.drop k->X8 N p q l k=some (.next ())
 |[],k,_=>rfl
 |x::l,k,hl=>by
  obtain⟨a,b,_⟩:=Z6 hl;rw[X8,h];simp only[D5,a,A0,d16,MK,N4];exact Db N p q h l (k+1) b
def G2 : qm 4194304=some true:=C9
def FV (b:(List O4)) (e:(List Int)) (A:(ku yD) b) (B:(ku fM) e) (C:(dX iL) b+(dX eZ) e<=1048576):∃N,u5 N b e=some true:=by
 obtain⟨N,i⟩:∃N:Nat,N=4194304:=⟨_,rfl⟩;have j:qm N=some true:=by rw[i];exact G2
 have k:4194304<=N:=d9;refine⟨N,?_⟩;have u:=yC (bk:=iL) (fun a=>Hf a) b;have v:=yC (bk:=eZ) (fun a=>It _) e;unfold u5;rw[j];have f:IN ((([]:List O4).length+b.length)*160) 140737488355328=true:=Nat.ble_eq_true_of_le (by simp only[Mt];omega);have e0:((b.length:Int)-((0:Nat):Int)).toNat=b.length:=d9;obtain⟨m,w,l⟩:=pf N e d9 b d9 b.length 0 b 0 (fj.refl b) rfl (MS _) (MS _);simp only[A0,MK,N4,f,N3,e0,List.nil_append,w];have g:=l.len;by_cases d:(60:Int)<(b.length:Int)
 ·have h:∀x:List O4,x.length=b.length->ib N x=some (⟨⟨[],[],0⟩,[],[],[]⟩,[],5):=fun x y=>by
   unfold ib;rw[y,ND d];rfl
  simp only[h b rfl,h m g,A0,NA,MK,N4,BK];rfl
 ·obtain⟨n,o⟩:=LH N k;obtain⟨p,q,c,r,s,t⟩:=Bp k b m 0 0 d29 d29 [] 0 0 l (ID d9) o o rfl rfl d9 d9 (by simp only[Mt];omega);have h:ib N b=some (p,c,0):=by
   unfold ib;rw[NC d,n];simp only[N4,A0,r]
  have z:ib N m=some (q,c,0):=by
   unfold ib;rw[g,NC d,n];simp only[N4,A0,s]
  simp only[h,z,A0,NA,MK,N4,BK,t];rw[Db N (p,c,0) (q,c,0) rfl c 0 rfl];rfl
end Go.Proofs.YtibjcppjfkamhaaGreatDoor
