import Derived.Test.YtibjcppjfkamhaaGreatDoorE
set_option linter.unusedVariables false
set_option linter.defProp false
set_option linter.unusedSimpArgs false
namespace Go.Proofs.YtibjcppjfkamhaaGreatDoor
open Go.RowKit
open _root_.Bool renaming and_eq_true->IT,not_true->MH,not_false->MQ,false_eq_true->Ml
open _root_.ByteArray renaming empty->BY
open _root_.Int renaming le_refl->MO,toNat_natCast->Mg
open _root_.List renaming getElem?_eq_getElem->IS,getElem?_eq_some_iff->ME,mem_cons->MG,replicate->MI,map->MJ,length_append->MK,length_cons->ML,mem_of_getElem?->MP,all_eq_true->MR,map_cons->MS,mem_append->MT,append_assoc->MV,length_map->MW,getElem?_set->MY,getElem?_append_right->Ma,sum_cons->Mb,length_set->Mc,getElem?_eq_none->Md,mem_singleton->Mh,getElem?_map->Mj,eq_nil_of_length_eq_zero->Mk,ext_getElem?->Mn,getElem?_append_left->Mp,length_take->Mq,mem_cons_of_mem->Mr,length_nil->Ms,getElem?_take->Mu,mem_iff_getElem?->Mv,getElem?_cons_succ->Mw,length_singleton->Mx,getElem?_cons_zero->My
open _root_.Nat renaming ble->IN,le_refl->It,zero_add->Mi,add_assoc->Mo,mul_le_mul_right->Mt
open _root_.Option renaming bind_some->A0,map_eq_some_iff->MM,map_some->Mf
def tx (t:BL):ByteArray:=⟨t.toArray⟩
def Js (s:ByteArray):(dX s).length=s.size+1:=by rw[dX,MK,sx];rfl
theorem C2 {w:Wd}:∀{l:List Cl} {k:Nat},l=w.a7.drop k->jn w l k=.next ()->∀j c,k<=j->w.a7[j]?=some c->lf (w.a7.take j) j c=0
 |[],k,h,_,j,c,b,a=>by
  have f:=(ME.1 a).1;have g:=List.drop_eq_nil_iff.1 h.symm;omega
 |d::l,k,h,he,j,c,b,a=>by
  obtain⟨hd,hl,_⟩:=eE h;rw[jn] at he;by_cases e:lf (w.a7.take k) k d=0
  ·rw[N6 e] at he;rcases Nat.eq_or_lt_of_le b with rfl|b
   ·rw[hd] at a;cases a;exact e
   ·exact C2 hl he j c b a
  ·rw[N5 e] at he;cases he
def KA {b:List Cl} {k:Nat} {c:Cl} (h:lf b k c=0):Y1 c.name=true/\ix b c.name=false/\tP k c=false/\qY k c=false:=by
 unfold lf at h;cases a:(!Y1 c.name || (ix b c.name || tP k c)) with
 |true=>rw[a] at h;cases h
 |false =>
  rw[a] at h;cases d:qY k c with
  |true=>rw[d] at h;cases h
  |false =>
   simp only[Bool.or_eq_false_iff,Bool.not_eq_false'] at a;exact⟨a.1,a.2.1,a.2.2,rfl⟩
def yL {s:ByteArray} (h:Y1 s=true):iC s:=by
 unfold Y1 at h;simp only[IT,NA] at h;refine⟨fun e=>?_,fun e=>?_⟩
 ·have:=sx s;rw[e] at this;simp at this;omega
 ·have:=MR.1 h.1 32 e;revert this;decide
def JM {w:Wd} {c:Int} {m:Me} {i:Ins} (h:bp w c m i=0):i.b=0/\i.c=0/\(i.op=14->iC i.name)/\(i.op≠14->i.name=BY):=by
 unfold bp at h;split at h
 ·cases h
 ·split at h
  ·split at h
   ·cases h
   ·rename_i a;unfold jq at a;simp only[Bool.or_eq_true,IT,Bool.not_eq_true',NA,decide_eq_false_iff_not,not_or,not_and,Classical.not_not,Bool.not_eq_false] at a;exact⟨a.1.2,a.2,fun d=>yL (a.1.1.1 d),fun d=>a.1.1.2 d⟩
  ·cases h
theorem qb.small {w:Wd} (h:qb w):D6 w :=
 ⟨by have:=h.2.1;omega,by have:=h.2.2.1;omega,fun c a=>⟨by have:=(h.2.2.2.1 c a).2.2.2.1;omega,fun m b=>by have:=((h.2.2.2.1 c a).2.2.2.2 m b).2.2.2.2.1;omega⟩,fun o d=>by have:=(h.2.2.2.2 o d).2.1;omega⟩
def IG (N:Nat):qH N N9=some 0:=C8
def tr (r:dZ):BL:=(r.l.map dX).flatten
def zR (r:dZ):Prop:=∀w∈r.l,iC w/\w.size<4294967281
def eB {α:Type} (f:dZ->Option (α×dZ)) (p:BL->Option (α×BL)) (A:α->Prop):Prop :=
 ∀r:dZ,zR r->∃a b,f r=some (a,b)/\A a/\zR b/\(r.gW=false->b.gW=false) /\
  (r.gW=true->match p (tr r) with
   |some (x,t)=>a=x/\b.gW=true/\tr b=t
   |none=>b.gW=false)
section
variable {α β:Type}
theorem eB.pure {a:α} {A:α->Prop} (h:A a):eB (fun r=>some (a,r)) (fun t=>some (a,t)) A :=
 fun r b=>⟨a,r,rfl,h,b,fun h=>h,fun h=>⟨rfl,h,rfl⟩⟩
theorem eB.bind {f:dZ->Option (α×dZ)} {p:BL->Option (α×BL)} {A:α->Prop} (u:eB f p A) {k:α×dZ->Option (β×dZ)} {q:α×BL->Option (β×BL)} {B:β->Prop}
  (v:∀a,A a->eB (fun r=>k (a,r)) (fun t=>q (a,t)) B):eB (fun r=>(f r).bind k) (fun t=>(p t).bind q) B:=by
 intro r w;obtain⟨a,y,l,m,n,o,c⟩:=u r w;obtain⟨b,z,g1,g,i,d,j⟩:=v a m y n;refine⟨b,z,by simp only[l,A0,g1],g,i,fun h=>d (o h),fun h=>?_⟩;have c:=c h;dsimp only;cases e:p (tr r) with
 |none =>
  rw[e] at c;exact d c
 |some x =>
  rw[e] at c;obtain⟨x,t⟩:=x;obtain⟨rfl,s,rfl⟩:=c;exact j s
theorem eB.dy {L:dZ->Option (dZ×α)} {p:BL->Option (α×BL)} {A:α->Prop} (e:eB (fun r=>(L r).map fun y=>(y.2,y.1)) p A) {k:dZ×α->Option (β×dZ)} {q:α×BL->Option (β×BL)} {B:β->Prop}
  (f:∀a,A a->eB (fun r=>k (r,a)) (fun t=>q (a,t)) B):eB (fun r=>(L r).bind k) (fun t=>(p t).bind q) B:=by
 have:=eB.bind e (k:=fun y=>k (y.2,y.1)) f;intro r h;obtain⟨b,c,g1,g⟩:=this r h;refine⟨b,c,?_,g⟩;have d:((L r).map fun y=>(y.2,y.1)).bind (fun y=>k (y.2,y.1))=some (b,c):=g1;show(L r).bind k=some (b,c);rw[<-d];cases L r<;>rfl
theorem eB.loop {p:BL->Option (α×BL)} {step:dZ->Option (α×dZ)} (o:eB step p fun _=>True) {L:Nat->Nat->dZ->List α->Option (dZ×List α)} (m:∀k r l,L 0 k r l=some (r,l))
  (q:∀n k r l,l.length<=1000->L (n+1) k r l=(step r).bind fun y=>L n (k+1) y.2 (l++[y.1])) :
  ∀(n k:Nat) (l:List α),l.length+n<=1000->eB (fun r=>(L n k r l).map fun y=>(y.2,y.1)) (fun t=>(cT p n t).map fun y=>(l++y.1,y.2)) fun _=>True
 |0,k,l,_=>fun r e=>⟨l,r,by simp[m],trivial,e,fun h=>h,fun h=>by simp[cT,h]⟩
 |n+1,k,l,hl=>by
  intro r e;obtain⟨a,g,u,B,v,w,d⟩:=o r e;obtain⟨b,i,g1,A,s,j,c⟩:=eB.loop o m q n (k+1) (l++[a]) L6 g v;have g1:(L n (k+1) g (l++[a])).map (fun y=>(y.2,y.1))=some (b,i):=g1;refine⟨b,i,?_,trivial,s,fun h=>j (w h),fun h=>?_⟩
  ·show(L (n+1) k r l).map (fun y=>(y.2,y.1))=some (b,i);rw[q n k r l d9,u,<-g1];rfl
  have d:=d h;dsimp only;cases f:p (tr r) with
  |none =>
   rw[f] at d;simp only[cT,f,Option.bind_none,Option.map_none];exact j d
  |some x =>
   rw[f] at d;obtain⟨x,t⟩:=x;obtain⟨rfl,z,rfl⟩:=d;have c:=c z;dsimp only at c;simp only[cT,f,A0];cases e:cT p n (tr g) with
   |none=>rw[e] at c;exact c
   |some y =>
    rw[e] at c;simp only[Mf,MV,List.singleton_append] at c;exact c
theorem eB.rep {p:BL->Option (α×BL)} {step:dZ->Option (α×dZ)} (c:eB step p fun _=>True) {L:Nat->Nat->dZ->List α->Option (dZ×List α)} (a:∀k r l,L 0 k r l=some (r,l))
  (d:∀n k r l,l.length<=1000->L (n+1) k r l=(step r).bind fun y=>L n (k+1) y.2 (l++[y.1])) (n:Nat) (b:n<=1000):eB (fun r=>(L n 0 r []).map fun y=>(y.2,y.1)) (cT p n) fun _=>True:=by
 have:=eB.loop c a d n 0 [] (by simpa using b);have e:(fun t=>(cT p n t).map fun y=>(([]:List α)++y.1,y.2))=cT p n:=by
  funext t;cases cT p n t<;>rfl
 rwa [e] at this
end
def J3 (t:BL):Prop:=∃l:List ByteArray,(∀w∈l,iC w)/\t=(l.map dX).flatten
theorem J3.nil : J3 []:=⟨[],l9,rfl⟩
theorem J3.app {a b:BL} (e:J3 a) (f:J3 b):J3 (a++b):=by
 obtain⟨l,c,rfl⟩:=e;obtain⟨m,d,rfl⟩:=f;exact⟨l++m,fun w g=>(MT.1 g).elim (c w) (d w),l9⟩
theorem J3.word {s:ByteArray} (h:iC s):J3 (dX s):=⟨[s],by simpa using h,l9⟩
theorem J3.num (n:Int):J3 (dP n):=J3.word (s:=⟨(Lib.itoa n).toArray⟩) (Bd n)
theorem J3.flat {α:Type} (f:α->BL):∀{l:List α},(∀x∈l,J3 (f x))->J3 (l.map f).flatten
 |[],_=>J3.nil
 |x::l,h=>by
  rw[MS,List.flatten_cons];exact(h x l9).app (J3.flat f fun y a=>h y (by simp[a]))
theorem J3.mO (l:List Int):J3 (cO l):=J3.flat dP fun n _=>J3.num n
theorem J3.ins {i:Ins} (h:vh i):J3 (eh i):=by
 unfold eh;by_cases a:i.op=14
 ·simp only[a,if_true];exact(J3.mO _).app (J3.word (h.2.2.2.2.1 a))
 ·simp only[a,if_false,List.append_nil];exact J3.mO _
theorem J3.me {m:Me} (h:tN m):J3 (ec m):=by
 unfold ec;exact(J3.word h.1).app ((J3.mO _).app (J3.flat eh fun i hi=>J3.ins (h.2.2.2.2.2 i hi)))
theorem J3.cl {c:Cl} (h:d24 c):J3 (fH c):=by
 unfold fH;exact(J3.word h.1).app ((J3.mO _).app (J3.flat ec fun i hi=>J3.me (h.2.2.2.2 i hi)))
theorem J3.ob (o:Ob):J3 (fK o):=by
 unfold fK;exact(J3.mO _).app (J3.flat vT fun v _=>by unfold vT;exact J3.mO _)
theorem J3.wo {w:Wd} (h:qb w):J3 (dY w):=by
 unfold dY;exact(J3.mO _).app ((J3.flat fH fun c a=>J3.cl (h.2.2.2.1 c a)).app ((J3.mO _).app (J3.flat fK fun o _=>J3.ob o)))
theorem BR (N:Nat) (x:Cl):∀(l:List Cl) (k:Nat),T9 N x l k=some (bif ix l x.name then .ret 7 else .next ())
 |[],k=>rfl
 |d::l,k=>by
  rw[T9,BR N x l (k+1)];unfold ix;rw[List.any_cons];by_cases h:d.name=x.name<;>simp[h]
theorem BH (N:Nat) (w:Wd):∀(l:List Cl) (k:Nat),l=w.a7.drop k->O9 N w N9 l k=some (jn w l k)
 |[],k,_=>rfl
 |c::l,k,h=>by
  obtain⟨t,hl,j⟩:=eE h;have j:=of_decide_eq_true j;have ih:=BH N w l (k+1) hl;have r:(decide ((0:Int)<=(k:Int)) && decide ((k:Int)<=(w.a7.length:Int)))=true:=by
   simp only[IT,NA];omega
  have q:((k:Int)).toNat=k:=d9;rw[O9,kA,jn];simp only[r,q,BR,ih,A0,Mz];unfold lf tP qY;generalize ix (w.a7.take k) c.name=g;cases u:Y1 c.name with
  |false=>simp
  |true =>
   cases o:N9.a7[k]? with
   |some f =>
    have s:=Dw o;have e1:decide ((k:Int)<(4:Int))=true:=N6 d9;simp only[e1,D7,o,A0,Mz,N0,MH,Bool.false_or];by_cases a:c.name=f.name
    ·cases g with
     |true=>simp[a]
     |false =>
      by_cases b:c.aQ=f.aQ
      ·by_cases d:c.aG<0
       ·have:¬c.aG=0:=d9;simp[a,b,d,this]
       ·by_cases n:0<c.aG
        ·have:¬c.aG=0:=d9;simp[a,b,d,n,this]
        ·have:c.aG=0:=d9;simp[a,b,this]
      ·simp[a,b]
    ·simp[a]
   |none =>
    have s:=Dj o;have e1:decide ((k:Int)<(4:Int))=false:=N5 d9;simp only[e1,A0,Mz,N0,MH,Bool.false_or];cases g with
    |true=>simp
    |false =>
     by_cases a:c.aQ<0
     ·simp[a]
     ·by_cases b:(k:Int)<=c.aQ
      ·simp[a,b]
      ·by_cases m:c.aQ=0
       ·have i:¬k=0:=d9;by_cases d:c.aG<0
        ·simp[i,b,m,d]
        ·by_cases n:6<c.aG<;>simp[i,b,m,d,n]
       ·have e:0<c.aQ:=d9;by_cases p:c.aQ<4
        ·simp[a,b,m,e,p]
        ·by_cases d:c.aG<0
         ·simp[a,b,m,e,d,p]
         ·by_cases n:6<c.aG<;>simp[a,b,m,e,d,n,p]
theorem BK (N:Nat) (k:Nat) (m:Me):∀(l:List Me) (j:Nat) (b:Bool),J4 N k m l j b=some (b || (decide (k=3) && (l.any (fun p=>decide (p.name=m.name) && decide (p.aV=m.aV)) && (decide (m.args=1) && (decide (m.a8=0) && decide (m.code=[]))))))
 |[],j,b=>by simp[J4]
 |x::l,j,b=>by
  have n:decide ((m.code.length:Int)=0)=decide (m.code=[]):=by
   cases m.code<;>simp;omega
  have o:decide ((k:Int)=3)=decide (k=3):=by
   by_cases h:k=3
   ·subst h;rfl
   ·rw[N5 h,N5 d9]
  rw[J4,n,o,List.any_cons];simp only[BK N k m l (j+1)];generalize decide (k=3)=a;generalize decide (x.name=m.name)=c;generalize decide (x.aV=m.aV)=d;generalize decide (m.args=1)=e;generalize decide (m.a8=0)=f;generalize decide (m.code=[])=g;generalize (l.any fun p=>decide (p.name=m.name) && decide (p.aV=m.aV))=i;cases b<;>cases a<;>cases c<;>cases d<;>cases e<;>cases f<;>cases g<;>cases i<;>rfl
theorem BP (N:Nat) (w:Wd) (k:Nat) (c:Cl) (i:4194304<=N) (d:D6 w) (n:c∈w.a7) (b:0<=p8 w (k:Int)/\p8 w (k:Int)<=1000000000):∀(l:List Me) (j:Nat),l=c.aB.drop j->P6 N w N9 k c l j=pB N w k c.aB l j
 |[],j,_=>rfl
 |m::l,j,h=>by
  obtain⟨v,hl,a⟩:=eE h;have a:=of_decide_eq_true a;have t:=(d.2.2.1 c n).1;have ih:=BP N w k c i d n b l (j+1) hl;have ep:((bif decide ((0:Int)<(j:Int)) then((j4 c.aB (wr ((j:Int)-(1:Int)))).bind fun e=>some ((!Y4 e.name m.name))) else some (false)):Option Bool) =
    some (ny (if j=0 then none else c.aB[j-1]?) m):=by
   by_cases g:j=0
   ·subst g;rfl
   ·have wk:wr ((j:Int)-1)=((j-1:Nat):Int):=by rw[q9 ino];omega
    obtain⟨p,u⟩:∃p,c.aB[j-1]?=some p:=⟨_,IS d9⟩;rw[N6 (show(0:Int)<(j:Int) by omega),N1 g];simp only[Mz,wk,D7,u,A0,ny]
  have q:j4 N9.a7 (3:Int)=some ⟨⟨#[73,110,116]⟩,0,0,U0⟩:=rfl;have r:J4 N k m U0 0 false=some (qL k m):=by rw[BK];rfl
  obtain⟨f,o⟩:=wJ N w (k:Int) m i;rw[P6,ep,q,oq N w _ _ d9 d.1 b,o,pB];unfold d27;simp only[A0,ih,r,o,Mf];cases ny (if j=0 then none else c.aB[j-1]?) m with
  |true=>simp
  |false =>
   cases qL k m with
   |true=>simp
   |false=>by_cases s:f.err=0<;>simp[s]
theorem BJ (N:Nat) (w:Wd) (d:4194304<=N) (b:D6 w) (a:∀c:Int,0<=p8 w c/\p8 w c<=1000000000):∀(l:List Cl) (k:Nat),l=w.a7.drop k->X5 N w N9 l k=lz N w l k
 |[],k,_=>rfl
 |c::l,k,h=>by
  obtain⟨e,hl,f⟩:=eE h;rw[X5,kx N w _ d9 b.1,lz,BP N w k c d b (MP e) (a _) c.aB 0 rfl];simp only[A0,BJ N w d b a l (k+1) hl];rfl
theorem BT (N:Nat) (w:Wd):∀(l:List V) (k:Nat),U3 N w l k=some (ld (w.heap.length:Int) l)
 |[],k=>rfl
 |v::l,k=>by
  rw[U3,wS,ld];simp only[A0,BT N w l (k+1)];by_cases h:cc v (w.heap.length:Int)=0<;>simp[h]
theorem BO (N:Nat) (w:Wd) (c:1048578<=N) (d:w.a7.length<=1048576) (i:4<=w.a7.length):∀(l:List Ob) (k:Nat),U2 N w l k=some (lv w l)
 |[],k=>rfl
 |o::l,k=>by
  rw[U2,kx N w _ c d,lv,BT];simp only[A0,BO N w c d i l (k+1)];have e:((bif decide (o.cls<(0:Int)) then some (true) else(bif decide ((0:Int)<o.cls) then(bif decide (o.cls<(4:Int)) then some (true) else(bif decide ((w.a7.length:Int)<=o.cls) then some (true) else some ((!decide ((o.aG.length:Int)=p8 w o.cls))))) else(bif decide ((w.a7.length:Int)<=o.cls) then some (true) else some ((!decide ((o.aG.length:Int)=p8 w o.cls)))))):Option Bool)=some (oR w o):=by
   unfold oR;by_cases b:o.cls<0
   ·have:¬o.cls=0:=d9;have h:o.cls<4:=d9;simp[b,this,h]
   ·by_cases f:o.cls=0
    ·have:¬(w.a7.length:Int)<=o.cls:=d9;have a:¬(0:Int)<o.cls:=d9;rw[N5 b,N5 a,N5 this,N6 f];rfl
    ·have a:(0:Int)<o.cls:=d9;rw[N5 b,N6 a,N5 f];by_cases g:o.cls<4
     ·simp[g]
     ·by_cases j:(w.a7.length:Int)<=o.cls<;>simp[g,j]
  rw[e];simp only[A0];cases oR w o with
  |true=>rfl
  |false =>
   simp only[N0];cases ld (w.heap.length:Int) o.aG<;>rfl
def BI (N:Nat) (w:Wd) (i:4194304<=N) (d:D6 w):jX N w=qH N w:=by
 unfold jX qH s8;have e1:((bif decide ((w.a7.length:Int)<(4:Int)) then some (true) else(bif decide ((12:Int)<(w.a7.length:Int)) then some (true) else some (decide ((60:Int)<(w.heap.length:Int))))):Option Bool)=some (decide ((w.a7.length:Int)<4) || (decide (12<(w.a7.length:Int)) || decide (60<(w.heap.length:Int)))):=by
  by_cases a:(w.a7.length:Int)<4
  ·simp[a]
  ·by_cases p:(12:Int)<(w.a7.length:Int)<;>simp[a,p]
 have g:((bif decide (w.aC<(0:Int)) then some (true) else some (decide ((1073741824:Int)<w.aC))):Option Bool)=some (decide (w.aC<0) || decide (1073741824<w.aC)):=by
  by_cases a:w.aC<0<;>simp[a]
 simp only[A0,e1,g];cases m:(decide ((w.a7.length:Int)<4) || (decide (12<(w.a7.length:Int)) || decide (60<(w.heap.length:Int)))) with
 |true=>rfl
 |false =>
  have h:4<=w.a7.length:=by
   simp only[Bool.or_eq_false_iff,decide_eq_false_iff_not] at m;omega
  simp only[N0];cases (decide (w.aC<0) || decide (1073741824<w.aC)) with
  |true=>rfl
  |false =>
   simp only[N0,BH N w w.a7 0 rfl,BO N w d9 d.1 h w.heap 0,A0];cases b:jn w w.a7 0 with
   |ret r=>rfl
   |next u =>
    have e:∀c:Int,0<=p8 w c/\p8 w c<=1000000000:=kH (fun x n=>by
     obtain⟨j,l⟩:=Mv.1 n;obtain⟨_,_,_,f⟩:=KA (C2 (k:=0) rfl b j x (Nat.zero_le _) l);unfold qY at f;simp only[Bool.or_eq_false_iff,decide_eq_false_iff_not] at f;omega) d.1
    simp only[BJ N w i d e w.a7 0 rfl];cases lz N w w.a7 0 with
    |none=>rfl
    |some o =>
     cases o with
     |ret r=>rfl
     |next u =>
      simp only[A0];cases lv w w.heap<;>rfl
theorem nV {a:Type} {f:a->BL} {B:Nat}:∀{l:List a},(∀x∈l,(f x).length<=B)->(l.map f).flatten.length<=l.length*B
 |[],_=>l9
 |x::l,h=>by
  have c:=h x l9;have d:=nV (l:=l) fun y b=>h y (Mr _ b);simp only[MS,List.flatten_cons,MK,ML,Nat.add_mul];omega
def nh {l:List Int} (h:∀n∈l,I5 n):(cO l).length<=l.length*22:=nV fun n a=>Kf (h n a)
def iJ {n:Int} (h:-1073741824<=n/\n<=1073741824):I5 n:=ino
def xt {s:ByteArray} (h:Y1 s=true):(dX s).length<=13:=by
 unfold Y1 at h;simp only[IT,NA] at h;rw[Js];omega
def JH {w:Wd} {c:Int} {m:Me} {i:Ins} (t:p8 w c<=78/\w.a7.length<=12) (r:m.args<=4/\m.a8<=6/\m.code.length<=60) (h:bp w c m i=0):vh i/\(eh i).length<=60:=by
 obtain⟨f1,j,k,o⟩:=JM h;have s:=yD h;have p:I5 i.op:=ino;have q:I5 i.a:=ino;refine⟨⟨p,q,f1,j,k,o⟩,?_⟩;have g:=nh (l:=[i.op,i.a]) (fun n d=>by simp only[MG,List.mem_nil_iff,or_false] at d;rcases d with rfl|rfl<;>assumption);unfold eh;rw[MK];simp only[ML,Ms] at g;by_cases b:i.op=14
 ·rw[N2 b];have f:=(Bp h).2;unfold jq at f;simp only[Bool.or_eq_false_iff,Bool.and_eq_false_iff,Bool.not_eq_false',decide_eq_false_iff_not,NA] at f;have d:Y1 i.name=true:=by
   rcases f.1.1.1 with e|e
   ·exact absurd b e
   ·exact e
  have:=xt d;omega
 ·rw[N1 b];simp only[Ms];omega
def KC {N:Nat} {w:Wd} {j:Nat} {m:Me} (u:p8 w (j:Int)<=78/\w.a7.length<=12) (h:o0 j m\/∃f,aj N w (j:Int) m=some f/\f.err=0):tN m/\(ec m).length<=4000:=by
 have key:Y1 m.name=true/\(0<=m.args/\m.args<=4)/\(0<=m.a8/\m.a8<=6)/\(0<=m.aV/\m.aV<=5)/\m.code.length<=60/\∀i∈m.code,bp w (j:Int) m i=0:=by
  rcases h with⟨_,p,t,e1,o,C,D,c⟩|⟨f,r,s⟩
  ·have a:∀q∈U0,Y1 q.name=true/\0<=q.aV/\q.aV<=5:=G8;obtain⟨g1,d,e⟩:=a p t;rw[e1] at g1;rw[o] at d e;exact⟨g1,d9,d9,⟨d,e⟩,by rw[c];simp,by rw[c];intro i hi;cases hi⟩
  ·have F:=Bo r s;exact⟨F.name,F.args,F.a8,by rw[F.aV];decide,F.len.2,F.num⟩
 obtain⟨g,v,x,E,b,y⟩:=key;have hi:=fun i hi=>JH u ⟨v.2,x.2,b⟩ (y i hi);refine⟨⟨yL g,iJ d9,iJ d9,iJ d9,b,fun i h=>(hi i h).1⟩,?_⟩;have z:=xt g;have k:=nh (l:=[m.args,m.a8,m.aV,(m.code.length:Int)]) (fun n a=>by
  simp only[MG,List.mem_nil_iff,or_false] at a;rcases a with rfl|rfl|rfl|rfl<;>exact iJ d9)
 have A:=nV (f:=eh) (B:=60) fun i h=>(hi i h).2;unfold ec;simp only[MK,ML,Ms] at k⊢;have:=Mt 60 b;omega
def DZ {N:Nat} {w:Wd} (K:4194304<=N) (M:D6 w) (b:I6 N w):qb w/\(dY w).length<=1000000:=by
 have d:=b.many;have y:=xF (pG b) d.2.1;have cl:∀c∈w.a7,d24 c/\(fH c).length<=40000:=fun c g=>by
  obtain⟨j,q⟩:=Mv.1 g;have L:=(ME.1 q).1;obtain⟨g1,_,D,r,E⟩:=b.cls j c q;obtain⟨Q,H,_,_⟩:=b.al j c q;have G:-1<=c.aQ/\c.aQ<=12:=by
   rcases Nat.lt_or_ge j 4 with s|s
   ·obtain⟨f,f1,_,J,_⟩:=D s;have a:∀x∈N9.a7,-1<=x.aQ/\x.aQ<=12:=G8;rw[J];exact a f (MP f1)
   ·have:=r s;omega
  have i:∀m∈c.aB,tN m/\(ec m).length<=4000:=fun m t=>KC (N:=N) ⟨(y (j:Int)).2,d.2.1⟩ (b.va K M q t);refine⟨⟨yL g1,iJ d9,iJ d9,H,fun m h=>(i m h).1⟩,?_⟩;have A:=xt g1;have e:=nh (l:=[c.aQ,c.aG,(c.aB.length:Int)]) (fun n a=>by
   simp only[MG,List.mem_nil_iff,or_false] at a;rcases a with rfl|rfl|rfl<;>exact iJ d9)
  have C:=nV (f:=ec) (B:=4000) fun m h=>(i m h).2;unfold fH;simp only[MK,ML,Ms] at e⊢;have:=Mt 4000 H;omega
 have ob:∀o∈w.heap,yz o/\(fK o).length<=5000:=fun o p=>by
  obtain⟨g1,P,D,r,E⟩:=b.obj o p;have F:o.aG.length<=6:=by
   obtain⟨I,u⟩:=Int.eq_ofNat_of_zero_le g1;have:=(b.al I _ (IS (show I<w.a7.length by omega))).1;rw[u] at r;omega
  have z:∀v∈o.aG,I5 v.k/\I5 v.n:=fun v h=>by
   have:=E v h;unfold cc at this;unfold I5
   (repeat' split at this)<;>first|omega|cases this
  refine⟨⟨iJ d9,F,z⟩,?_⟩;have e:=nh (l:=[o.cls,(o.aG.length:Int)]) (fun n a=>by
   simp only[MG,List.mem_nil_iff,or_false] at a;rcases a with rfl|rfl<;>exact iJ d9)
  have C:=nV (f:=vT) (B:=44) (l:=o.aG) fun v h=>nh (l:=[v.k,v.n]) (fun n a=>by
   simp only[MG,List.mem_nil_iff,or_false] at a;rcases a with rfl|rfl
   ·exact(z v h).1
   ·exact(z v h).2)
  unfold fK;simp only[MK,ML,Ms] at e⊢;have:=Mt 44 F;omega
 refine⟨⟨iJ (by have:=b.aC;omega),d.2.1,d.2.2,fun c g=>(cl c g).1,fun o p=>(ob o p).1⟩,?_⟩;have A:=nh (l:=[w.aC,(w.a7.length:Int)]) (fun n a=>by
  simp only[MG,List.mem_nil_iff,or_false] at a;rcases a with rfl|rfl<;>exact iJ (by have:=b.aC;omega))
 have e:=nh (l:=[(w.heap.length:Int)]) (fun n a=>by
  simp only[MG,List.mem_nil_iff,or_false] at a;subst a;exact iJ d9)
 have C:=nV (f:=fH) (B:=40000) fun c g=>(cl c g).2;have O:=nV (f:=fK) (B:=5000) fun o p=>(ob o p).2;unfold dY;simp only[MK,ML,Ms] at A e⊢;have:=Mt 40000 d.2.1;have:=Mt 5000 d.2.2;omega
def Co {N:Nat} {w:Wd} (a:4194304<=N) (b:D6 w) (c:I6 N w):pN N w=some (U (dY w))/\lT N (U (dY w))=some (w,0):=by
 obtain⟨d,f⟩:=DZ a b c;refine⟨Iz N w d9,?_⟩;have e:qH N w=some 0:=by rw[<-BI N w a b];exact CB N w a b c
 rw[JU N _ (by rw[fQ];omega),EB,Kg d];simp only[Gu N w a b,e,A0,N3,MH,N0]
def Jr {w:Wd} {c:Int} {m:Me} {i:Ins} (h:bp w c m i=0) (hl:w.a7.length<=1048576) (k:m.args<=1000) (n:m.a8<=1000) (hs:p8 w c<=1000000000) (l:m.code.length<=1048576) :
  -2000000000<=i.a/\i.a<=2000000000/\(i.op≠14->i.name=BY)/\i.b=0/\i.c=0:=by
 have j:jq i=false/\fW w c m i=some true:=by
  unfold bp at h;cases f:fW w c m i with
  |none=>rw[f] at h;cases h
  |some b =>
   rw[f] at h;cases b with
   |false=>simp at h
   |true =>
    cases j:jq i with
    |true=>simp[j] at h
    |false=>exact⟨rfl,rfl⟩
 obtain⟨d,g⟩:=j;have f:(i.op≠14->i.name=BY)/\i.b=0/\i.c=0:=by
  unfold jq at d;by_cases e:i.op=14
  ·simp only[e,N3,MH,Bool.false_and,Bool.true_and,Bool.or_false,Bool.or_eq_false_iff,Bool.not_eq_eq_eq_not,MQ,NA] at d;exact⟨fun h=>absurd e h,d.1.2,d.2⟩
  ·simp only[e,N4,MQ,Bool.false_and,Bool.true_and,Bool.false_or,Bool.or_eq_false_iff,Bool.not_eq_eq_eq_not,NA] at d;exact⟨fun _=>d.1.1,d.1.2,d.2⟩
 refine⟨?_,?_,f.1,f.2.1,f.2.2⟩ <;>
 ·unfold fW at g
  (repeat' split at g)<;>simp at g<;>omega
def ba (s:Int) (y:Me) (f:Int) (i:Ins):Ins :=
 if i.op=1 then⟨3,s,0,0,BY⟩ else if i.op=2 then⟨3,s+1+i.a,0,0,BY⟩ else if i.op=3\/i.op=11 then⟨i.op,s+1+y.args+i.a,0,0,BY⟩
 else if i.op=4 then⟨19,s,i.a,0,BY⟩ else if i.op=12 then⟨20,s,i.a,0,BY⟩ else if i.op=15\/i.op=16 then⟨i.op,f+i.a,0,0,BY⟩
 else if i.op=17 then⟨15,f+y.code.length,0,0,BY⟩ else⟨i.op,i.a,0,0,BY⟩
def jA (s:Int):Nat->List Ins
 |0=>[]
 |v+1=>⟨11,s+v,0,0,BY⟩::jA s v
def iH (b:Int):Nat->Nat->List Ins
 |0,_=>[]
 |n+1,k=>⟨6,0,0,0,BY⟩::⟨11,b+k,0,0,BY⟩::iH b n (k+1)
theorem gg (s:Int):∀n,(jA s n).length=n
 |0=>rfl
 |n+1=>by simp[jA,gg s n]
theorem jZ (b:Int):∀n k,(iH b n k).length=2*n
 |0,_=>rfl
 |n+1,k=>by simp[iH,jZ b n (k+1)];omega
def hl (y:Me):Nat:=3+y.args.toNat+2*y.a8.toNat
def eJ (y:Me) (s c p:Int) (base:Nat):List Ins :=
 ⟨18,c,y.args,p,BY⟩::⟨21,0,0,0,BY⟩::(jA s (y.args.toNat+1)++iH (s+1+y.args) y.a8.toNat 0++y.code.map (ba s y ((base+hl y:Nat):Int)))
def ig (y:Me) (s c p:Int) (base:Nat):(eJ y s c p base).length=Q7 y:=by
 simp only[eJ,ML,MK,gg,jZ,MW,Q7];omega
structure vo (y:Me):Prop extends Leafy y where
 num:∀i∈y.code,-2000000000<=i.a/\i.a<=2000000000/\(i.op≠14->i.name=BY)/\i.b=0/\i.c=0
theorem AM (N:Nat) (a:fV) (w:Wd) (m:Me) (t:Int) (aH fix:List Int) (d:0<=a.a8/\a.a8<=1000):∀(n:Nat) (v:Nat) (out:List Ins),v<n->v<=100->out.length+v<=900000 ->
  Z4 N a n w m out t aH fix ((v:Int)-1)=some (w,m,out++jA a.a8 v,t,aH,fix)
 |0,v,out,h,_,_=>d9
 |n+1,0,out,_,_,_=>by
  rw[Z4];have c:¬(0:Int)<=((0:Nat):Int)-1:=d9;simp only[c,N4,N0,jA,List.append_nil]
 |n+1,v+1,out,h,i,g=>by
  rw[Z4];have b:(0:Int)<=(((v+1:Nat):Int)-1):=d9;have e:wr ((((v+1:Nat):Int)-1)-1)=(v:Int)-1:=by rw[q9 ino];omega
  have f:wr (a.a8+(((v+1:Nat):Int)-1))=a.a8+(v:Int):=by rw[q9 ino];omega
  simp only[b,N3,Mz,f,put_eq N w m out t aH fix _ _ _ _ (show out.length<=1000000 by omega),A0,e];rw[AM N a w m t aH fix d n v _ d9 d9 L6];simp[jA]
theorem AX (N:Nat) (a:fV) (y:Me) (b:Leafy y) (w:Wd) (m:Me) (t:Int) (aH fix:List Int) (c:0<=a.a8/\a.a8<=1000):∀(n:Nat) (k:Nat) (out:List Ins),n+k<=100->out.length+2*n<=900000 ->
  V5 N a y n k w m out t aH fix=some (w,m,out++iH (a.a8+1+y.args) n k,t,aH,fix)
 |0,k,out,_,_=>by simp[V5,iH]
 |n+1,k,out,f,g=>by
  rw[V5];have e:=b.args;have d:wr (wr (wr (a.a8+1)+y.args)+(k:Int))=a.a8+1+y.args+k:=by
   rw[q9 (show I5 (a.a8+1) by unfold I5;omega),q9 (show I5 (a.a8+1+y.args) by unfold I5;omega),q9 ino]
  simp only[d,put_eq N w m out t aH fix _ _ _ _ (show out.length<=1000000 by omega),A0];rw[put_eq N w m _ t aH fix _ _ _ _ L6];simp only[A0];rw[AX N a y b w m t aH fix c n (k+1) _ d9 L6];simp[iH]
theorem AZ (N:Nat) (e:fV) (y:Me) (s:vo y) (V:List Ins) (z:V.length<=100000) (w:Wd) (m:Me) (t:Int) (aH fix:List Int) (B:0<=e.a8/\e.a8<=1000):∀(r:List Ins) (k:Nat) (out:List Ins),(∀i∈r,i∈y.code)->out.length+r.length<=900000 ->
  O8 N e y V r k w m out t aH fix=some (w,m,out++r.map (ba e.a8 y (V.length:Int)),t,aH,fix)
 |[],k,out,_,_=>by simp[O8]
 |x::r,k,out,hr,ho=>by
  simp only[ML] at ho;have u:=hr x l9;obtain⟨H,I,J,K,L⟩:=s.num x u;have M:=s.args;have O:=s.len;have go:=fun v:Ins=>AZ N e y s V z w m t aH fix B r (k+1) (out++[v]) (fun i hi=>hr i (by simp[hi])) L6
  have C:=fun op a b c=>put_eq N w m out t aH fix op a b c (show out.length<=1000000 by omega)
  have D:wr (e.a8+1)=e.a8+1:=q9 ino;have E:wr (e.a8+1+x.a)=e.a8+1+x.a:=q9 ino;have w3:wr (e.a8+1+y.args)=e.a8+1+y.args:=q9 ino;have F:wr (e.a8+1+y.args+x.a)=e.a8+1+y.args+x.a:=q9 ino;have w5:wr ((V.length:Int)+x.a)=V.length+x.a:=q9 ino;have G:wr ((V.length:Int)+(y.code.length:Int))=V.length+y.code.length:=q9 ino;rw[O8];simp only[D,E,w3,F,w5,G,C,A0];have d:∀v:Ins,ba e.a8 y (V.length:Int) x=v->O8 N e y V r (k+1) w m (out++[v]) t aH fix=some (w,m,out++(x::r).map (ba e.a8 y (V.length:Int)),t,aH,fix):=by
   intro v A;rw[go v,MS,A];simp
  by_cases n:x.op=1
  ·simp only[n,N3,Mz,A0];exact d _ (by simp[ba,n])
  by_cases o:x.op=2
  ·simp only[o,N3,Mz,A0];exact d _ (by simp[ba,o])
  by_cases p:x.op=3
  ·simp only[p,N3,Mz,A0];exact d _ (by simp[ba,p])
  by_cases f:x.op=11
  ·simp only[f,N3];exact d _ (by simp[ba,f])
  by_cases q:x.op=4
  ·simp only[q,N3,Mz,A0];exact d _ (by simp[ba,q])
  by_cases g:x.op=12
  ·simp only[g,N3,Mz,A0];exact d _ (by simp[ba,g])
  by_cases h:x.op=15
  ·simp only[h,N3,Mz,A0];exact d _ (by simp[ba,h])
  by_cases j:x.op=16
  ·simp only[j,N3];exact d _ (by simp[ba,j])
  by_cases l:x.op=17
  ·simp only[l,N3,Mz,A0];exact d _ (by simp[ba,l])
  simp only[n,o,p,f,q,g,h,j,l,N4,N0,A0];exact d _ (by simp[ba,n,o,p,f,q,g,h,j,l])
def d29 (N:Nat) (hN:1000<=N) (w:Wd) (m:Me) (out:List Ins) (t:Int) (aH fix:List Int) (k:Int) (p:Int) (i:Ins) (y:Me) (c:vo y) (hi:y.args=i.a) (s:0<=t/\t<=40) (r:out.length<=1000) :
  qz N (⟨w,m,out,t,aH,fix⟩:fV) k p i y=some ⟨w,m,out++eJ y t k p out.length,t+(1+y.args+y.a8),aH,fix⟩:=by
 have n:=c.args;have o:=c.a8;have q:=c.len;unfold qz;have e1:wr (1+y.args)=1+y.args:=q9 ino;have e:wr (1+y.args+y.a8)=1+y.args+y.a8:=q9 ino;have f:wr (t+(1+y.args+y.a8))=t+(1+y.args+y.a8):=q9 ino;simp only[e1,e,f];rw[put_eq N w m out _ aH fix _ _ _ _ d9];simp only[A0];rw[put_eq N w m _ _ aH fix _ _ _ _ L6];simp only[A0];have d:=AM N ⟨w,m,out,t,aH,fix⟩ w m (t+(1+y.args+y.a8)) aH fix (by show 0<=t/\t<=1000;omega) N (y.args.toNat+1) ((out++[⟨18,k,i.a,p,BY⟩])++[⟨21,0,0,0,BY⟩]) d9 d9 L6
 have g:(((y.args.toNat+1:Nat):Int)-1)=y.args:=d9;rw[g] at d;rw[d];simp only[A0];have h:(y.a8-((0:Nat):Int)).toNat=y.a8.toNat:=d9;rw[h,AX N ⟨w,m,out,t,aH,fix⟩ y c.toLeafy w m (t+(1+y.args+y.a8)) aH fix (by show 0<=t/\t<=1000;omega) y.a8.toNat 0 _ d9 (by simp[gg];omega)];simp only[A0];rw[AZ N ⟨w,m,out,t,aH,fix⟩ y c _ (by simp[gg,jZ];omega) w m (t+(1+y.args+y.a8)) aH fix (by show 0<=t/\t<=1000;omega) y.code 0 _ (fun j l=>l) (by simp[gg,jZ];omega)];simp only[A0];have b:(((((out++[(⟨18,k,i.a,p,BY⟩:Ins)])++[(⟨21,0,0,0,BY⟩:Ins)])++jA t (y.args.toNat+1))++iH (t+1+y.args) y.a8.toNat 0).length:Nat)=out.length+hl y:=by
  simp only[MK,ML,Ms,gg,jZ,hl];omega
 rw[b,eJ,<-hi];simp
inductive O5 where
 |pl (i:Ins)
 |pc (y:Me) (s c p:Int)
def O5.out (b:Nat):O5->List Ins
 |.pl i=>[i]
 |.pc y s c p=>eJ y s c p b
def O5.len : O5->Nat
 |.pl _=>1
 |.pc y _ _ _=>Q7 y
def O5.eP : O5->Bool
 |.pl _=>false
 |.pc _ _ _ _=>true
def dx (i:Ins):Bool:=decide (i.op=15) || decide (i.op=16)
def gH : List O5->Nat->List Ins
 |[],_=>[]
 |x::l,b=>x.out b++gH l (b+x.len)
def Y0 : List O5->Nat->List Int
 |[],_=>[]
 |x::l,b=>(b:Int)::Y0 l (b+x.len)
def dr : List O5->Nat->List Int
 |[],_=>[]
 |.pl i::l,b=>if dx i=true then(b:Int)::dr l (b+1) else dr l (b+1)
 |.pc y s c p::l,b=>dr l (b+Q7 y)
def oA (i:Ins) (a:Int):Ins:=⟨i.op,a,i.b,i.c,i.name⟩
def fG (b:List Int) (i:Ins):Ins:=if dx i=true then oA i ((b[i.a.toNat]?).getD 0) else i
def dv (a:List Int):List O5->Nat->List Ins
 |[],_=>[]
 |.pl i::l,b=>fG a i::dv a l (b+1)
 |.pc y s c p::l,b=>eJ y s c p b++dv a l (b+Q7 y)
def lh (w:Wd) (c:Int) (name:ByteArray):Option Me:=if(l7 w name c).2<0 then none else(j4 w.a7 (l7 w name c).1).bind fun x=>j4 x.aB (l7 w name c).2
def de (w:Wd) (b:List Int) (L k:Nat) (i:Ins) (size:Nat) (t:Int):Option (Me×Int) :=
 if i.op=14 then match b[k]? with
  |some c=>if 0<=c then match lh w c i.name with
   |some y=>if fP y=true/\y.args=i.a/\size+Q7 y+L<=240+k/\t+1+y.args+y.a8<=40 then some (y,c) else none
   |none=>none
   else none
  |none=>none
 else none
def Y5 (k:Nat) (i:Ins):Ins:=if i.op=14 then⟨i.op,i.a,i.b,k,i.name⟩ else i
def J8 (w:Wd) (a:List Int) (L:Nat):List Ins->Nat->Nat->Int->List O5×Int
 |[],_,_,t=>([],t)
 |i::r,k,size,t=>match de w a L k i size t with
  |some (y,c)=>let q:=J8 w a L r (k+1) (size+Q7 y) (t+(1+y.args+y.a8));(.pc y t c k::q.1,q.2)
  |none=>let q:=J8 w a L r (k+1) (size+1) t;(.pl (Y5 k i)::q.1,q.2)
def eL (w:Wd):Prop:=∀(k:Nat) (x:Cl),w.a7[k]?=some x->∀y∈x.aB,vo y
def vP {w:Wd} {c:Int} {name:ByteArray} {y:Me} (h:lh w c name=some y):∃(k:Nat) (x:Cl),w.a7[k]?=some x/\y∈x.aB:=by
 unfold lh at h;split at h
 ·cases h
 ·cases a:j4 w.a7 (l7 w name c).1 with
  |none=>rw[a] at h;cases h
  |some x =>
   rw[a] at h;exact⟨_,x,(l6 a).2,MP (l6 h).2⟩
def d54 {y:Me} (h:fP y=true):∀i∈y.code,i.op≠14:=by
 unfold fP at h;simp only[IT,Bool.not_eq_true',List.any_eq_false] at h;intro i hi e;exact h.2 i hi (by simp[sends,e])
def pW {w:Wd} {b:List Int} {L k:Nat} {i:Ins} {size:Nat} {t:Int} {y:Me} {c:Int} (h:de w b L k i size t=some (y,c)) :
  i.op=14/\b[k]?=some c/\0<=c/\lh w c i.name=some y/\fP y=true/\y.args=i.a/\size+Q7 y+L<=240+k/\t+1+y.args+y.a8<=40:=by
 unfold de at h;split at h
 ·rename_i d;split at h
  ·rename_i c' f;split at h
   ·rename_i e;split at h
    ·rename_i l j;split at h
     ·rename_i g;cases h;exact⟨d,f,e,j,g⟩
     ·cases h
    ·cases h
   ·cases h
  ·cases h
 ·cases h
def xN (N:Nat) (hN:1048578<=N) (W:Wd) (a:dS W) (hs:D6 W) (m:Me) (out:List Ins) (t:Int) (aH fix:List Int) (c:Int) (name:ByteArray) :
  qy N (⟨W,m,out,t,aH,fix⟩:fV) c name=some (lh W c name,⟨W,m,out,t,aH,fix⟩):=by
 unfold qy lh;rw[lH N W c name hN a hs];simp only[A0];by_cases h:(l7 W name c).2<0
 ·simp only[h,N3,Mz,if_true]
 ·obtain⟨x,y,b,d,_⟩:=sX (w:=W) (s:=name) (c:=c) d9;simp only[h,N4,N0,if_false,b,d,A0]
theorem wE (N:Nat) (hN:4194304<=N) (W:Wd) (C:dS W) (hs:D6 W) (G:eL W) (d:List Int) (M:Me) (hM:M.code.length<=60):∀(r:List Ins) (k:Nat) (out:List Ins) (t:Int) (aH fix:List Int) (b:Bool),
  r=M.code.drop k->k<=M.code.length->out.length+M.code.length<=240+k->0<=t/\t<=40->aH.length=k->fix.length<=k ->
  k9 N d M r k W M out t aH fix b=some (W,M,out++gH (J8 W d M.code.length r k out.length t).1 out.length,(J8 W d M.code.length r k out.length t).2,
   aH++Y0 (J8 W d M.code.length r k out.length t).1 out.length,fix++dr (J8 W d M.code.length r k out.length t).1 out.length,b || (J8 W d M.code.length r k out.length t).1.any O5.eP)
 |[],k,out,t,aH,fix,b,_,_,_,_,_,_=>by simp[k9,J8,gH,Y0,dr]
 |x::r,k,out,t,aH,fix,b,hd,hk,ho,ht,ad,hfix=>by
  obtain⟨hx,hr,L⟩:=eE hd;have hk:k<M.code.length:=by have:=of_decide_eq_true L;omega
  have ga:IN ((aH.length+[(out.length:Int)].length)*8) 140737488355328=true:=F6 L6;have gf:IN ((fix.length+[(out.length:Int)].length)*8) 140737488355328=true:=F6 L6;have go:∀v:Ins,IN ((out.length+[v].length)*48) 140737488355328=true:=fun v=>F6 L6;have plain:de W d M.code.length k x out.length t=none->((((((bif decide (x.op=(15:Int)) then some (true) else some (decide (x.op=(16:Int)))):Option Bool).bind fun E=>(((bif E then(bif IN ((fix.length+[(out.length:Int)].length)*8) 140737488355328 then some ((fix++[(out.length:Int)])) else none) else some (fix)):Option (List Int)).bind fun F=>(((bif decide (x.op=(14:Int)) then some ((⟨x.op,x.a,x.b,(k:Int),x.name⟩:Ins)) else some (x)):Option Ins).bind fun s=>(bif IN ((out.length+[s].length)*48) 140737488355328 then some ((W,M,(out++[s]),t,(aH++[(out.length:Int)]),F,b)) else none))))):Option (Wd×Me×(List Ins)×Int×(List Int)×(List Int)×Bool)).bind fun(R,S,T,U,V,X,Y)=>k9 N d M r (k+1) R S T U V X Y) =
    some (W,M,out++gH (J8 W d M.code.length (x::r) k out.length t).1 out.length,(J8 W d M.code.length (x::r) k out.length t).2,
   aH++Y0 (J8 W d M.code.length (x::r) k out.length t).1 out.length,fix++dr (J8 W d M.code.length (x::r) k out.length t).1 out.length,b || (J8 W d M.code.length (x::r) k out.length t).1.any O5.eP):=by
   intro n;have ih:=fun(v:Ins) (fx:List Int) (I:fx.length<=k+1)=>wE N hN W C hs G d M hM r (k+1) (out++[v]) t (aH++[(out.length:Int)]) fx b hr d9 L6 ht (by simp[ad]) I;have A:∀v:Ins,(out++[v]).length=out.length+1:=fun v=>l9;simp only[A] at ih;rw[J8,n];simp only[gH,Y0,dr,O5.out,O5.len,List.any_cons,O5.eP,Bool.false_or];by_cases j:x.op=15
   ·have m:dx (Y5 k x)=true:=(by simp[dx,Y5,j]);have hp:Y5 k x=x:=by simp[Y5,j]
    rw[hp] at m;have e:¬x.op=14:=d9;simp only[j,gf,go,N3,N4,Mz,N0,A0,m,if_true,hp,show((15:Int)=14)=False by decide];rw[ih x _ L6];simp
   by_cases l:x.op=16
   ·have m:dx (Y5 k x)=true:=(by simp[dx,Y5,l]);have hp:Y5 k x=x:=by simp[Y5,l]
    rw[hp] at m;have e:¬x.op=14:=d9;simp only[l,gf,go,N3,N4,Mz,N0,A0,m,if_true,hp,show((16:Int)=14)=False by decide,show((16:Int)=15)=False by decide];rw[ih x _ L6];simp
   have m:dx (Y5 k x)=false:=by
    by_cases e:x.op=14<;>simp[dx,Y5,e,j,l]
   by_cases e:x.op=14
   ·have hp:Y5 k x=⟨x.op,x.a,x.b,k,x.name⟩:=(by simp[Y5,e]);rw[hp] at m;simp only[e,go,N3,N4,Mz,N0,A0,hp,show((14:Int)=16)=False by decide,show((14:Int)=15)=False by decide];rw[ih _ _ d9];rw[e] at m;simp[m]
   ·have hp:Y5 k x=x:=(by simp[Y5,e]);rw[hp] at m;simp only[j,l,e,go,N4,Mz,N0,A0,hp];rw[ih _ _ d9];simp[m]
  rw[k9];rw[ga,Mz];by_cases e:x.op=14
  ·by_cases J:k<d.length
   ·obtain⟨c,n⟩:∃c,d[k]?=some c:=⟨_,IS J⟩;have f:(k:Int)<(d.length:Int):=d9;have o:j4 d (k:Int)=some c:=by rw[D7,n]
    by_cases q:0<=c
    ·cases u:lh W c x.name with
     |none =>
      have g:de W d M.code.length k x out.length t=none:=(by simp only[de,e,if_true,n,q,u]);have:=plain g;simp only[f,e,o,q,N3,Mz,A0,xN N d9 W C hs,u];simp only[e,N3] at this;exact this
     |some y =>
      obtain⟨kk,xx,K,P⟩:=vP u;have D:=G kk xx K y P;have ya:=D.args;have yt:=D.a8;have yc:=D.len;have B:=size_eq N y D.toLeafy;have hsb:Q7 y<=1000:=by unfold Q7;omega
      have w1:wr ((out.length:Int)+((Q7 y:Nat):Int))=out.length+Q7 y:=q9 ino;have w2:wr ((out.length:Int)+((Q7 y:Nat):Int)+(M.code.length:Int))=out.length+Q7 y+M.code.length:=q9 ino;have w3:wr ((out.length:Int)+((Q7 y:Nat):Int)+(M.code.length:Int)-(k:Int))=out.length+Q7 y+M.code.length-k:=q9 ino;have w4:wr (t+1)=t+1:=q9 ino;have w5:wr (t+1+y.args)=t+1+y.args:=q9 ino;have w6:wr (t+1+y.args+y.a8)=t+1+y.args+y.a8:=q9 ino;by_cases h:fP y=true/\y.args=x.a/\out.length+Q7 y+M.code.length<=240+k/\t+1+y.args+y.a8<=40
      ·have H:de W d M.code.length k x out.length t=some (y,c):=by simp only[de,e,if_true,n,q,u];rw[N2 h]
       obtain⟨f1,p,Z,z⟩:=h;have i:((out.length:Int)+Q7 y+M.code.length-k)<=240:=d9;simp only[f,e,o,q,N3,Mz,A0,xN N d9 W C hs,u,wW,f1,p,B,w1,w2,w3,w4,i];rw[<-p];simp only[w5,w6,z,N3];rw[d29 N d9 W M out t _ fix c (k:Int) x y D p ht d9];simp only[A0,Mz];rw[wE N hN W C hs G d M hM r (k+1) _ _ _ _ true hr d9 (by simp[ig];omega) d9 (by simp[ad]) d9];rw[J8,H];simp[gH,Y0,dr,O5.out,O5.len,O5.eP,ig]
      ·have g:de W d M.code.length k x out.length t=none:=by simp only[de,e,if_true,n,q,u];rw[N1 h]
       have:=plain g;have O:(((bif fP y then(bif decide (y.args=x.a) then((pJ N y).bind fun Q=>(bif decide ((wr ((wr ((wr ((out.length:Int)+Q))+(M.code.length:Int)))-(k:Int)))<=(240:Int)) then some (decide ((wr ((wr ((wr (t+(1:Int)))+y.args))+y.a8))<=(40:Int))) else some (false))) else some (false)) else some (false))):Option Bool)=some false:=by
        rw[B];simp only[A0,w1,w2,w3,w4,w5,w6];by_cases f1:fP y=true
        ·by_cases p:y.args=x.a
         ·by_cases Z:out.length+Q7 y+M.code.length<=240+k
          ·have z:¬t+1+y.args+y.a8<=40:=fun z=>h ⟨f1,p,Z,z⟩;have i:((out.length:Int)+Q7 y+M.code.length-k)<=240:=d9;simp only[f1,N6 p,N6 i,N5 z,Mz]
          ·have i:¬((out.length:Int)+Q7 y+M.code.length-k)<=240:=d9;simp only[f1,N6 p,N5 i,Mz,N0]
         ·simp only[f1,N5 p,Mz,N0]
        ·simp only[Bool.not_eq_true] at f1;simp only[f1,N0]
       simp only[f,e,o,q,N3,Mz,A0,xN N d9 W C hs,u,wW,O,N0];simp only[e,N3] at this;exact this
    ·have g:de W d M.code.length k x out.length t=none:=(by simp only[de,e,if_true,n,q,if_false]);have:=plain g;simp only[f,e,o,q,N3,N4,Mz,N0,A0];simp only[e,N3] at this;exact this
   ·have n:d[k]?=none:=Md d9;have f:¬(k:Int)<(d.length:Int):=d9;have g:de W d M.code.length k x out.length t=none:=by simp only[de,e,if_true,n]
    have:=plain g;simp only[f,e,N3,N4,Mz,N0,A0];simp only[e,N3] at this;exact this
  ·have g:de W d M.code.length k x out.length t=none:=(by simp only[de,e,if_false]);have:=plain g;simp only[e,N4,N0,A0];simp only[e,N4] at this;exact this
theorem ud (N:Nat) (d f:List Int):∀(l:List O5) (k:Nat) (pre:List Ins),f.drop k=dr l pre.length->(∀i,O5.pl i∈l->dx i=true->∃a,j4 d i.a=some a) ->
  k8 N d f (dr l pre.length) k (pre++gH l pre.length)=some (pre++dv d l pre.length)
 |[],k,pre,_,_=>by simp[dr,k8,gH,dv]
 |.pl i::l,k,pre,hd,hj=>by
  have e:∀i,O5.pl i∈l->dx i=true->∃a,j4 d i.a=some a:=fun i hi=>hj i (by simp[hi]);have b:∀v:Ins,(pre++[v]).length=pre.length+1:=fun v=>l9;have e1:∀v:Ins,pre++(v::gH l (pre.length+1))=(pre++[v])++gH l (pre.length+1):=fun v=>l9;by_cases n:dx i=true
  ·obtain⟨a,m⟩:=hj i l9 n;simp only[dr,n,if_true] at hd⊢;obtain⟨r,u,_⟩:=eE hd.symm;have j:j4 (pre++(i::gH l (pre.length+1))) (pre.length:Int)=some i:=by rw[D7];simp
   have ih:=ud N d f l (k+1) (pre++[oA i a]) (by rw[b];exact u.symm) e;simp only[b] at ih;rw[k8];simp only[gH,O5.out,O5.len,List.singleton_append,D7,r,A0];rw[<-D7,j];simp only[A0,m,Mg];rw[List.set_append_right _ _ (It _),Nat.sub_self,List.set_cons_zero];have q:=e1 (oA i a);unfold oA at q ih;rw[q,ih];simp only[dv,fG,n,if_true,oA];rw[fB (l6 m).1] at m;rw[m];simp
  ·have g:dx i=false:=by cases h:dx i<;>simp_all
   have o:dr (O5.pl i::l) pre.length=dr l (pre.length+1):=(by simp[dr,g]);rw[o] at hd⊢;have ih:=ud N d f l k (pre++[i]) (by rw[b];exact hd) e;simp only[b] at ih;show k8 N d f (dr l (pre.length+1)) k (pre++(i::gH l (pre.length+1)))=some (pre++(fG d i::dv d l (pre.length+1)));rw[e1,ih];simp[fG,g]
 |.pc y s c p::l,k,pre,hd,hj=>by
  have e:∀i,O5.pl i∈l->dx i=true->∃a,j4 d i.a=some a:=fun i hi=>hj i (by simp[hi]);have b:(pre++eJ y s c p pre.length).length=pre.length+Q7 y:=by simp[ig]
  have o:dr (O5.pc y s c p::l) pre.length=dr l (pre.length+Q7 y):=by simp[dr]
  rw[o] at hd⊢;have ih:=ud N d f l k (pre++eJ y s c p pre.length) (by rw[b];exact hd) e;simp only[b] at ih;simp only[gH,O5.out,O5.len,dv,<-MV,ih]
theorem xE (w:Wd) (a:List Int) (L:Nat):∀(r:List Ins) (k size:Nat) (t:Int),(J8 w a L r k size t).1.length=r.length
 |[],_,_,_=>rfl
 |i::r,k,size,t=>by
  rw[J8];split<;>simp[xE w a L r]
theorem BD : ∀(l:List O5) (b:Nat),(Y0 l b).length=l.length
 |[],_=>rfl
 |x::l,b=>by simp[Y0,BD l]
theorem wF (w:Wd) (a:List Int) (L:Nat):∀(r:List Ins) (k size:Nat) (t:Int) (i:Ins),O5.pl i∈(J8 w a L r k size t).1->dx i=true->i∈r
 |[],_,_,_,i,h,_=>by cases h
 |x::r,k,size,t,i,h,hj=>by
  rw[J8] at h;split at h
  ·simp only[MG,reduceCtorEq,false_or] at h;exact Mr _ (wF w a L r _ _ _ i h hj)
  ·simp only[MG,O5.pl.injEq] at h;rcases h with h|h
   ·have hp:Y5 k x=x:=by
     rw[h] at hj;unfold Y5 at hj⊢;split
     ·rename_i b;rw[N2 b] at hj;simp[dx,b] at hj
     ·rfl
    rw[h,hp];simp
   ·exact Mr _ (wF w a L r _ _ _ i h hj)
def HH {N:Nat} {w:Wd} (h:I6 N w):∀x∈w.a7,0<=x.aG/\x.aG<=6:=fun x b=>by
 obtain⟨j,a⟩:=Mv.1 b;have:=h.cls j x a;exact⟨this.2.2.2.2.1,this.2.2.2.2.2⟩
def Cq {N:Nat} {w:Wd} (hN:4194304<=N) (hs:D6 w) (h:I6 N w):eL w:=fun k x e y f=>by
 have mp:=d66 d9 hs.1 h e f;have a:=kH (HH h) hs.1 (k:Int);have c:=h.many;have g:=mp.args;have l:=mp.a8;have j:=mp.len;refine⟨⟨g,l,j,fun i hi=>d56 N w _ y i d9 hs.1 (mp.num i hi),fun i hi d=>HG N w _ y i d9 (mp.num i hi) d⟩,fun i hi=>?_⟩;have b:=mp.num i hi;rw[AD N w k y i d9 hs.1 d9 d9 d9 a d9] at b;exact Jr (Option.some.inj b) hs.1 d9 d9 a.2 d9
def oE : List O5->Nat
 |[]=>0
 |x::l=>x.len+oE l
theorem xB (w:Wd) (a:List Int) (L:Nat):∀(r:List Ins) (k size:Nat) (t:Int),r.length+k=L->size+r.length<=240->size+oE (J8 w a L r k size t).1<=240
 |[],k,size,t,_,h=>by simpa[J8,oE] using h
 |i::r,k,size,t,hk,h=>by
  simp only[ML] at hk h;rw[J8];split
  ·rename_i y c b;have:=(pW b).2.2.2.2.2.2.1;have ih:=xB w a L r (k+1) (size+Q7 y) (t+(1+y.args+y.a8)) d9 d9;simp only[oE,O5.len];omega
  ·have ih:=xB w a L r (k+1) (size+1) t d9 d9;simp only[oE,O5.len];omega
theorem uq (w:Wd) (b:eL w) (a:List Int) (L:Nat):∀(r:List Ins) (k size:Nat) (t:Int) (y:Me) (s c p:Int),O5.pc y s c p∈(J8 w a L r k size t).1->vo y/\fP y=true
 |[],_,_,_,_,_,_,_,h=>by cases h
 |i::r,k,size,t,y,s,c,p,h=>by
  rw[J8] at h;split at h
  ·rename_i n c' g;rcases MG.1 h with h|h
   ·cases h;obtain⟨_,_,_,j,d,_⟩:=pW g;obtain⟨l,m,e,f⟩:=vP j;exact⟨b l m e y f,d⟩
   ·exact uq w b a L r _ _ _ y s c p h
  ·rcases MG.1 h with h|h
   ·cases h
   ·exact uq w b a L r _ _ _ y s c p h
def js (w:Wd) (c k:Int) (a:List Int):Fs×Bool :=
 if c<0\/(w.a7.length:Int)<=c\/k<0 then(⟨0,BY,0,0,[]⟩,false) else
 match w.a7[c.toNat]? with
 |none=>(⟨0,BY,0,0,[]⟩,false)
 |some x=>match x.aB[k.toNat]? with
  |none=>(⟨0,BY,0,0,[]⟩,false)
  |some m=>let q:=J8 w a m.code.length m.code 0 0 m.a8
   if q.1.any O5.eP=true then(⟨c,m.name,w.aC,q.2,dv (Y0 q.1 0) q.1 0⟩,true) else(⟨0,BY,0,0,[]⟩,false)
def d84 (N:Nat) (hN:4194304<=N) (w:Wd) (hs:D6 w) (hp:I6 N w) (c k:Int) (b:List Int):qs N w c k b=some (js w c k b):=by
 have v:=Cq hN hs hp;unfold qs js;by_cases d:c<0
 ·simp[d]
 by_cases g:(w.a7.length:Int)<=c
 ·simp[d,g]
 by_cases c3:k<0
 ·simp[d,g,c3]
 obtain⟨x,r,f⟩:=db (l:=w.a7) (i:=c) d9 d9;by_cases s:(x.aB.length:Int)<=k
 ·have:x.aB[k.toNat]?=none:=Md d9;simp[d,g,c3,s,f,r,this]
 obtain⟨m,y,q⟩:=db (l:=x.aB) (i:=k) d9 d9;have h:=v _ x r m (MP y);have e:=h.len;have A:=h.a8;have o:∀i,O5.pl i∈(J8 w b m.code.length m.code 0 0 m.a8).1->dx i=true->∃a,j4 (Y0 (J8 w b m.code.length m.code 0 0 m.a8).1 0) i.a=some a:=fun i hi n=>by
  have j:=wF w b m.code.length m.code 0 0 m.a8 i hi n;have z:=h.jump i j (by simp only[dx,Bool.or_eq_true,NA] at n;exact n);obtain⟨a,B,p⟩:=db (l:=Y0 (J8 w b m.code.length m.code 0 0 m.a8).1 0) (i:=i.a) z.1 (by rw[BD,xE];exact z.2);exact⟨a,p⟩
 have e1:=wE N hN w hp.cq hs v b m e m.code 0 [] m.a8 [] [] false rfl d9 L6 d9 rfl l9;simp only[Ms,List.nil_append,Bool.false_or] at e1;simp only[d,g,c3,s,f,q,N4,N0,A0,e1,r,y,or_self,if_false];cases C:(J8 w b m.code.length m.code 0 0 m.a8).1.any O5.eP with
 |false=>simp
 |true =>
  have u:=ud N (Y0 (J8 w b m.code.length m.code 0 0 m.a8).1 0) (dr (J8 w b m.code.length m.code 0 0 m.a8).1 0) (J8 w b m.code.length m.code 0 0 m.a8).1 0 [] rfl o;simp only[Ms,List.nil_append] at u;simp only[MH,N0,u,A0,if_true]
def gF (N:Nat) (w:Wd) (t:List Tl) (c k:Int):List Int:=(nN N w t c k).getD []
def nt (N:Nat) (w:Wd) (t:List Tl) (c k:Nat):List Fs:=if(js w (c:Int) (k:Int) (gF N w t c k)).2=true then[(js w (c:Int) (k:Int) (gF N w t c k)).1] else[]
def cj (N:Nat) (w:Wd) (t:List Tl) (c:Nat):List Me->Nat->List Fs
 |[],_=>[]
 |_::r,k=>nt N w t c k++cj N w t c r (k+1)
def gw (N:Nat) (w:Wd) (t:List Tl):List Cl->Nat->List Fs
 |[],_=>[]
 |x::r,c=>cj N w t c x.aB 0++gw N w t r (c+1)
def d68 (N:Nat) (w:Wd) (t:List Tl) (c k:Nat):(nt N w t c k).length<=1:=by
 unfold nt;split<;>simp
theorem CD (N:Nat) (w:Wd) (t:List Tl) (c:Nat):∀(r:List Me) (k:Nat),(cj N w t c r k).length<=r.length
 |[],_=>It _
 |x::r,k=>by
  have:=d68 N w t c k;have:=CD N w t c r (k+1);simp only[cj,MK,ML];omega
section
variable (N:Nat) (hN:4194304<=N) (w:Wd) (hs:D6 w) (hp:I6 N w) (t:List Tl)
include hN hs hp
def d74 (c k:Int):nN N w t c k=some (gF N w t c k):=by
 obtain⟨L,a⟩:=Fq N w t c k d9 hp.cq hs;rw[gF,a];rfl
theorem wU (c:Nat):∀(r:List Me) (k:Nat) (a:List Fs),a.length+r.length<=1000000->lS N w t c r k a=some (a++cj N w t c r k)
 |[],k,a,_=>by simp[lS,cj]
 |x::r,k,a,h=>by
  simp only[ML] at h;rw[lS,d74 N hN w hs hp t];simp only[A0,d84 N hN w hs hp];have g:∀v:Fs,IN ((a.length+[v].length)*64) 140737488355328=true:=fun v=>F6 L6;cases b:(js w (c:Int) (k:Int) (gF N w t c k)).2 with
  |true =>
   simp only[Mz,g,A0];rw[wU c r (k+1) _ L6];simp[cj,nt,b]
  |false =>
   simp only[N0,A0];rw[wU c r (k+1) _ d9];simp[cj,nt,b]
theorem Ah : ∀(r:List Cl) (c:Nat) (a:List Fs),(∀x∈r,x.aB.length<=8)->a.length+8*r.length<=1000000->lR N w t r c a=some (a++gw N w t r c)
 |[],c,a,_,_=>by simp[lR,gw]
 |x::r,c,a,hm,h=>by
  simp only[ML] at h;have d:=hm x l9;have hl:=CD N w t c x.aB 0;rw[lR,wU N hN w hs hp t c x.aB 0 a d9];simp only[A0,Ah r (c+1) (a++cj N w t c x.aB 0) (fun y b=>hm y (by simp[b])) L6,gw,MV]
def HY : sY N w t=some (gw N w t w.a7 0):=by
 unfold sY;have b:=hp.many;rw[Ah N hN w hs hp t w.a7 0 [] (fun x a=>by
  obtain⟨i,hi⟩:=Mv.1 a;exact(hp.al i x hi).2.1) L6]
 simp
end
section
variable (N:Nat) (hN:4194304<=N) (w:Wd) (hs:D6 w) (hp:I6 N w) (t:List Tl)
include hN hs hp
end
def bK : List O5->Nat->Nat
 |_,0=>0
 |[],_+1=>0
 |x::l,p+1=>x.len+bK l p
theorem xn : ∀{l:List O5} {p:Nat} {x:O5},l[p]?=some x->bK l (p+1)=bK l p+x.len
 |[],p,x,h=>by simp at h
 |y::l,0,x,h=>by
  simp only[My,Option.some.injEq] at h;subst h;cases l<;>simp[bK]
 |y::l,p+1,x,h=>by
  rw[bK,bK,xn (p:=p) (l:=l) (by simpa using h)];omega
theorem O5.ki (x:O5):1<=x.len:=by
 cases x with
 |pl i=>exact It _
 |pc y s c p=>simp only[O5.len,Q7];omega
theorem yZ : ∀{l:List O5} {p q:Nat},p<q->q<=l.length->bK l p<bK l q
 |[],p,q,h,a=>by simp at a;omega
 |x::l,p,0,h,a=>d9
 |x::l,0,q+1,h,a=>by
  have:=x.ki;simp only[bK];omega
 |x::l,p+1,q+1,h,a=>by
  have:=yZ (l:=l) (p:=p) (q:=q) d9 (by simpa using a);simp only[bK];omega
theorem BS : ∀(l:List O5) (b p:Nat),p<l.length->(Y0 l b)[p]?=some ((b+bK l p:Nat):Int)
 |[],b,p,h=>by simp at h
 |x::l,b,0,h=>by simp[Y0,bK]
 |x::l,b,p+1,h=>by
  rw[Y0,Mw,BS l (b+x.len) p (by simpa using h),bK,Mo]
theorem xP (a:List Int):∀(l:List O5) (b:Nat),(dv a l b).length=bK l l.length
 |[],b=>rfl
 |.pl i::l,b=>by simp[dv,bK,xP a l (b+1),O5.len];omega
 |.pc y s c p::l,b=>by simp[dv,bK,xP a l (b+Q7 y),O5.len,ig]
theorem xj (a:List Int):∀(l:List O5) (b p:Nat) (i:Ins),l[p]?=some (.pl i)->(dv a l b)[bK l p]?=some (fG a i)
 |[],b,p,i,h=>by simp at h
 |.pl j::l,b,0,i,h=>by
  simp only[My,Option.some.injEq,O5.pl.injEq] at h;subst h;rfl
 |.pc y s c q::l,b,0,i,h=>by simp at h
 |.pl j::l,b,p+1,i,h=>by
  rw[bK,dv,show(O5.pl j).len+bK l p=bK l p+1 by simp[O5.len];omega,Mw];exact xj a l (b+1) p i (by simpa using h)
 |.pc y s c q::l,b,p+1,i,h=>by
  rw[bK,dv,Ma (by simp[O5.len,ig])];simp only[O5.len,ig,Nat.add_sub_cancel_left];exact xj a l (b+Q7 y) p i (by simpa using h)
theorem xb (d:List Int):∀(l:List O5) (b p:Nat) (y:Me) (s c q:Int),l[p]?=some (.pc y s c q)->∀r,r<Q7 y->(dv d l b)[bK l p+r]?=(eJ y s c q (b+bK l p))[r]?
 |[],b,p,y,s,c,q,h,r,a=>by simp at h
 |.pl j::l,b,0,y,s,c,q,h,r,a=>by simp at h
 |.pc y' s' c' q'::l,b,0,y,s,c,q,h,r,a=>by
  simp only[My,Option.some.injEq,O5.pc.injEq] at h;obtain⟨rfl,rfl,rfl,rfl⟩:=h;simp only[bK,dv,Mi,Nat.add_zero];rw[Mp (by rw[ig];exact a)]
 |.pl j::l,b,p+1,y,s,c,q,h,r,a=>by
  rw[bK,dv,show(O5.pl j).len+bK l p+r=bK l p+r+1 by simp[O5.len];omega,Mw,xb d l (b+1) p y s c q (by simpa using h) r a];congr 2;simp[O5.len];omega
 |.pc y' s' c' q'::l,b,p+1,y,s,c,q,h,r,a=>by
  rw[bK,dv,Ma (by simp[O5.len,ig];omega)];simp only[O5.len,ig];rw[show Q7 y'+bK l p+r-Q7 y'=bK l p+r by omega,xb d l (b+Q7 y') p y s c q (by simpa using h) r a];congr 2;omega
theorem p5 (w:Wd) (b:eL w) (a:List Int) (L:Nat):∀(r:List Ins) (k size:Nat) (t:Int),t<=(J8 w a L r k size t).2
 |[],k,size,t=>MO _
 |i::r,k,size,t=>by
  rw[J8];split
  ·rename_i y c g;obtain⟨_,_,_,h,_⟩:=pW g;obtain⟨j,l,e,f⟩:=vP h;have d:=(b j l e y f).toLeafy;have:=p5 w b a L r (k+1) (size+Q7 y) (t+(1+y.args+y.a8));have m:=d.args;have n:=d.a8;simp only;omega
  ·exact p5 w b a L r (k+1) (size+1) t
theorem xJ (w:Wd) (e:eL w) (a:List Int) (L:Nat):∀(r:List Ins) (k size:Nat) (t:Int) (p:Nat) (i:Ins),r[p]?=some i->∃b sz,t<=b /\
  ((de w a L (k+p) i sz b=none/\(J8 w a L r k size t).1[p]?=some (.pl (Y5 (k+p) i))) \/
   ∃y c,de w a L (k+p) i sz b=some (y,c)/\(J8 w a L r k size t).1[p]?=some (.pc y b c ((k+p:Nat):Int))/\b+1+y.args+y.a8<=(J8 w a L r k size t).2)
 |[],k,size,t,p,i,h=>by simp at h
 |j::r,k,size,t,p,i,h=>by
  rw[J8];cases f:de w a L k j size t with
  |none =>
   cases p with
   |zero =>
    simp only[My,Option.some.injEq] at h;subst h;exact⟨t,size,MO _,.inl ⟨f,rfl⟩⟩
   |succ p =>
    obtain⟨b,sz,g,d⟩:=xJ w e a L r (k+1) (size+1) t p i (by simpa using h);refine⟨b,sz,g,?_⟩;rw[show k+1+p=k+(p+1) by omega] at d;simpa using d
  |some q =>
   obtain⟨y,c⟩:=q;obtain⟨_,_,_,n,_⟩:=pW f;obtain⟨o,s,g1,m⟩:=vP n;have l:=(e o s g1 y m).toLeafy;have u:=l.args;have v:=l.a8;cases p with
   |zero =>
    simp only[My,Option.some.injEq] at h;subst h;have:=p5 w e a L r (k+1) (size+Q7 y) (t+(1+y.args+y.a8));exact⟨t,size,MO _,.inr ⟨y,c,f,rfl,bJ⟩⟩
   |succ p =>
    obtain⟨b,sz,g,d⟩:=xJ w e a L r (k+1) (size+Q7 y) (t+(1+y.args+y.a8)) p i (by simpa using h);refine⟨b,sz,d9,?_⟩;rw[show k+1+p=k+(p+1) by omega] at d;simpa using d
def br (w:Wd) (H:List Ob) (self:V) (args a8 aA:List V) (i:Ins):Option (List Ob×List V×List V×Int) :=
 if i.op=1 then some (H,a8,aA++[self],0)
 else if i.op=2 then(j4 args i.a).map fun v=>(H,a8,aA++[v],0)
 else if i.op=3 then(j4 a8 i.a).map fun v=>(H,a8,aA++[v],0)
 else if i.op=4 then some (H,a8,aA++[lZ H self i.a],0)
 else if i.op=5 then some (H,a8,aA++[⟨3,i.a⟩],0)
 else if i.op=6 then some (H,a8,aA++[⟨0,0⟩],0)
 else if i.op=7 then some (H,a8,aA++[⟨1,0⟩],0)
 else if i.op=8 then some (H,a8,aA++[⟨2,0⟩],0)
 else if i.op=9 then aA.getLast?.map fun v=>(H,a8,aA.dropLast,0)
 else if i.op=10 then aA.getLast?.map fun v=>(H,a8,aA++[v],0)
 else if i.op=11 then aA.getLast?.bind fun v=>if 0<=i.a/\i.a<a8.length then some (H,a8.set i.a.toNat v,aA.dropLast,0) else none
 else if i.op=12 then aA.getLast?.bind fun v=>(jf H self i.a v).map fun h=>(h,a8,aA.dropLast,0)
 else if i.op=19 then(j4 a8 i.a).map fun t=>(H,a8,aA++[lZ H t i.b],0)
 else if i.op=20 then(j4 a8 i.a).bind fun t=>aA.getLast?.bind fun v=>(jf H t i.b v).map fun h=>(h,a8,aA.dropLast,0)
 else if i.op=13 then(if 60<=H.length then some (H,a8,aA,15) else some (H++[⟨i.a,MI (p8 w i.a).toNat ⟨0,0⟩⟩],a8,aA++[⟨4,(H.length:Int)⟩],0))
 else some (H,a8,aA,0)
def iW (c:Cf) (f:j3) (F:List j3) (r:List Ob×List V×List V×Int):Cf:={ c with heap:=r.1,fs:={ f with a8:=r.2.1,aA:=r.2.2.1 }::F,err:=r.2.2.2 }
def vU (w:Wd) (c:Cf) (C:c.err=0) (f:j3) (F:List j3) (i:Ins):kO w c f F i=(br w c.heap f.aR f.args f.a8 f.aA i).map (iW c f F):=by
 obtain⟨H,s,t,fs,b,e,ev⟩:=c;simp only at C;subst C;unfold kO br;by_cases o:i.op=1
 ·simp only[N2 o];rfl
 simp only[N1 o];by_cases p:i.op=2
 ·simp only[N2 p,Option.map_map];rfl
 simp only[N1 p];by_cases q:i.op=3
 ·simp only[N2 q,Option.map_map];rfl
 simp only[N1 q];by_cases r:i.op=4
 ·simp only[N2 r];rfl
 simp only[N1 r];by_cases x:i.op=5
 ·simp only[N2 x];rfl
 simp only[N1 x];by_cases y:i.op=6
 ·simp only[N2 y];rfl
 simp only[N1 y];by_cases z:i.op=7
 ·simp only[N2 z];rfl
 simp only[N1 z];by_cases A:i.op=8
 ·simp only[N2 A];rfl
 simp only[N1 A];by_cases B:i.op=9
 ·simp only[N2 B,cN,Option.map_map];rfl
 simp only[N1 B];by_cases g:i.op=10
 ·simp only[N2 g,Option.map_map];rfl
 simp only[N1 g];by_cases h:i.op=11
 ·simp only[N2 h,cN];cases D:f.aA.getLast? with
  |none=>rfl
  |some v =>
   simp only[Mf,A0];by_cases n:0<=i.a/\i.a<f.a8.length
   ·rw[N2 n,N2 n];rfl
   ·rw[N1 n,N1 n];rfl
 simp only[N1 h];by_cases j:i.op=12
 ·simp only[N2 j,cN];cases D:f.aA.getLast? with
  |none=>rfl
  |some v =>
   simp only[Mf,A0];cases jf H f.aR i.a v<;>rfl
 simp only[N1 j];by_cases l:i.op=19
 ·simp only[N2 l,Option.map_map];rfl
 simp only[N1 l];by_cases m:i.op=20
 ·simp only[N2 m,cN];cases E:j4 f.a8 i.a with
  |none=>rfl
  |some u =>
   cases D:f.aA.getLast? with
   |none=>rfl
   |some v =>
    simp only[Mf,A0];cases jf H u i.b v<;>rfl
 simp only[N1 m];by_cases k:i.op=13
 ·simp only[N2 k];by_cases d:60<=H.length
  ·rw[N2 d,N2 d];rfl
  ·rw[N1 d,N1 d];rfl
 simp only[N1 k];rfl
def xH {T:List V} {n:Nat} {a:Int} {v:V} (h:j4 (T.take n) a=some v):j4 T a=some v:=by
 obtain⟨c,b⟩:=l6 h;rw[fB c];rw[Mu] at b;split at b
 ·exact b
 ·cases b
def JO {w:Wd} {H:List Ob} {self:V} {args T aA:List V} {n:Nat} {i:Ins} {r:List Ob×List V×List V×Int} (E:n<=T.length) (h:br w H self args (T.take n) aA i=some r) :
  ∃l,br w H self args T aA i=some (r.1,l,r.2.2.1,r.2.2.2)/\l.take n=r.2.1/\l.length=T.length/\r.2.1.length=n:=by
 have hl:(T.take n).length=n:=by rw[Mq];omega
 unfold br at h⊢;by_cases p:i.op=1
 ·rw[N2 p] at h⊢;cases h;exact⟨T,rfl,rfl,rfl,hl⟩
 rw[N1 p] at h⊢;by_cases q:i.op=2
 ·rw[N2 q] at h⊢;rw[MM] at h;obtain⟨v,b,rfl⟩:=h;rw[b];exact⟨T,rfl,rfl,rfl,hl⟩
 rw[N1 q] at h⊢;by_cases s:i.op=3
 ·rw[N2 s] at h⊢;rw[MM] at h;obtain⟨v,b,rfl⟩:=h;rw[xH b];exact⟨T,rfl,rfl,rfl,hl⟩
 rw[N1 s] at h⊢;by_cases t:i.op=4
 ·rw[N2 t] at h⊢;cases h;exact⟨T,rfl,rfl,rfl,hl⟩
 rw[N1 t] at h⊢;by_cases x:i.op=5
 ·rw[N2 x] at h⊢;cases h;exact⟨T,rfl,rfl,rfl,hl⟩
 rw[N1 x] at h⊢;by_cases y:i.op=6
 ·rw[N2 y] at h⊢;cases h;exact⟨T,rfl,rfl,rfl,hl⟩
 rw[N1 y] at h⊢;by_cases z:i.op=7
 ·rw[N2 z] at h⊢;cases h;exact⟨T,rfl,rfl,rfl,hl⟩
 rw[N1 z] at h⊢;by_cases A:i.op=8
 ·rw[N2 A] at h⊢;cases h;exact⟨T,rfl,rfl,rfl,hl⟩
 rw[N1 A] at h⊢;by_cases B:i.op=9
 ·rw[N2 B] at h⊢;rw[MM] at h;obtain⟨v,b,rfl⟩:=h;rw[b];exact⟨T,rfl,rfl,rfl,hl⟩
 rw[N1 B] at h⊢;by_cases c:i.op=10
 ·rw[N2 c] at h⊢;rw[MM] at h;obtain⟨v,b,rfl⟩:=h;rw[b];exact⟨T,rfl,rfl,rfl,hl⟩
 rw[N1 c] at h⊢;by_cases d:i.op=11
 ·rw[N2 d] at h⊢;obtain⟨v,b,h⟩:=N7 h;rw[b];by_cases m:0<=i.a/\i.a<((T.take n).length:Int)
  ·rw[N2 m] at h;cases h;simp only[A0];rw[N2 ⟨m.1,d9⟩];exact⟨T.set i.a.toNat v,rfl,by rw[List.take_set],Mc,by rw[Mc,hl]⟩
  ·rw[N1 m] at h;cases h
 rw[N1 d] at h⊢;by_cases e:i.op=12
 ·rw[N2 e] at h⊢;obtain⟨v,b,h⟩:=N7 h;rw[MM] at h;obtain⟨C,o,rfl⟩:=h;rw[b];simp only[A0];rw[o];exact⟨T,rfl,rfl,rfl,hl⟩
 rw[N1 e] at h⊢;by_cases g:i.op=19
 ·rw[N2 g] at h⊢;rw[MM] at h;obtain⟨v,b,rfl⟩:=h;rw[xH b];exact⟨T,rfl,rfl,rfl,hl⟩
 rw[N1 g] at h⊢;by_cases j:i.op=20
 ·rw[N2 j] at h⊢;obtain⟨u,D,h⟩:=N7 h;obtain⟨v,b,h⟩:=N7 h;rw[MM] at h;obtain⟨C,o,rfl⟩:=h;rw[xH D,b];simp only[A0];rw[o];exact⟨T,rfl,rfl,rfl,hl⟩
 rw[N1 j] at h⊢;by_cases f:i.op=13
 ·rw[N2 f] at h⊢;by_cases k:60<=H.length
  ·rw[N2 k] at h⊢;cases h;exact⟨T,rfl,rfl,rfl,hl⟩
  ·rw[N1 k] at h⊢;cases h;exact⟨T,rfl,rfl,rfl,hl⟩
 rw[N1 f] at h⊢;cases h;exact⟨T,rfl,rfl,rfl,hl⟩
def rY {a b:List V} {v:V} (h:b.getLast?=some v):(a++b).getLast?=some v/\(a++b).dropLast=a++b.dropLast:=by
 obtain⟨c,rfl⟩:=List.getLast?_eq_some_iff.1 h;rw[<-MV];simp
structure u5 (G:List V) (s:Int) (y:Me) (sf:V) (ag tm:List V):Prop where
 s0:0<=s
 s1:s+1+y.args+y.a8<=G.length
 gb:0<=y.args
 jT:0<=y.a8
 la:(ag.length:Int)=y.args
 lt:(tm.length:Int)=y.a8
 mL:G[s.toNat]?=some sf
 mK:∀(a:Nat) v,ag[a]?=some v->G[s.toNat+1+a]?=some v
 jH:∀(a:Nat) v,tm[a]?=some v->G[s.toNat+1+y.args.toNat+a]?=some v
def KG {w:Wd} {H:List Ob} {self gs:V} {args a8 aA gargs G base:List V} {s:Int} {y:Me} {f:Int} {i:Ins} (b:u5 G s y self args a8) (Y:i.op<=13) (N:1<=i.op) {r:List Ob×List V×List V×Int} (h:br w H self args a8 aA i=some r) :
  ∃t,br w H gs gargs G (base++aA) (ba s y f i)=some (r.1,t,base++r.2.2.1,r.2.2.2)/\u5 t s y self args r.2.1/\t.length=G.length/\∀n:Nat,(n:Int)<=s->t.take n=G.take n:=by
 have X:s.toNat<G.length:=by have:=b.s0;have:=b.s1;have:=b.gb;have:=b.jT;omega
 have A:j4 G s=some self:=by rw[fB b.s0];exact b.mL
 unfold br at h;by_cases p:i.op=1
 ·rw[N2 p] at h;cases h;refine⟨G,?_,b,rfl,fun _ _=>rfl⟩;unfold br ba;simp only[N2 p,A];simp
 rw[N1 p] at h;by_cases x:i.op=2
 ·rw[N2 x] at h;rw[MM] at h;obtain⟨v,d,rfl⟩:=h;obtain⟨O,B⟩:=l6 d;have K:j4 G (s+1+i.a)=some v:=by
   rw[fB (by have:=b.s0;omega),<-b.mK _ _ B];congr 1;have:=b.s0;omega
  refine⟨G,?_,b,rfl,fun _ _=>rfl⟩;unfold br ba;simp only[N1 p,N2 x,K];simp
 rw[N1 x] at h;by_cases C:i.op=3
 ·rw[N2 C] at h;rw[MM] at h;obtain⟨v,d,rfl⟩:=h;obtain⟨O,B⟩:=l6 d;have K:j4 G (s+1+y.args+i.a)=some v:=by
   rw[fB (by have:=b.s0;have:=b.gb;omega),<-b.jH _ _ B];congr 1;have:=b.s0;have:=b.gb;omega
  refine⟨G,?_,b,rfl,fun _ _=>rfl⟩;unfold br ba;simp only[C];simp[K]
 rw[N1 C] at h;by_cases z:i.op=4
 ·rw[N2 z] at h;cases h;refine⟨G,?_,b,rfl,fun _ _=>rfl⟩;unfold br ba;simp only[z];simp[A]
 rw[N1 z] at h;have c:(i.op=5\/i.op=6\/i.op=7\/i.op=8\/i.op=9\/i.op=10)->ba s y f i=⟨i.op,i.a,0,0,BY⟩:=fun M=>by
  unfold ba;rw[N1 p,N1 x,N1 d9,N1 z,N1 d9,N1 d9,N1 d9]
 by_cases D:i.op=5
 ·rw[N2 D] at h;cases h;refine⟨G,?_,b,rfl,fun _ _=>rfl⟩;rw[c d9];unfold br;simp only[D];simp
 rw[N1 D] at h;by_cases E:i.op=6
 ·rw[N2 E] at h;cases h;refine⟨G,?_,b,rfl,fun _ _=>rfl⟩;rw[c d9];unfold br;simp only[E];simp
 rw[N1 E] at h;by_cases F:i.op=7
 ·rw[N2 F] at h;cases h;refine⟨G,?_,b,rfl,fun _ _=>rfl⟩;rw[c d9];unfold br;simp only[F];simp
 rw[N1 F] at h;by_cases I:i.op=8
 ·rw[N2 I] at h;cases h;refine⟨G,?_,b,rfl,fun _ _=>rfl⟩;rw[c d9];unfold br;simp only[I];simp
 rw[N1 I] at h;by_cases J:i.op=9
 ·rw[N2 J] at h;rw[MM] at h;obtain⟨v,d,rfl⟩:=h;obtain⟨e1,o⟩:=rY (a:=base) d;refine⟨G,?_,b,rfl,fun _ _=>rfl⟩;rw[c d9];unfold br;simp only[J,e1,o];simp
 rw[N1 J] at h;by_cases g:i.op=10
 ·rw[N2 g] at h;rw[MM] at h;obtain⟨v,d,rfl⟩:=h;obtain⟨e1,o⟩:=rY (a:=base) d;refine⟨G,?_,b,rfl,fun _ _=>rfl⟩;rw[c d9];unfold br;simp only[g,e1];simp
 rw[N1 g] at h;by_cases j:i.op=11
 ·rw[N2 j] at h;obtain⟨v,d,h⟩:=N7 h;obtain⟨e1,o⟩:=rY (a:=base) d;by_cases L:0<=i.a/\i.a<(a8.length:Int)
  ·rw[N2 L] at h;cases h;have P:=b.s0;have Q:=b.s1;have R:=b.gb;have S:=b.jT;have T:=b.lt;have U:=b.la;refine⟨G.set (s+1+y.args+i.a).toNat v,?_,⟨P,by rw[Mc];exact Q,R,S,U,by rw[Mc];exact T,?_,fun a u m=>?_,fun a u m=>?_⟩,Mc,fun n hn=>?_⟩
   ·unfold br ba;simp only[j,e1,o];simp;omega
   ·rw[List.getElem?_set_ne d9];exact b.mL
   ·have W:a<args.length:=(ME.1 m).1;rw[List.getElem?_set_ne d9];exact b.mK a u m
   ·by_cases q:a=i.a.toNat
    ·subst q;have hl:i.a.toNat<a8.length:=d9;rw[List.getElem?_set_self hl] at m;cases m;rw[show s.toNat+1+y.args.toNat+i.a.toNat=(s+1+y.args+i.a).toNat by omega,List.getElem?_set_self d9]
    ·rw[List.getElem?_set_ne (Ne.symm q)] at m;rw[List.getElem?_set_ne d9];exact b.jH a u m
   ·rw[List.take_set_of_le d9]
  ·rw[N1 L] at h;cases h
 rw[N1 j] at h;by_cases k:i.op=12
 ·rw[N2 k] at h;obtain⟨v,d,h⟩:=N7 h;rw[MM] at h;obtain⟨Z,M,rfl⟩:=h;obtain⟨e1,o⟩:=rY (a:=base) d;refine⟨G,?_,b,rfl,fun _ _=>rfl⟩;unfold br ba;simp only[k,A,e1,o];simp[A,M]
 rw[N1 k] at h;have l:i.op=13:=d9;rw[N1 d9,N1 d9,N2 l] at h;by_cases e:60<=H.length
 ·rw[N2 e] at h;cases h;refine⟨G,?_,b,rfl,fun _ _=>rfl⟩;unfold br ba;simp only[l];simp[e]
 ·rw[N1 e] at h;cases h;refine⟨G,?_,b,rfl,fun _ _=>rfl⟩;unfold br ba;simp only[l];simp[e]
inductive cv (w:Wd) (fuel:Int) (L:St->Int->ByteArray->Int×Int) (Q:Int->Int->Fs×Bool):Cf->Cf->Prop
 |refl (c:Cf):cv w fuel L Q c c
 |step {c c1 c2:Cf}:c.err=0->c.fs≠[]->Wk w Q c->P7 w fuel L Q c=some c1->mu fuel c1<mu fuel c->cv w fuel L Q c1 c2->cv w fuel L Q c c2
section
variable {w:Wd} {fuel:Int} {L:St->Int->ByteArray->Int×Int} {Q:Int->Int->Fs×Bool}
theorem cv.trans {a b c:Cf} (h:cv w fuel L Q a b) (d:cv w fuel L Q b c):cv w fuel L Q a c:=by
 induction h with
 |refl=>exact d
 |step e f g i j _ ih=>exact .step e f g i j (ih d)
theorem cv.path {a b:Cf} (h:cv w fuel L Q a b):Path w fuel L Q a b:=by
 induction h with
 |refl=>exact .refl _
 |step c d _ e _ _ ih=>exact .step c d e ih
end
def qF (w:Wd) (S:Int->Int->List Int):Int->Int->Fs×Bool:=fun k j=>js w k j (S k j)
def bM (w:Wd) (S:Int->Int->List Int) (k j:Int) (m:Me):List O5×Int:=J8 w (S k j) m.code.length m.code 0 0 m.a8
def vg {w:Wd} {S:Int->Int->List Int} {k j:Int} {x:Cl} {m:Me} (b:j4 w.a7 k=some x) (a:j4 x.aB j=some m) :
  qF w S k j=if(bM w S k j m).1.any O5.eP=true then(⟨k,m.name,w.aC,(bM w S k j m).2,dv (Y0 (bM w S k j m).1 0) (bM w S k j m).1 0⟩,true) else(⟨0,BY,0,0,[]⟩,false):=by
 have c:=fU b;have d:=fU a;unfold qF js;rw[N1 d9,(l6 b).2];simp only;rw[(l6 a).2];rfl
theorem xA (w:Wd) (b:eL w) (a:List Int) (L:Nat):∀(r:List Ins) (k size:Nat) (t:Int),t<=40->(J8 w a L r k size t).2<=40
 |[],k,size,t,h=>h
 |i::r,k,size,t,h=>by
  rw[J8];split
  ·rename_i y c d;have:=(pW d).2.2.2.2.2.2.2;exact xA w b a L r _ _ _ d9
  ·exact xA w b a L r _ _ t h
theorem DP : ∀l:List O5,bK l l.length=oE l
 |[]=>rfl
 |x::l=>by simp only[ML,bK,oE,DP l]
def JP (l:List O5):bK l 0=0:=by cases l<;>rfl
structure FF (w:Wd) (S:Int->Int->List Int) (g p:j3) (m:Me):Prop where
 aY:g.aY=true
 bn:p.aY=false
 cls:g.aI=p.aI
 iV:g.aL=p.aL
 self:g.aR=p.aR
 args:g.args=p.args
 al:∃x,j4 w.a7 p.aI=some x/\j4 x.aB p.aL=some m
 bh:p.code=m.code
 codeF:g.code=dv (Y0 (bM w S p.aI p.aL m).1 0) (bM w S p.aI p.aL m).1 0
 len:(g.a8.length:Int)=(bM w S p.aI p.aL m).2
 dm:(p.a8.length:Int)=m.a8
 tk:g.a8.take p.a8.length=p.a8
inductive FR (w:Wd) (S:Int->Int->List Int):j3->j3->Prop
 |same {f:j3}:f.aY=false->FR w S f f
 |aY {g p:j3} {m:Me}:FF w S g p m->g.aA=p.aA->0<=p.aH->g.aH=(bK (bM w S p.aI p.aL m).1 p.aH.toNat:Int)->FR w S g p
inductive dn (w:Wd) (S:Int->Int->List Int):List j3->List j3->Prop
 |nil:dn w S [] []
 |cons {g p:j3} {G P:List j3}:FR w S g p->dn w S G P->dn w S (g::G) (p::P)
structure qm (w:Wd) (S:Int->Int->List Int) (g h p:j3) (m y:Me) (q:Nat) (s c:Int):Prop where
 ff:FF w S g p m
 item:(bM w S p.aI p.aL m).1[q]?=some (.pc y s c (q:Int))
 aH:p.aH=(q:Int)+1
 tZ:h.aY=false
 bj:h.code=y.code
 jG:0<=h.aH
 ad:g.aH=((bK (bM w S p.aI p.aL m).1 q+hl y:Nat):Int)+h.aH
 aA:g.aA=p.aA++h.aA
 ms:m.a8<=s
 a8:u5 g.a8 s y h.aR h.args h.a8
 leaf:fP y=true
structure cd (a b:Cf):Prop where
 heap:a.heap=b.heap
 sends:a.sends=b.sends
 turns:a.turns=b.turns
 back:a.back=b.back
 err:a.err=b.err
inductive CR (w:Wd) (S:Int->Int->List Int) (a b:Cf):Prop
 |out:cd a b->dn w S a.fs b.fs->CR w S a b
 |oN {g h p:j3} {G P:List j3} {m y:Me} {q:Nat} {s c:Int}:cd a b->a.fs=g::G->b.fs=h::p::P->dn w S G P->qm w S g h p m y q s c->CR w S a b
theorem dn.len {w:Wd} {S:Int->Int->List Int} {F G:List j3} (h:dn w S F G):F.length=G.length:=by
 induction h with
 |nil=>rfl
 |cons _ _ ih=>simp[ih]
theorem FF.push {w:Wd} {S:Int->Int->List Int} {g p:j3} {m:Me} (h:FF w S g p m) (v u:V):FF w S (cC g v) (cC p u) m :=
 ⟨h.aY,h.bn,h.cls,h.iV,h.self,h.args,h.al,h.bh,h.codeF,h.len,h.dm,h.tk⟩
theorem FR.push {w:Wd} {S:Int->Int->List Int} {g p:j3} (h:FR w S g p) (v:V):FR w S (cC g v) (cC p v):=by
 cases h with
 |same h=>exact .same h
 |aY h a b c=>exact .aY (h.push v v) (by simp[cC,a]) b c
def CL {w:Wd} {S:Int->Int->List Int} {a b:Cf} (hS:cd a b) (c:dn w S a.fs b.fs) (v:V):cd (dG a v) (dG b v)/\dn w S (dG a v).fs (dG b v).fs:=by
 unfold dG;cases e:b.fs with
 |nil =>
  rw[e] at c;have:a.fs=[]:=by
   cases d:a.fs with
   |nil=>rfl
   |cons x l=>rw[d] at c;cases c
  simp only[this];exact⟨⟨hS.heap,hS.sends,hS.turns,rfl,hS.err⟩,.nil⟩
 |cons p P =>
  rw[e] at c;cases d:a.fs with
  |nil=>rw[d] at c;cases c
  |cons g G =>
   rw[d] at c;cases c with
   |cons f h=>exact⟨⟨hS.heap,hS.sends,hS.turns,hS.back,hS.err⟩,.cons (f.push v) h⟩
section
variable {w:Wd} {fuel:Int} {S:Int->Int->List Int}
def xe (W:cZ w) (e:eL w) {k j:Int} {x:Cl} {m:Me} (c:j4 w.a7 k=some x) (b:j4 x.aB j=some m) (f:0<=m.a8) (self:V) (args:List V):FR w S (fh (qF w S) k j m self args) (fh cH k j m self args):=by
 have d:fh cH k j m self args=⟨k,j,false,m.code,self,args,MI m.a8.toNat ⟨0,0⟩,[],0⟩:=pZ (fun _ _=>rfl) k j m self args;rw[d];unfold fh;rw[vg c b];by_cases h:(bM w S k j m).1.any O5.eP=true
 ·rw[N2 h];simp only[if_true];have a:=p5 w e (S k j) m.code.length m.code 0 0 m.a8;have a:m.a8<=(bM w S k j m).2:=a;refine .aY (m:=m) ⟨rfl,rfl,rfl,rfl,rfl,rfl,⟨x,c,b⟩,rfl,rfl,?_,?_,?_⟩ rfl (MO _) ?_
  ·simp only[List.length_replicate];omega
  ·simp only[List.length_replicate];omega
  ·simp only[List.length_replicate,List.take_replicate];congr 1;omega
  ·simp[JP]
 ·rw[N1 h];exact .same rfl
def C0 (W:cZ w) (s:eL w) {a b i:Cf} (hS:cd a b) (d:dn w S a.fs b.fs) {k j:Int} {self:V} {args:List V} (h:fX w fuel cH b k j self args=some i) :
  ∃g,fX w fuel (qF w S) a k j self args=some g/\cd g i/\dn w S g.fs i.fs:=by
 obtain⟨x,m,o,n,h⟩:=pQ h;have p:=d.len;unfold fX;simp only[o,n,A0];rcases h with⟨g1,rfl⟩|⟨g1,f,rfl⟩|⟨g1,f,e,v,u,h⟩|⟨g1,f,e,r,rfl⟩|⟨g1,f,e,r,rfl⟩
 ·rw[N2 g1];exact⟨_,rfl,⟨hS.heap,hS.sends,hS.turns,hS.back,rfl⟩,d⟩
 ·rw[N1 (by simpa using g1)];have:fuel<=a.sends:=by rw[hS.sends];exact f
  refine⟨V4 a 13,?_,⟨hS.heap,hS.sends,hS.turns,hS.back,rfl⟩,d⟩;by_cases q:m.aV=0
  ·rw[N1 (by simpa using q),N2 this]
  ·rw[N2 q,N2 this]
 ·rw[N1 (by simpa using g1),N2 e,N1 (by rw[hS.sends];omega),u];simp only[A0];have c:cd { a with sends:=a.sends+1 } { b with sends:=b.sends+1 }:=⟨hS.heap,by simp only;rw[hS.sends],hS.turns,hS.back,hS.err⟩;rcases h with⟨l,rfl⟩|⟨l,rfl⟩
  ·rw[N2 l];exact⟨_,rfl,⟨c.heap,c.sends,c.turns,c.back,rfl⟩,d⟩
  ·rw[N1 (by simpa using l)];obtain⟨y,z⟩:=CL c (w:=w) (S:=S) d (ef m.aV self v).1;exact⟨_,rfl,y,z⟩
 ·rw[N1 (by simpa using g1),N1 (by simpa using e),N1 (by rw[hS.sends];omega),N2 d9];exact⟨_,rfl,⟨hS.heap,hS.sends,hS.turns,hS.back,rfl⟩,d⟩
 ·rw[N1 (by simpa using g1),N1 (by simpa using e),N1 (by rw[hS.sends];omega),N1 d9];have t:0<=m.a8:=(W.a8 x (eG o) m (eG n)).1;exact⟨_,rfl,⟨hS.heap,by simp only;rw[hS.sends],hS.turns,hS.back,hS.err⟩,.cons (xe W s o n t self args) d⟩
end
def Jn (a:List Int) (i:Ins):(fG a i).op=i.op/\(fG a i).b=i.b/\(fG a i).name=i.name:=by
 unfold fG oA;split<;>exact⟨rfl,rfl,rfl⟩
def LH (b:List Int) (i:Ins) (h:i.op≠15) (c:i.op≠16):(fG b i).a=i.a:=by
 unfold fG dx;rw[N5 h,N5 c];rfl
def Jo (b:List Int) (i:Ins) (h:i.op=15\/i.op=16):(fG b i).a=(b[i.a.toNat]?).getD 0:=by
 unfold fG dx oA;rcases h with h|h<;>rw[h]<;>rfl
def d97 (k:Nat) (i:Ins):(Y5 k i).op=i.op/\(Y5 k i).a=i.a/\(Y5 k i).b=i.b/\(Y5 k i).name=i.name:=by
 unfold Y5;split<;>exact⟨rfl,rfl,rfl,rfl⟩
def d98 {w:Wd} {H:List Ob} {self:V} {args a8 aA:List V} {i c:Ins} (d:c.op=i.op) (e:c.a=i.a) (f:c.b=i.b):br w H self args a8 aA c=br w H self args a8 aA i:=by
 unfold br;rw[d,e,f]
section
variable {w:Wd} {S:Int->Int->List Int} {fuel:Int}
def Ct {N:Nat} (W:cZ w) (a:eL w):∀k j,(qF w S k j).2=true->0<=(qF w S k j).1.a8/\(qF w S k j).1.a8<=1000:=by
 intro k j h;have g:¬(k<0\/(w.a7.length:Int)<=k\/j<0):=fun n=>by
  unfold qF js at h;rw[N2 n] at h;cases h
 obtain⟨x,f,d⟩:=db (l:=w.a7) (i:=k) d9 d9;cases b:x.aB[j.toNat]? with
 |none =>
  unfold qF js at h;rw[N1 g,f] at h;simp only[b] at h;cases h
 |some m =>
  have c:j4 x.aB j=some m:=by rw[fB d9,b]
  rw[vg d c] at h⊢;by_cases e:(bM w S k j m).1.any O5.eP=true
  ·rw[N2 e];have o:m.a8<=(bM w S k j m).2:=p5 w a (S k j) m.code.length m.code 0 0 m.a8;have q:=(a _ x f m (MP b)).toLeafy.a8;have p:(bM w S k j m).2<=40:=xA w a (S k j) m.code.length m.code 0 0 m.a8 d9;simp only;omega
  ·rw[N1 e] at h;cases h
theorem FF.di {g p:j3} {m:Me} (W:cZ w) (h:FF w S g p m):g.code.length<=240/\p.code.length<=60:=by
 obtain⟨x,c,b⟩:=h.al;have a:=W.code x (eG c) m (eG b);refine⟨?_,by rw[h.bh];exact a⟩;rw[h.codeF,xP,DP];have:=xB w (S p.aI p.aL) m.code.length m.code 0 0 m.a8 rfl d9;simpa[bM] using this
theorem FR.wk {g p:j3} {n:Int} {d:Nat} (W:cZ w) (h:FR w S g p) (f:dh w n d p):bx g:=by
 obtain⟨m,o,R⟩:=f;obtain⟨i,_,_,_,_,l,_⟩:=R.len;cases h with
 |same q=>exact⟨d9,by rw[R.code];have:=R.me.len;omega,fun v a b=>(R.ai v a).num b⟩
 |aY e c j k=>exact⟨by rw[c];omega,by have:=(e.di W).1;omega,fun v a b=>by rw[c] at a;exact(R.ai v a).num b⟩
theorem dn.wk {G P:List j3} {n:Int} (W:cZ w) (h:dn w S G P) (b:∀p∈P,∃d,dh w n d p):∀g∈G,bx g:=by
 induction h with
 |nil=>intro g e;cases e
 |@cons g p G P c i ih =>
  intro x a;rcases MG.1 a with rfl|a
  ·obtain⟨d,hd⟩:=b p l9;exact c.wk W hd
  ·exact ih (fun q f=>b q (by simp[f])) x a
def E7 {N:Nat} (W:cZ w) (d:eL w) {a b:Cf} (I:cy w fuel b) (g:a.heap=b.heap) (i:-1000000<=a.sends/\a.sends<=100000) (l:a.turns=b.turns) (hl:a.fs.length<=900) (e:∀f∈a.fs,bx f):Wk w (qF w S) a:=by
 have c:=I.wk W (Q:=cH) (fun k j h=>by cases h);exact⟨c.cls,c.al,c.aG,Ct (N:=N) W d,by rw[g];exact c.heap,hl,e,i,by rw[l];exact c.turns⟩
theorem FF.rI {g p:j3} {m:Me} (h:FF w S g p m) {q:Nat} {i:Ins} (hi:(bM w S p.aI p.aL m).1[q]?=some (.pl i)):j4 g.code ((bK (bM w S p.aI p.aL m).1 q:Nat):Int)=some (fG (Y0 (bM w S p.aI p.aL m).1 0) i):=by
 rw[D7,h.codeF];exact xj _ _ 0 q i hi
theorem FF.lW {g p:j3} {m y:Me} {s c:Int} (h:FF w S g p m) {q:Nat} (hi:(bM w S p.aI p.aL m).1[q]?=some (.pc y s c (q:Int))) {r:Nat} (a:r<Q7 y) :
  j4 g.code ((bK (bM w S p.aI p.aL m).1 q+r:Nat):Int)=(eJ y s c (q:Int) (bK (bM w S p.aI p.aL m).1 q))[r]?:=by
 rw[D7,h.codeF,xb _ _ 0 q y s c _ hi r a,Mi]
def d44 {y:Me} {s c p:Int} {b r:Nat} (a:r<y.code.length):(eJ y s c p b)[hl y+r]?=(y.code[r]?).map (ba s y ((b+hl y:Nat):Int)):=by
 unfold eJ hl;rw[show 3+y.args.toNat+2*y.a8.toNat+r=(1+y.args.toNat+2*y.a8.toNat+r)+1+1 by omega,Mw,Mw,
  Ma (by simp[gg,jZ];omega)]
 simp only[MK,gg,jZ];rw[show 1+y.args.toNat+2*y.a8.toNat+r-(y.args.toNat+1+2*y.a8.toNat)=r by omega,Mj]
theorem FF.item {g p:j3} {m:Me} (j:eL w) (h:FF w S g p m) (b:0<=p.aH) {i:Ins} (hi:j4 p.code p.aH=some i) :
  (bM w S p.aI p.aL m).1[p.aH.toNat]?=some (.pl (Y5 p.aH.toNat i)) \/
  ∃y t c sz,de w (S p.aI p.aL) m.code.length p.aH.toNat i sz t=some (y,c)/\m.a8<=t/\(bM w S p.aI p.aL m).1[p.aH.toNat]?=some (.pc y t c ((p.aH.toNat:Nat):Int))/\t+1+y.args+y.a8<=(bM w S p.aI p.aL m).2:=by
 rw[h.bh,fB b] at hi;obtain⟨t,sz,d,a⟩:=xJ w j (S p.aI p.aL) m.code.length m.code 0 0 m.a8 p.aH.toNat i hi;rw[Mi] at a;rcases a with⟨_,a⟩|⟨y,c,a,e,f⟩
 ·exact .inl a
 ·exact .inr ⟨y,t,c,sz,a,d,e,f⟩
def Dd (k j:Int) (m:Me):(bM w S k j m).1.length=m.code.length:=xE w (S k j) m.code.length m.code 0 0 m.a8
def nZ {a:Cf} {g g1:j3} {G:List j3} {b:Cf} (j:a.err=0) (c:a.fs=g::G) (d:Wk w (qF w S) a) (e:P7 w fuel (fun _ k s=>l7 w s k) (qF w S) a=some b) (f:b.fs=g1::G) (h:b.sends=a.sends) (i:b.turns=a.turns) (l:Z6 g1+1<=Z6 g) :
  cv w fuel (fun _ k s=>l7 w s k) (qF w S) a b:=by
 refine .step j (by rw[c];simp) d e ?_ (.refl _);simp only[mu,c,f,h,i,MS,Mb];omega
end
structure vm (w:Wd) (S:Int->Int->List Int) (g p:j3) (iF i:Ins):Prop where
 st:g.aA=p.aA
 self:g.aR=p.aR
 args:g.args=p.args
 cls:g.aI=p.aI
 iV:g.aL=p.aL
 tk:g.a8.take p.a8.length=p.a8
 tl:p.a8.length<=g.a8.length
 aH:j4 g.code g.aH=some iF
 op:iF.op=i.op
 nm:iF.name=i.name
 b:iF.b=i.b
 a:i.op≠15->i.op≠16->iF.a=i.a
 di:g.code.length<=240
 next:∀T Tp S',T.length=g.a8.length->Tp.length=p.a8.length->T.take p.a8.length=Tp->FR w S { g with aH:=g.aH+1,a8:=T,aA:=S' } { p with aH:=p.aH+1,a8:=Tp,aA:=S' }
 jmp:i.op=15\/i.op=16->0<=iF.a/\(iF.a<g.aH+1↔i.a<p.aH+1)/\∀S',FR w S { g with aH:=iF.a,aA:=S' } { p with aH:=i.a,aA:=S' }
section
variable {w:Wd} {S:Int->Int->List Int} {fuel:Int}
def Ab (W:cZ w) {p:j3} {i:Ins} (b:p.aY=false) (e:p.code.length<=240) (hi:j4 p.code p.aH=some i) (f:i.op=15\/i.op=16->0<=i.a):vm w S p p i i :=
 ⟨rfl,rfl,rfl,rfl,rfl,List.take_length,It _,hi,rfl,rfl,rfl,fun _ _=>rfl,e,fun T Tp c g j d=>by
  have:T=Tp:=by rw[<-d,List.take_of_length_le d9]
  subst this;exact .same b,fun h=>⟨f h,Iff.rfl,fun c=>.same b⟩⟩
def d53 (W:cZ w) (D:eL w) {g p:j3} {m:Me} {i:Ins} (h:FF w S g p m) (k:g.aA=p.aA) (I:0<=p.aH) (ad:g.aH=(bK (bM w S p.aI p.aL m).1 p.aH.toNat:Int))
  (hi:j4 p.code p.aH=some i) (c:(bM w S p.aI p.aL m).1[p.aH.toNat]?=some (.pl (Y5 p.aH.toNat i))) (G:i.op=15\/i.op=16->0<=i.a/\i.a<m.code.length) :
  vm w S g p (fG (Y0 (bM w S p.aI p.aL m).1 0) (Y5 p.aH.toNat i)) i:=by
 obtain⟨e1,B,C⟩:=Jn (Y0 (bM w S p.aI p.aL m).1 0) (Y5 p.aH.toNat i);obtain⟨d,r,z,A⟩:=d97 p.aH.toNat i;have j:=fU hi;rw[h.bh] at j;have E:p.a8.length<=g.a8.length:=by
  have J:=h.len;have K:=h.dm;have:m.a8<=(bM w S p.aI p.aL m).2:=p5 w D (S p.aI p.aL) m.code.length m.code 0 0 m.a8;omega
 refine⟨k,h.self,h.args,h.cls,h.iV,h.tk,E,by rw[ad];exact h.rI c,by rw[e1,d],by rw[C,A],by rw[B,z],fun u v=>by rw[LH _ _ (by rw[d];exact u) (by rw[d];exact v),r],(h.di W).1,fun T Tp t x o y=>?_,fun b=>?_⟩
 ·refine .aY (m:=m) ⟨h.aY,h.bn,h.cls,h.iV,h.self,h.args,h.al,h.bh,h.codeF,by simp only;rw[x];exact h.len,by simp only;rw[o];exact h.dm,by simp only;rw[o];exact y⟩ rfl bJ ?_;simp only;rw[show(p.aH+1).toNat=p.aH.toNat+1 by omega,xn c,ad];simp[O5.len]
 ·obtain⟨H,L⟩:=G b;have f:i.a.toNat<(bM w S p.aI p.aL m).1.length:=by rw[Dd];omega
  have n:(fG (Y0 (bM w S p.aI p.aL m).1 0) (Y5 p.aH.toNat i)).a=((bK (bM w S p.aI p.aL m).1 i.a.toNat:Nat):Int):=by
   rw[Jo _ _ (by rw[d];exact b),r,BS _ 0 _ f,Mi];rfl
  rw[n];refine⟨d9,?_,fun t=>.aY (m:=m) ⟨h.aY,h.bn,h.cls,h.iV,h.self,h.args,h.al,h.bh,h.codeF,h.len,h.dm,h.tk⟩ rfl H rfl⟩;rw[ad];have s:p.aH.toNat<(bM w S p.aI p.aL m).1.length:=by rw[Dd];omega
  constructor
  ·intro F;by_cases e:i.a<p.aH+1
   ·exact e
   ·have:=yZ (l:=(bM w S p.aI p.aL m).1) (p:=p.aH.toNat) (q:=i.a.toNat) d9 d9;omega
  ·intro F;by_cases e:i.a.toNat=p.aH.toNat
   ·rw[e];omega
   ·have:=yZ (l:=(bM w S p.aI p.aL m).1) (p:=i.a.toNat) (q:=p.aH.toNat) d9 d9;omega
def wm {f:j3} {v:V} (h:f.aA.getLast?=some v):cN f=some (v,{ f with aA:=f.aA.dropLast }):=by
 unfold cN;rw[h];rfl
def Bb (W:cZ w) (hL:eL w) {a b Z:Cf} {g p:j3} {G P:List j3} {d i:Ins} (hS:cd a b) (j:a.fs=g::G) (hb:b.fs=p::P) (K:dn w S G P) (R:vm w S g p d i) (he:b.err=0) (I:cy w fuel b) (Wk0:Wk w (qF w S) a)
  (hi:j4 p.code p.aH=some i) (hop:i.op<=17) (c:P7 w fuel (fun _ k s=>l7 w s k) cH b=some Z) :
  ∃n,cv w fuel (fun _ k s=>l7 w s k) (qF w S) a n/\cd n Z/\(Z.err=0->dn w S n.fs Z.fs):=by
 have O:a.err=0:=by rw[hS.err];exact he
 have hgl:=fU R.aH;have hglen:=R.di;have H:Z6 { g with aH:=g.aH+1 }+1=Z6 g:=sQ hgl.2;have step:∀n,P7 w fuel (fun _ k s=>l7 w s k) (qF w S) a=some n->mu fuel n<mu fuel a->cv w fuel (fun _ k s=>l7 w s k) (qF w S) a n:=fun n h1 h2=>.step O (by rw[j];simp) Wk0 h1 h2 (.refl _);have ad:P7 w fuel (fun _ k s=>l7 w s k) (qF w S) a=(if d.op=14 then kU w fuel (fun _ k s=>l7 w s k) (qF w S) a { g with aH:=g.aH+1 } G d g.aH
  else if d.op=15 then some (cS a { g with aH:=g.aH+1 } G d.a)
  else if d.op=16 then(cN { g with aH:=g.aH+1 }).map (kW a G d)
  else if d.op=17 then(cN { g with aH:=g.aH+1 }).map fun q=>dG { a with fs:=G } q.1
  else if d.op=18 then lr w a { g with aH:=g.aH+1 } G d
  else if d.op=21 then some (iE fuel { a with fs:={ g with aH:=g.aH+1 }::G })
  else kO w a { g with aH:=g.aH+1 } G d):=by
  unfold P7;rw[j];simp only[R.aH,A0]
 rw[R.op] at ad;unfold P7 at c;rw[hb] at c;simp only[hi,A0] at c;have T:∀(X:List V) (to t:Int),0<=to->(to<g.aH+1↔t<p.aH+1)->FR w S { g with aH:=to,aA:=X } { p with aH:=t,aA:=X } ->
   cd (cS a { g with aH:=g.aH+1,aA:=X } G to) (cS b { p with aH:=p.aH+1,aA:=X } P t)/\dn w S (cS a { g with aH:=g.aH+1,aA:=X } G to).fs (cS b { p with aH:=p.aH+1,aA:=X } P t).fs /\
   mu fuel (cS a { g with aH:=g.aH+1,aA:=X } G to)<mu fuel a:=by
  intro X to t h0 D z;have ht:=I.turns;unfold cS;simp only;by_cases E:to<g.aH+1
  ·rw[N2 E,N2 (D.1 E)];refine⟨⟨hS.heap,hS.sends,by simp only;rw[hS.turns],hS.back,by simp only;rw[hS.turns,hS.err]⟩,.cons z K,?_⟩;have:=hS.turns;have e1:Z6 { g with aH:=to,aA:=X }<=Z6 g+240:=by
    unfold Z6;simp only;omega
   simp only[mu,j,MS,Mb];omega
  ·rw[N1 E,N1 (fun h=>E (D.2 h))];refine⟨⟨hS.heap,hS.sends,hS.turns,hS.back,hS.err⟩,.cons z K,?_⟩;have e1:Z6 { g with aH:=to,aA:=X }+1<=Z6 g:=by
    unfold Z6;simp only;omega
   simp only[mu,j,MS,Mb];omega
 by_cases M:i.op=14
 ·rw[N2 M] at c ad;obtain⟨x,cl,m,k0,Y,hy,E,Q,h⟩:=pd c;simp only at Y hy E Q;have ea:d.a=i.a:=R.a d9 d9;have key:P7 w fuel (fun _ k s=>l7 w s k) (qF w S) a=(if(l7 w i.name (G7 b.heap x)).2<0 then some (V4 { a with fs:={ g with aH:=g.aH+1 }::G,ev:=a.ev++[(R6 { g with aH:=g.aH+1 } m d g.aH,G7 b.heap x)] } 10)
    else fX w fuel (qF w S) { a with fs:={ g with aH:=g.aH+1,aA:=p.aA.take (p.aA.length-i.a.toNat-1) }::G,ev:=a.ev++[(R6 { g with aH:=g.aH+1 } m d g.aH,G7 b.heap x)] }
     (l7 w i.name (G7 b.heap x)).1 (l7 w i.name (G7 b.heap x)).2 x (p.aA.drop (p.aA.length-i.a.toNat))):=by
   rw[ad];unfold kU;simp only[ea,R.st,R.nm,R.cls,R.iV,hS.heap];rw[N2 ⟨k0,Y⟩];simp only[hy,E,Q,A0]
  rcases h with⟨h2,rfl⟩|⟨h2,h⟩
  ·rw[N2 h2] at key;refine⟨_,step _ key ?_,⟨hS.heap,hS.sends,hS.turns,hS.back,rfl⟩,fun e=>by cases e⟩;simp only[mu,j,V4,MS,Mb];omega
  ·rw[N1 d9] at key;have z:=R.next g.a8 p.a8 (p.aA.take (p.aA.length-i.a.toNat-1)) rfl rfl R.tk;obtain⟨n,l,B,L⟩:=C0 (fuel:=fuel) W hL (a:={ a with fs:={ g with aH:=g.aH+1,aA:=p.aA.take (p.aA.length-i.a.toNat-1) }::G,ev:=a.ev++[(R6 { g with aH:=g.aH+1 } m d g.aH,G7 b.heap x)] })
    (by exact⟨hS.heap,hS.sends,hS.turns,hS.back,hS.err⟩) (by exact .cons z K) h
   rw[<-key] at l;refine⟨n,step n l ?_,B,fun _=>L⟩;rw[key] at l;obtain⟨x2,m2,J,F,hh⟩:=pQ l;have e0:Z6 { g with aH:=g.aH+1,aA:=p.aA.take (p.aA.length-i.a.toNat-1) }+1=Z6 g:=H;rcases hh with⟨_,rfl⟩|⟨_,_,rfl⟩|⟨_,A,_,v,_,hh⟩|⟨_,_,_,_,rfl⟩|⟨_,A,_,_,rfl⟩
   ·simp only[mu,j,V4,MS,Mb];omega
   ·simp only[mu,j,V4,MS,Mb];omega
   ·rcases hh with⟨_,rfl⟩|⟨_,rfl⟩
    ·simp only at A;simp only[mu,j,V4,MS,Mb];omega
    ·rw[rN];simp only at A;simp only[mu,j,MS,Mb];omega
   ·simp only[mu,j,V4,MS,Mb];omega
   ·simp only at A;have hnew:Z6 (fh (qF w S) (l7 w i.name (G7 b.heap x)).1 (l7 w i.name (G7 b.heap x)).2 m2 x (p.aA.drop (p.aA.length-i.a.toNat)))<=320:=by
     have C:=xe (S:=S) W hL J F (W.a8 x2 (eG J) m2 (eG F)).1 x (p.aA.drop (p.aA.length-i.a.toNat));have hc60:=W.code x2 (eG J) m2 (eG F);generalize hg:fh (qF w S) (l7 w i.name (G7 b.heap x)).1 (l7 w i.name (G7 b.heap x)).2 m2 x (p.aA.drop (p.aA.length-i.a.toNat))=ng at C;have jG:ng.aH=0:=by rw[<-hg];unfold fh;split<;>rfl
     unfold Z6;rw[jG];have hcl:ng.code.length<=240:=by
      cases C with
      |same hs=>rw[pZ (fun _ _=>rfl)];simp only;omega
      |aY hff=>exact(hff.di W).1
     split<;>omega
    simp only[mu,j,MS,Mb];omega
 rw[N1 M] at c ad;by_cases u:i.op=15
 ·rw[N2 u] at c ad;cases c;obtain⟨j0,j1,j2⟩:=R.jmp (.inl u);obtain⟨l,B,L⟩:=T p.aA d.a i.a j0 j1 (j2 p.aA);rw[<-R.st] at l B L;refine⟨_,step _ ad L,?_,fun _=>?_⟩
  ·rw[R.st] at l⊢;exact l
  ·rw[R.st] at B⊢;exact B
 rw[N1 u] at c ad;by_cases y:i.op=16
 ·rw[N2 y] at c ad;rw[MM] at c;obtain⟨⟨v,f2⟩,hv,rfl⟩:=c;obtain⟨o,U⟩:=ij hv;simp only at o U;subst U;have hg:cN { g with aH:=g.aH+1 }=some (v,{ g with aH:=g.aH+1,aA:=p.aA.dropLast }):=by
   rw[wm (f:={ g with aH:=g.aH+1 }) (v:=v) (by rw[show({ g with aH:=g.aH+1 }:j3).aA=g.aA from rfl,R.st];exact o)];simp only[R.st]
  rw[hg] at ad;simp only[Mf] at ad;have hn:=R.next g.a8 p.a8 p.aA.dropLast rfl rfl R.tk;obtain⟨j0,j1,j2⟩:=R.jmp (.inr y);unfold kW at ad⊢;by_cases Y:v.k=1
  ·rw[N2 Y] at ad⊢;obtain⟨l,B,L⟩:=T p.aA.dropLast d.a i.a j0 j1 (j2 p.aA.dropLast);exact⟨_,step _ ad L,l,fun _=>B⟩
  ·rw[N1 Y] at ad⊢;have Q:mu fuel { a with fs:={ g with aH:=g.aH+1,aA:=p.aA.dropLast }::G }<mu fuel a:=by
    have e0:Z6 { g with aH:=g.aH+1,aA:=p.aA.dropLast }+1=Z6 g:=H;simp only[mu,j,MS,Mb];omega
   by_cases k2:v.k=2
   ·rw[N2 k2] at ad⊢;exact⟨_,step _ ad Q,⟨hS.heap,hS.sends,hS.turns,hS.back,hS.err⟩,fun _=>.cons hn K⟩
   ·rw[N1 k2] at ad⊢;exact⟨_,step _ ad Q,⟨hS.heap,hS.sends,hS.turns,hS.back,rfl⟩,fun e=>by cases e⟩
 rw[N1 y] at c ad;by_cases N:i.op=17
 ·rw[N2 N] at c ad;rw[MM] at c;obtain⟨⟨v,f2⟩,hv,rfl⟩:=c;obtain⟨o,_⟩:=ij hv;simp only at o;rw[wm (f:={ g with aH:=g.aH+1 }) (v:=v) (by rw[show({ g with aH:=g.aH+1 }:j3).aA=g.aA from rfl,R.st];exact o)] at ad;obtain⟨l,B⟩:=CL (w:=w) (S:=S) (a:={ a with fs:=G }) (b:={ b with fs:=P }) ⟨hS.heap,hS.sends,hS.turns,hS.back,hS.err⟩ K v;refine⟨_,step _ ad ?_,l,fun _=>B⟩;rw[rN];simp only[mu,j,MS,Mb];omega
 rw[N1 N,N1 (show¬i.op=18 by omega),N1 (show¬i.op=21 by omega)] at c ad;rw[vU w b he,MM] at c;obtain⟨r,hr,rfl⟩:=c;simp only at hr;rw[<-R.tk] at hr;obtain⟨T',t1,t2,t3,t4⟩:=JO R.tl hr;rw[vU w a O] at ad;simp only at ad;have t1':br w a.heap g.aR g.args g.a8 g.aA d=some (r.1,T',r.2.2.1,r.2.2.2):=by
  rw[d98 (i:=i) R.op (R.a u y) R.b,R.self,R.args,R.st,hS.heap,t1]
 rw[t1'] at ad;simp only[Mf] at ad;refine⟨_,step _ ad ?_,⟨rfl,hS.sends,hS.turns,hS.back,rfl⟩,fun _=>.cons ?_ K⟩
 ·have e0:Z6 { g with aH:=g.aH+1,a8:=T',aA:=r.2.2.1 }+1=Z6 g:=H;simp only[mu,iW,j,MS,Mb];omega
 ·exact R.next T' r.2.1 r.2.2.1 t3 t4 t2
end
section
variable {w:Wd} {S:Int->Int->List Int} {fuel:Int}
def vS {a:Cf} {g:j3} {G:List j3} {b:Ins} {r:List Ob×List V×List V×Int} (e:a.err=0) (d:a.fs=g::G) (ad:j4 g.code g.aH=some b) (h:¬(14<=b.op/\b.op<=18)) (c:b.op≠21)
  (f:br w a.heap g.aR g.args g.a8 g.aA b=some r) (L:St->Int->ByteArray->Int×Int) (Q:Int->Int->Fs×Bool):P7 w fuel L Q a=some (iW a { g with aH:=g.aH+1 } G r):=by
 unfold P7;rw[d];simp only[ad,A0];rw[N1 d9,N1 d9,N1 d9,N1 d9,N1 d9,N1 c,vU w a e];simp only[f,Mf]
def Df {H:List Ob} {self v:V} {args T X:List V} {k:Int} (a:0<=k) (b:k<T.length):br w H self args T (X++[v]) ⟨11,k,0,0,BY⟩=some (H,T.set k.toNat v,X,0):=by
 unfold br;simp[a,b]
def KP {H:List Ob} {self:V} {args T X:List V}:br w H self args T X ⟨6,0,0,0,BY⟩=some (H,T,X++[⟨0,0⟩],0):=by
 unfold br;simp
theorem Cn {a:Cf} {G:List j3} (q:a.err=0) (C:∀g,bx g->Wk w (qF w S) { a with fs:=g::G }) {s:Int} (J:0<=s) {X:List V}:∀(n:Nat) (vs:List V) (g:j3),vs.length=n->g.aA=X++vs->0<=g.aH->(∀r,r<n->j4 g.code (g.aH+r)=(jA s n)[r]?) ->
  s.toNat+n<=g.a8.length->bx g->∃l,cv w fuel (fun _ k s=>l7 w s k) (qF w S) { a with fs:=g::G } { a with fs:={ g with aH:=g.aH+n,a8:=l,aA:=X }::G } /\
   l.length=g.a8.length/\(∀j,j<s.toNat\/s.toNat+n<=j->l[j]?=g.a8[j]?)/\∀(j:Nat) v,vs[j]?=some v->l[s.toNat+j]?=some v
 |0,vs,g,t,f,H,x,hl,d=>by
  obtain rfl:=Mk t;rw[List.append_nil] at f;refine⟨g.a8,?_,rfl,fun _ _=>rfl,fun j v h=>by simp at h⟩;have:({ g with aH:=g.aH+((0:Nat):Int),a8:=g.a8,aA:=X }:j3)=g:=by
   rw[<-f];simp
  rw[this];exact .refl _
 |n+1,vs,g,t,f,H,x,hl,d=>by
  obtain⟨b,v,rfl⟩:∃b v,vs=b++[v]:=by
   cases B:vs.getLast? with
   |none=>rw[List.getLast?_eq_none_iff] at B;subst B;simp at t
   |some v=>obtain⟨b,h⟩:=List.getLast?_eq_some_iff.1 B;exact⟨b,v,h⟩
  simp only[MK,Mx] at t;have p:b.length=n:=d9;have hi:j4 g.code g.aH=some ⟨11,s+n,0,0,BY⟩:=by
   have:=x 0 d9;simpa[jA] using this
  have A:=fU hi;have c:g.aA=(X++b)++[v]:=by rw[f];simp
  have D:br w a.heap g.aR g.args g.a8 g.aA ⟨11,s+n,0,0,BY⟩=some (a.heap,g.a8.set (s+n).toNat v,X++b,0):=by
   rw[c];exact Df d9 d9
  have m:=vS (fuel:=fuel) (a:={ a with fs:=g::G }) q rfl hi bJ bJ D (fun _ k s=>l7 w s k) (qF w S);have o:bx { g with aH:=g.aH+1,a8:=g.a8.set (s+n).toNat v,aA:=X++b }:=⟨by have:=d.aA;rw[c] at this;simp at this⊢;omega,d.code,fun u i I=>d.num u (by rw[c];simp only[MT] at i⊢;exact .inl i) I⟩;obtain⟨l,K,L,E,M⟩:=Cn q C J n b { g with aH:=g.aH+1,a8:=g.a8.set (s+n).toNat v,aA:=X++b } p rfl bJ (fun r D=>by
   have:=x (r+1) d9;simp only[jA,Mw] at this;rw[<-this];congr 1;simp only;omega) (by simp only[Mc];omega) o
  refine⟨l,?_,by rw[L];simp,fun j N=>?_,fun j u i=>?_⟩
  ·refine .trans (nZ (a:={ a with fs:=g::G }) q rfl (C g d) m (g1:={ g with aH:=g.aH+1,a8:=g.a8.set (s+n).toNat v,aA:=X++b }) rfl rfl rfl ?_) ?_
   ·have:=sQ A.2;unfold Z6 at this⊢;simp only at this⊢;omega
   ·have e:({ g with aH:=g.aH+((n+1:Nat):Int),a8:=l,aA:=X }:j3)={ ({ g with aH:=g.aH+1,a8:=g.a8.set (s+n).toNat v,aA:=X++b }:j3) with aH:=g.aH+1+(n:Int),a8:=l,aA:=X }:=by
     simp only[j3.mk.injEq,true_and];omega
    rw[e];have F:iW { a with fs:=g::G } { g with aH:=g.aH+1 } G (a.heap,g.a8.set (s+n).toNat v,X++b,0)={ a with fs:={ g with aH:=g.aH+1,a8:=g.a8.set (s+n).toNat v,aA:=X++b }::G }:=by
     unfold iW;simp only[q]
    rw[F];exact K
  ·rw[E j d9,List.getElem?_set_ne d9]
  ·by_cases y:j=n
   ·subst y;rw[Ma d9,p,Nat.sub_self] at i;simp only[My,Option.some.injEq] at i;subst i;rw[E _ d9,show(s+(j:Int)).toNat=s.toNat+j by omega,List.getElem?_set_self d9]
   ·have z:j<b.length:=by
     have:=(ME.1 i).1;simp at this;omega
    rw[Mp z] at i;exact M j u i
theorem C1 {a:Cf} {G:List j3} (l:a.err=0) (x:∀g,bx g->Wk w (qF w S) { a with fs:=g::G }) {b:Int} (F:0<=b):∀(n k:Nat) (g:j3),0<=g.aH->(∀r,r<2*n->j4 g.code (g.aH+r)=(iH b n k)[r]?) ->
  b.toNat+k+n<=g.a8.length->bx g->g.aA.length<=900->∃i,cv w fuel (fun _ k s=>l7 w s k) (qF w S) { a with fs:=g::G } { a with fs:={ g with aH:=g.aH+(2*n:Nat),a8:=i }::G } /\
   i.length=g.a8.length/\(∀j,j<b.toNat+k\/b.toNat+k+n<=j->i[j]?=g.a8[j]?)/\∀j,j<n->i[b.toNat+k+j]?=some ⟨0,0⟩
 |0,k,g,E,t,hl,c,B=>by
  refine⟨g.a8,?_,rfl,fun _ _=>rfl,fun j h=>d9⟩;have:({ g with aH:=g.aH+((2*0:Nat):Int),a8:=g.a8 }:j3)=g:=l9;rw[this];exact .refl _
 |n+1,k,g,E,t,hl,c,B=>by
  have hi:j4 g.code g.aH=some ⟨6,0,0,0,BY⟩:=by
   have:=t 0 d9;simpa[iH] using this
  have m:j4 g.code (g.aH+1)=some ⟨11,b+k,0,0,BY⟩:=by
   have:=t 1 d9;simpa[iH] using this
  have I:=fU hi;have A:=fU m;have f:=vS (fuel:=fuel) (a:={ a with fs:=g::G }) l rfl hi bJ bJ (KP (w:=w)) (fun _ k s=>l7 w s k) (qF w S);have p:bx { g with aH:=g.aH+1,aA:=g.aA++[⟨0,0⟩] }:=⟨L6,c.code,fun u o z=>by
   rcases MT.1 o with o|o
   ·exact c.num u o z
   ·rw[Mh.1 o] at z;cases z⟩
  have e1:iW { a with fs:=g::G } { g with aH:=g.aH+1 } G (a.heap,g.a8,g.aA++[⟨0,0⟩],0)={ a with fs:={ g with aH:=g.aH+1,aA:=g.aA++[⟨0,0⟩] }::G }:=by
   unfold iW;simp only[l]
  have d:=vS (fuel:=fuel) (a:={ a with fs:={ g with aH:=g.aH+1,aA:=g.aA++[⟨0,0⟩] }::G }) (g:={ g with aH:=g.aH+1,aA:=g.aA++[⟨0,0⟩] }) l rfl m bJ bJ
   (Df (w:=w) (X:=g.aA) (v:=⟨0,0⟩) (T:=g.a8) (k:=b+k) d9 d9) (fun _ k s=>l7 w s k) (qF w S)
  have D:iW { a with fs:={ g with aH:=g.aH+1,aA:=g.aA++[⟨0,0⟩] }::G } { g with aH:=g.aH+1+1,aA:=g.aA++[⟨0,0⟩] } G (a.heap,g.a8.set (b+k).toNat ⟨0,0⟩,g.aA,0)={ a with fs:={ g with aH:=g.aH+2,a8:=g.a8.set (b+k).toNat ⟨0,0⟩ }::G }:=by
   unfold iW;simp only[l,Cf.mk.injEq,List.cons.injEq,j3.mk.injEq,true_and,and_true];omega
  have q:bx { g with aH:=g.aH+2,a8:=g.a8.set (b+k).toNat ⟨0,0⟩ }:=⟨c.aA,c.code,c.num⟩;obtain⟨i,J,K,C,L⟩:=C1 l x F n (k+1) { g with aH:=g.aH+2,a8:=g.a8.set (b+k).toNat ⟨0,0⟩ } bJ (fun r M=>by
   have:=t (r+2) d9;simp only[iH,Mw] at this;rw[<-this];congr 1;simp only;omega) (by simp only[Mc];omega) q B
  refine⟨i,?_,by rw[K];simp,fun j H=>?_,fun j H=>?_⟩
  ·rw[e1] at f;rw[D] at d;refine .trans (nZ (a:={ a with fs:=g::G }) l rfl (x g c) f rfl rfl rfl ?_) (.trans (nZ (a:={ a with fs:={ g with aH:=g.aH+1,aA:=g.aA++[⟨0,0⟩] }::G }) l rfl (x _ p) d rfl rfl rfl ?_) ?_)
   ·unfold Z6;simp only;omega
   ·unfold Z6;simp only;omega
   ·have e:({ g with aH:=g.aH+((2*(n+1):Nat):Int),a8:=i }:j3)={ ({ g with aH:=g.aH+2,a8:=g.a8.set (b+k).toNat ⟨0,0⟩ }:j3) with aH:=g.aH+2+((2*n:Nat):Int),a8:=i }:=by
     simp only[j3.mk.injEq,true_and,and_true];omega
    rw[e];exact J
  ·rw[C j d9,List.getElem?_set_ne d9]
  ·by_cases y:j=0
   ·subst y;rw[C _ d9,show(b+(k:Int)).toNat=b.toNat+k+0 by omega,List.getElem?_set_self d9]
   ·have:=L (j-1) d9;rw[show b.toNat+(k+1)+(j-1)=b.toNat+k+j by omega] at this;exact this
end
section
variable {w:Wd} {S:Int->Int->List Int} {fuel:Int}
def yg (W:cZ w) (i:eL w) {a b:Cf} (hS:cd a b) {G P:List j3} {p:j3} (h:b.fs=p::P) (e:dn w S G P) (I:cy w fuel b) {n:Int} (o:n=a.sends\/n=a.sends+1):∀g,bx g->Wk w (qF w S) { a with fs:=g::G,sends:=n }:=fun g j=>by
 have d:=I.fs;rw[h] at d;have hl:=I.fl;rw[h,ML] at hl;have l:=I.sends;have m:=hS.sends;refine E7 (N:=0) W i I hS.heap bJ hS.turns (by simp only[ML,e.len];omega) fun f c=>?_;rcases MG.1 c with rfl|c
 ·exact j
 ·exact e.wk W (fun q k=>⟨1,d.2 q k⟩) f c
def GN {y:Me} (h:fP y=true):y.aV=0:=by
 unfold fP at h;simp only[IT,NA] at h;exact h.1
def II (W:cZ w) (hL:eL w) {a b b':Cf} {g p:j3} {G P:List j3} {m y:Me} {i:Ins} {s c t:Int} {sz:Nat} (hS:cd a b) (Z:a.fs=g::G) (hb:b.fs=p::P) (T:dn w S G P) (h:FF w S g p m) (o:g.aA=p.aA) (h0:0<=p.aH)
  (ad:g.aH=(bK (bM w S p.aI p.aL m).1 p.aH.toNat:Int)) (he:b.err=0) (I:cy w fuel b) (hi:j4 p.code p.aH=some i) (hcl:de w (S p.aI p.aL) m.code.length p.aH.toNat i sz t=some (y,c))
  (N:(bM w S p.aI p.aL m).1[p.aH.toNat]?=some (.pc y s c (p.aH.toNat:Int))) (hms:m.a8<=s) (htot:s+1+y.args+y.a8<=(bM w S p.aI p.aL m).2) (z:P7 w fuel (fun _ k s=>l7 w s k) cH b=some b') :
  ∃Q,cv w fuel (fun _ k s=>l7 w s k) (qF w S) a Q/\cd Q b'/\(b'.err=0->CR w S Q b'):=by
 obtain⟨h14,_,_,l,hlf,hargs,_,_⟩:=pW hcl;obtain⟨hy,_⟩:=uq w hL (S p.aI p.aL) m.code.length m.code 0 0 m.a8 y s c _ (MP N);have ya:=hy.args;have yt:=hy.a8;have n:a.err=0:=by rw[hS.err];exact he
 have Ib:=I.fs;rw[hb] at Ib;obtain⟨mp,hh,Fp⟩:=Ib.1;obtain⟨_,_,_,_,_,hplen,_⟩:=Fp.len;have e:bx g:=(FR.aY h o h0 ad).wk W Ib.1;have hpwk:bx p:=⟨d9,by have:=(h.di W).2;omega,fun v H hk=>(Fp.ai v H).num hk⟩;have u:=yg W hL hS hb T I (.inl rfl);have U:=yg W hL hS hb T I (.inr rfl);have hab:({ a with fs:=g::G }:Cf)=a:=by rw[<-Z]
 have V:Wk w (qF w S) a:=by have:=u g e;rw[<-Z] at this;exact this
 have hms0:0<=m.a8:=by have:=h.dm;omega
 have hgl:=h.len;have htl:=h.dm;have bj:∀r,r<Q7 y->j4 g.code (g.aH+(r:Nat))=(eJ y s c (p.aH.toNat:Int) (bK (bM w S p.aI p.aL m).1 p.aH.toNat))[r]?:=fun r hr=>by
  rw[ad,<-Int.natCast_add];exact h.lW N hr
 have hsz:Q7 y=3+y.args.toNat+2*y.a8.toNat+y.code.length:=by rw[<-ig y s c (p.aH.toNat:Int) 0];simp only[eJ,ML,MK,gg,jZ,MW];omega
 have hi0:j4 g.code g.aH=some ⟨18,c,y.args,(p.aH.toNat:Int),BY⟩:=by
  have:=bj 0 d9;simpa[eJ] using this
 have hi1:j4 g.code (g.aH+1)=some ⟨21,0,0,0,BY⟩:=by
  have:=bj 1 d9;simpa[eJ] using this
 have hl0:=fU hi0;have hl1:=fU hi1;have hb0:=z;unfold P7 at z;rw[hb] at z;simp only[hi,A0,N2 h14] at z;obtain⟨x,cl,mm,k0,k1,hx,hcls,hmm,D⟩:=pd z;simp only at k1 hx hcls hmm;have f:P7 w fuel (fun _ k s=>l7 w s k) (qF w S) a=if G7 a.heap x=c then some { a with fs:={ g with aH:=g.aH+1 }::G } else some { a with fs:=p::G }:=by
  unfold P7;rw[Z];simp only[hi0,A0];rw[N1 d9,N1 d9,N1 d9,N1 d9,N2 trivial];unfold lr;simp only;rw[o,N2 ⟨d9,d9⟩,show p.aA.length-1-y.args.toNat=p.aA.length-i.a.toNat-1 by omega,hx];simp only[A0];by_cases J:G7 a.heap x=c
  ·rw[N2 J,N2 J]
  ·rw[N1 J,N1 J,h.cls,h.iV];obtain⟨x2,e1,e2⟩:=h.al;rw[e1];simp only[A0];rw[e2];simp only[A0];rw[N2 ⟨hms0,by have:=h.tk;have:=congrArg List.length this;simp only[Mq] at this;omega⟩];have:({ g with aH:=(p.aH.toNat:Int),aY:=false,code:=m.code,a8:=g.a8.take m.a8.toNat }:j3)=p:=by
    have e3:g.a8.take m.a8.toNat=p.a8:=by rw[show m.a8.toNat=p.a8.length by omega];exact h.tk
    rw[e3];obtain⟨c1,c2,c3,c4,c5,c6,c7,c8,c9⟩:=p;have q1:=h.cls;have q2:=h.iV;have q3:=h.bn;have q4:=h.bh;have q5:=h.self;have q6:=h.args;simp only at q1 q2 q3 q4 q5 q6 o h0⊢;simp only[q1,q2,q3,q4,q5,q6,o,j3.mk.injEq,true_and,and_true];omega
   simp only[h.cls,h.iV,o] at this⊢;rw[this]
 by_cases J:G7 a.heap x=c
 ·rw[N2 J] at f;have hcb:G7 b.heap x=c:=by rw[<-hS.heap];exact J
  have F:cv w fuel (fun _ k s=>l7 w s k) (qF w S) a { a with fs:={ g with aH:=g.aH+1 }::G }:=nZ n Z V f rfl rfl rfl (Nat.le_of_eq (sQ hl0.2));have E:bx { g with aH:=g.aH+1 }:=⟨e.aA,e.code,e.num⟩;have d:P7 w fuel (fun _ k s=>l7 w s k) (qF w S) { a with fs:={ g with aH:=g.aH+1 }::G }=some (iE fuel { a with fs:={ g with aH:=g.aH+2 }::G }):=by
   unfold P7;simp only[hi1,A0];rw[N1 d9,N1 d9,N1 d9,N1 d9,N1 d9,N2 trivial,show g.aH+1+1=g.aH+2 by omega]
  have C:Z6 { g with aH:=g.aH+2 }+1<=Z6 { g with aH:=g.aH+1 }:=by
   unfold Z6;simp only;omega
  have hlen:=T.len;unfold lh at l;split at l
  ·cases l
  rename_i hf0;obtain⟨x3,e3,e4⟩:=N7 l;rw[hcb] at D;rcases D with⟨h2,_⟩|⟨_,hent⟩
  ·omega
  obtain⟨x4,m4,e5,e6,L⟩:=pQ hent;rw[e3] at e5;cases e5;rw[e4] at e6;cases e6;have hdl:(p.aA.drop (p.aA.length-i.a.toNat)).length=i.a.toNat:=by rw[List.length_drop];omega
  rcases L with⟨k2,_⟩|⟨_,O,rfl⟩|⟨_,_,k4,_⟩|⟨_,O,_,k5,rfl⟩|⟨_,O,_,k5,rfl⟩
  ·simp only at k2;omega
  ·have R:iE fuel { a with fs:={ g with aH:=g.aH+2 }::G }=V4 { a with fs:={ g with aH:=g.aH+2 }::G } 13:=by
    unfold iE;simp only at O;rw[N2 (by simp only;rw[hS.sends];exact O)]
   rw[R] at d;exact⟨_,F.trans (nZ (a:={ a with fs:={ g with aH:=g.aH+1 }::G }) n rfl (u _ E) d rfl rfl rfl C),⟨hS.heap,hS.sends,hS.turns,hS.back,rfl⟩,fun hz=>by cases hz⟩
  ·exact absurd (GN hlf) k4
  ·have R:iE fuel { a with fs:={ g with aH:=g.aH+2 }::G }=V4 { a with fs:={ g with aH:=g.aH+2 }::G } 14:=by
    unfold iE;simp only[ML] at O k5;rw[N1 (by simp only;rw[hS.sends];omega),N2 (by simp only[ML];omega)]
   rw[R] at d;exact⟨_,F.trans (nZ (a:={ a with fs:={ g with aH:=g.aH+1 }::G }) n rfl (u _ E) d rfl rfl rfl C),⟨hS.heap,hS.sends,hS.turns,hS.back,rfl⟩,fun hz=>by cases hz⟩
  ·simp only[ML] at O k5;have R:iE fuel { a with fs:={ g with aH:=g.aH+2 }::G }={ a with fs:={ g with aH:=g.aH+2 }::G,sends:=a.sends+1 }:=by
    unfold iE;rw[N1 (by simp only;rw[hS.sends];omega),N1 (by simp only[ML];omega)]
   rw[R] at d;have st2:cv w fuel (fun _ k s=>l7 w s k) (qF w S) { a with fs:={ g with aH:=g.aH+1 }::G } { a with fs:={ g with aH:=g.aH+2 }::G,sends:=a.sends+1 }:=by
    refine .step n l9 (u _ E) d ?_ (.refl _);have:=hS.sends;simp only[mu,MS,Mb];omega
   have Y:p.aA=p.aA.take (p.aA.length-i.a.toNat-1)++(x::p.aA.drop (p.aA.length-i.a.toNat)):=by
    obtain⟨hxl,hxe⟩:=ME.1 hx;have:=List.drop_eq_getElem_cons hxl;rw[hxe,show p.aA.length-i.a.toNat-1+1=p.aA.length-i.a.toNat by omega] at this;rw[<-this,List.take_append_drop]
   generalize hXd:p.aA.take (p.aA.length-i.a.toNat-1)=X at Y;generalize hAd:p.aA.drop (p.aA.length-i.a.toNat)=A at Y hdl;have hXl:X.length<=12:=by have:=congrArg List.length Y;simp only[MK,ML] at this;omega
   have hwk2:bx { g with aH:=g.aH+2 }:=⟨e.aA,e.code,e.num⟩;obtain⟨T1,t1,t2,t3,t4⟩:=Cn (w:=w) (S:=S) (fuel:=fuel) (a:={ a with sends:=a.sends+1 }) (G:=G) n U (s:=s) d9 (X:=X) (y.args.toNat+1) (x::A) { g with aH:=g.aH+2 } (by simp only[ML];omega) (by simp only;rw[o];exact Y) bJ (fun r hr=>by
    have:=bj (r+2) d9;simp only[eJ,Mw,MV] at this;rw[Mp (by rw[gg];exact hr)] at this;rw[<-this];congr 1;simp only;omega) bJ hwk2
   have hwk3:bx { g with aH:=g.aH+2+((y.args.toNat+1:Nat):Int),a8:=T1,aA:=X }:=⟨bJ,e.code,fun v H hk=>e.num v (by rw[o,Y];exact List.mem_append_left _ H) hk⟩;obtain⟨T2,u1,u2,u3,u4⟩:=C1 (w:=w) (S:=S) (fuel:=fuel) (a:={ a with sends:=a.sends+1 }) (G:=G) n U (b:=s+1+y.args) d9 y.a8.toNat 0 { g with aH:=g.aH+2+((y.args.toNat+1:Nat):Int),a8:=T1,aA:=X } bJ (fun r hr=>by
    have:=bj (y.args.toNat+1+r+2) d9;simp only[eJ,Mw,MV] at this;rw[Ma (by rw[gg];omega),gg,show y.args.toNat+1+r-(y.args.toNat+1)=r by omega,Mp (by rw[jZ];exact hr)] at this;rw[<-this];congr 1;simp only;omega) (by simp only at t2⊢;omega) hwk3 bJ
   simp only at t2 t3 t4 u2 u3 u4;have hlo:∀j,j<s.toNat->T2[j]?=g.a8[j]?:=fun j M=>by rw[u3 j d9,t3 j d9]
   have K:∀j,j<s.toNat+1+y.args.toNat->T2[j]?=T1[j]?:=fun j M=>u3 j d9;refine⟨_,F.trans (st2.trans (t1.trans u1)),⟨hS.heap,by simp only;rw[hS.sends],hS.turns,hS.back,hS.err⟩,fun _=>?_⟩;rw[pZ (fun _ _=>rfl)];refine .oN (q:=p.aH.toNat) (m:=m) (y:=y) (s:=s) (c:=c) ⟨hS.heap,by simp only;rw[hS.sends],hS.turns,hS.back,hS.err⟩ rfl rfl T ⟨⟨h.aY,h.bn,h.cls,h.iV,h.self,h.args,h.al,h.bh,h.codeF,bJ,h.dm,?_⟩,N,bJ,rfl,rfl,MO _,?_,by simp only;rw[List.append_nil],hms,⟨d9,bJ,ya.1,yt.1,bJ,by simp only[List.length_replicate];omega,?_,fun j v H=>?_,fun j v H=>?_⟩,hlf⟩
   ·simp only;rw[<-h.tk];apply Mn;intro j;rw[Mu,Mu];by_cases M:j<p.a8.length
    ·have B:(List.take p.a8.length g.a8).length=p.a8.length:=(by rw[h.tk]);rw[B,N2 M,N2 M,hlo j d9]
    ·have B:(List.take p.a8.length g.a8).length=p.a8.length:=(by rw[h.tk]);rw[B,N1 M,N1 M]
   ·simp only[hl];omega
   ·simp only;rw[K _ d9];exact t4 0 x rfl
   ·simp only at H⊢;have hjl:=(ME.1 H).1;rw[K _ d9,Mo,Nat.add_comm 1 j];exact t4 (j+1) v (by simpa using H)
   ·simp only at H⊢;obtain⟨hj1,hj2⟩:=ME.1 H;rw[List.length_replicate] at hj1;rw[List.getElem_replicate] at hj2;subst hj2;have:=u4 j hj1;rw[<-this];congr 1;omega
 ·rw[N1 J] at f;have F:cv w fuel (fun _ k s=>l7 w s k) (qF w S) a { a with fs:=p::G }:=nZ n Z V f rfl rfl rfl (by
   have:=(h.di W).2;unfold Z6;rw[h.bn,h.aY];simp only[Ml,if_false,if_true];omega)
  obtain⟨Q,q1,q2,q3⟩:=Bb (fuel:=fuel) W hL (a:={ a with fs:=p::G }) (S:=S) ⟨hS.heap,hS.sends,hS.turns,hS.back,hS.err⟩ rfl hb T (Ab W h.bn (by have:=(h.di W).2;omega) hi (fun M=>d9)) he I (u p hpwk) hi d9 hb0;exact⟨Q,F.trans q1,q2,fun hz=>.out q2 (q3 hz)⟩
end
def Jp {s:Int} {y:Me} {f:Int} {i:Ins} (h:i.op<=13):¬(14<=(ba s y f i).op/\(ba s y f i).op<=18)/\(ba s y f i).op≠21:=by
 unfold ba
 (repeat' split)<;>simp only<;>omega
section
variable {w:Wd} {S:Int->Int->List Int} {fuel:Int}
theorem qm.go {g h p:j3} {m y:Me} {q:Nat} {s c:Int} (X:qm w S g h p m y q s c) {T Tp A:List V} {to:Int} (b:0<=to) (d:u5 T s y h.aR h.args Tp) (a:T.length=g.a8.length) (e:∀n:Nat,(n:Int)<=s->T.take n=g.a8.take n) :
  qm w S { g with aH:=((bK (bM w S p.aI p.aL m).1 q+hl y:Nat):Int)+to,a8:=T,aA:=p.aA++A } { h with aH:=to,a8:=Tp,aA:=A } p m y q s c:=by
 have F:=X.ff;have f:=F.dm;have i:=X.ms;refine⟨⟨F.aY,F.bn,F.cls,F.iV,F.self,F.args,F.al,F.bh,F.codeF,by simp only;rw[a];exact F.len,F.dm,?_⟩,X.item,X.aH,X.tZ,X.bj,b,rfl,rfl,X.ms,d,X.leaf⟩;simp only;rw[e p.a8.length d9];exact F.tk
def Kw (W:cZ w) (hL:eL w) {a b b':Cf} {g h p:j3} {G P:List j3} {m y:Me} {q:Nat} {s c:Int} (hS:cd a b) (x:a.fs=g::G) (hb:b.fs=h::p::P) (L:dn w S G P) (X:qm w S g h p m y q s c) (he:b.err=0) (I:cy w fuel b)
  (d:P7 w fuel (fun _ k s=>l7 w s k) cH b=some b'):∃K,cv w fuel (fun _ k s=>l7 w s k) (qF w S) a K/\cd K b'/\(b'.err=0->CR w S K b'):=by
 have Q:a.err=0:=by rw[hS.err];exact he
 have M:=I.fs;rw[hb] at M;obtain⟨mh,hh,Fh⟩:=M.1;obtain⟨i,_,hi,C,hlt,hslen,_,h17,_,_⟩:=Fh.len;have hmy:mh.code=y.code:=by rw[<-Fh.code];exact X.bj
 rw[hmy] at C;rw[X.bj] at hlt;obtain⟨hy,_⟩:=uq w hL (S p.aI p.aL) m.code.length m.code 0 0 m.a8 y s c _ (MP X.item);have hop:=hy.op i C;have h14:i.op≠14:=d54 X.leaf i C;have ya:=hy.args;have yt:=hy.a8;have hh0:=X.jG;have hsz:Q7 y=hl y+y.code.length:=by rw[<-ig y s c (q:Int) 0];simp only[eJ,ML,MK,gg,jZ,MW,hl];omega
 generalize O:bK (bM w S p.aI p.aL m).1 q+hl y=B at *;have hgat:g.aH=(B:Int)+h.aH:=by have:=X.ad;rw[O] at this;exact this
 have z:j4 g.code g.aH=some (ba s y (B:Int) i):=by
  have e1:=X.ff.lW X.item (r:=hl y+h.aH.toNat) d9;have e2:((bK (bM w S p.aI p.aL m).1 q+(hl y+h.aH.toNat):Nat):Int)=g.aH:=d9;rw[e2,d44 d9,O] at e1;rw[e1];obtain⟨_,e3⟩:=l6 hi;rw[X.bj] at e3;rw[e3];rfl
 have hgl:=fU z;have hclen:=(X.ff.di W).1;have hpk:∀u∈p.aA,u.k=3->gK u.n:=fun u hu hk=>by
  obtain⟨mp,hp,Fp⟩:=M.2 p l9;exact(Fp.ai u hu).num hk
 have hps:p.aA.length<=12:=by
  obtain⟨mp,hp,Fp⟩:=M.2 p l9;obtain⟨_,_,_,_,_,k,_⟩:=Fp.len;omega
 have R:bx g:=⟨by rw[X.aA,MK];omega,d9,fun v E hk=>by
  rw[X.aA] at E;rcases MT.1 E with E|E
  ·exact hpk v E hk
  ·exact(Fh.ai v E).num hk⟩
 have hWa:Wk w (qF w S) a:=by
  have hl:=I.fl;rw[hb,ML,ML] at hl;have h1:=I.sends;have h2:=hS.sends;refine E7 (N:=0) W hL I hS.heap d9 hS.turns (by rw[x];simp only[ML,L.len];omega) fun f hf=>?_;rw[x] at hf;rcases MG.1 hf with rfl|hf
  ·exact R
  ·exact L.wk W (fun r hr=>⟨1,M.2 r (by simp[hr])⟩) f hf
 have Y:Z6 { g with aH:=g.aH+1 }+1=Z6 g:=sQ hgl.2;have step:∀K,P7 w fuel (fun _ k s=>l7 w s k) (qF w S) a=some K->mu fuel K<mu fuel a->cv w fuel (fun _ k s=>l7 w s k) (qF w S) a K:=fun K h1 h2=>.step Q (by rw[x];simp) hWa h1 h2 (.refl _);unfold P7 at d;rw[hb] at d;simp only[hi,A0] at d;have D:∀n:Nat,(n:Int)<=s->g.a8.take n=g.a8.take n:=fun _ _=>rfl;have Z:∀(A:List V) (to:Int),0<=to ->
   cd (cS a { g with aH:=g.aH+1,aA:=p.aA++A } G ((B:Int)+to)) (cS b { h with aH:=h.aH+1,aA:=A } (p::P) to)/\CR w S (cS a { g with aH:=g.aH+1,aA:=p.aA++A } G ((B:Int)+to)) (cS b { h with aH:=h.aH+1,aA:=A } (p::P) to) /\
   mu fuel (cS a { g with aH:=g.aH+1,aA:=p.aA++A } G ((B:Int)+to))<mu fuel a:=by
  intro A to h0;have ht:=I.turns;have j:=X.go (T:=g.a8) (Tp:=h.a8) (A:=A) h0 X.a8 rfl D;rw[O] at j;unfold cS;simp only;by_cases hc:to<h.aH+1
  ·rw[N2 d9,N2 hc];have l:cd ({ a with turns:=a.turns+1,fs:={ g with aH:=(B:Int)+to,aA:=p.aA++A }::G,err:=if 300<a.turns+1 then 16 else a.err }:Cf) { b with turns:=b.turns+1,fs:={ h with aH:=to,aA:=A }::p::P,err:=if 300<b.turns+1 then 16 else b.err }:=⟨hS.heap,hS.sends,by simp only;rw[hS.turns],hS.back,by simp only;rw[hS.turns,hS.err]⟩;refine⟨l,.oN l rfl rfl L j,?_⟩;have:=hS.turns;have e1:Z6 { g with aH:=(B:Int)+to,aA:=p.aA++A }<=Z6 g+240:=by
    unfold Z6;simp only;omega
   simp only[mu,x,MS,Mb];omega
  ·rw[N1 d9,N1 hc];have l:cd ({ a with fs:={ g with aH:=(B:Int)+to,aA:=p.aA++A }::G }:Cf) { b with fs:={ h with aH:=to,aA:=A }::p::P }:=⟨hS.heap,hS.sends,hS.turns,hS.back,hS.err⟩;refine⟨l,.oN l rfl rfl L j,?_⟩;have e1:Z6 { g with aH:=(B:Int)+to,aA:=p.aA++A }+1<=Z6 g:=by
    unfold Z6;simp only;omega
   simp only[mu,x,MS,Mb];omega
 rw[N1 h14] at d;by_cases H:i.op=15
 ·rw[N2 H] at d;cases d;have j0:=(hy.jump i C (.inl H)).1;obtain⟨q1,q2,q3⟩:=Z h.aA i.a j0;have ad:P7 w fuel (fun _ k s=>l7 w s k) (qF w S) a=some (cS a { g with aH:=g.aH+1,aA:=p.aA++h.aA } G ((B:Int)+i.a)):=by
   unfold P7;rw[x];simp only[z,A0];have e:ba s y (B:Int) i=⟨15,(B:Int)+i.a,0,0,BY⟩:=by unfold ba;simp[H]
   simp only[e];rw[N1 d9,N2 trivial];congr 2;rw[<-X.aA]
  exact⟨_,step _ ad q3,q1,fun _=>q2⟩
 rw[N1 H] at d;by_cases J:i.op=16
 ·rw[N2 J,MM] at d;obtain⟨⟨v,f2⟩,E,rfl⟩:=d;obtain⟨o,hv2⟩:=ij E;simp only at o hv2;subst hv2;obtain⟨e1,e2⟩:=rY (a:=p.aA) o;have ad:P7 w fuel (fun _ k s=>l7 w s k) (qF w S) a=some (kW a G ⟨16,(B:Int)+i.a,0,0,BY⟩ (v,{ g with aH:=g.aH+1,aA:=p.aA++h.aA.dropLast })):=by
   unfold P7;rw[x];simp only[z,A0];have e:ba s y (B:Int) i=⟨16,(B:Int)+i.a,0,0,BY⟩:=by unfold ba;simp[J]
   simp only[e];rw[N1 d9,N1 d9,N2 trivial,wm (f:={ g with aH:=g.aH+1 }) (v:=v) (by simp only;rw[X.aA];exact e1)];simp only[Mf,X.aA,e2]
  have j0:=(hy.jump i C (.inr J)).1;unfold kW at ad⊢;simp only at ad⊢;by_cases k1:v.k=1
  ·rw[N2 k1] at ad⊢;obtain⟨q1,q2,q3⟩:=Z h.aA.dropLast i.a j0;exact⟨_,step _ ad q3,q1,fun _=>q2⟩
  ·rw[N1 k1] at ad⊢;have hm:mu fuel { a with fs:={ g with aH:=g.aH+1,aA:=p.aA++h.aA.dropLast }::G }<mu fuel a:=by
    have e0:Z6 { g with aH:=g.aH+1,aA:=p.aA++h.aA.dropLast }+1=Z6 g:=Y;simp only[mu,x,MS,Mb];omega
   by_cases k2:v.k=2
   ·rw[N2 k2] at ad⊢;have l:cd ({ a with fs:={ g with aH:=g.aH+1,aA:=p.aA++h.aA.dropLast }::G }:Cf) { b with fs:={ h with aH:=h.aH+1,aA:=h.aA.dropLast }::p::P }:=⟨hS.heap,hS.sends,hS.turns,hS.back,hS.err⟩;have j:=X.go (T:=g.a8) (Tp:=h.a8) (A:=h.aA.dropLast) (to:=h.aH+1) d9 X.a8 rfl D;rw[O,show(B:Int)+(h.aH+1)=g.aH+1 by omega] at j;exact⟨_,step _ ad hm,l,fun _=>.oN l rfl rfl L j⟩
   ·rw[N1 k2] at ad⊢;exact⟨_,step _ ad hm,⟨hS.heap,hS.sends,hS.turns,hS.back,rfl⟩,fun e=>by cases e⟩
 rw[N1 J] at d;by_cases t:i.op=17
 ·rw[N2 t,MM] at d;obtain⟨⟨v,f2⟩,E,rfl⟩:=d;obtain⟨o,_⟩:=ij E;simp only at o;have U:h.aA=[v]:=by
   have:=h17 t
   match l:h.aA with
   |[]=>rw[l] at this;simp at this
   |[u]=>rw[l] at o;simp at o;rw[o]
   |_::_::_=>rw[l] at this;simp at this
  have ad:P7 w fuel (fun _ k s=>l7 w s k) (qF w S) a=some { a with fs:={ g with aH:=(B:Int)+y.code.length }::G }:=by
   unfold P7;rw[x];simp only[z,A0];have e:ba s y (B:Int) i=⟨15,(B:Int)+y.code.length,0,0,BY⟩:=by unfold ba;simp[t]
   simp only[e];rw[N1 d9,N2 trivial];unfold cS;simp only;rw[N1 d9]
  have l:cd ({ a with fs:={ g with aH:=(B:Int)+y.code.length }::G }:Cf) (dG { b with fs:=p::P } v):=⟨hS.heap,hS.sends,hS.turns,hS.back,hS.err⟩;refine⟨_,step _ ad ?_,l,fun _=>.out l ?_⟩
  ·have e0:Z6 { g with aH:=(B:Int)+y.code.length }+1<=Z6 g:=by
    unfold Z6;simp only;omega
   simp only[mu,x,MS,Mb];omega
  ·have F:=X.ff;have hpa:=X.aH;refine .cons (.aY (m:=m) ⟨F.aY,F.bn,F.cls,F.iV,F.self,F.args,F.al,F.bh,F.codeF,F.len,F.dm,F.tk⟩ ?_ (by simp only[cC];omega) ?_) L
   ·simp only[cC];rw[X.aA,U]
   ·simp only[cC];rw[hpa,show((q:Int)+1).toNat=q+1 by omega,xn X.item];simp only[O5.len];omega
 rw[N1 t,N1 d9,N1 d9,vU w b he,MM] at d;obtain⟨r,hr,rfl⟩:=d;simp only at hr;obtain⟨T',t1,t2,t3,t4⟩:=KG (gs:=g.aR) (gargs:=g.args) (base:=p.aA) (f:=(B:Int)) X.a8 d9 hop.1 hr;obtain⟨o1,o2⟩:=Jp (s:=s) (y:=y) (f:=(B:Int)) (i:=i) d9;rw[<-X.aA,<-hS.heap] at t1;have ad:=vS (fuel:=fuel) (w:=w) Q x z o1 o2 t1 (fun _ k s=>l7 w s k) (qF w S);have l:cd (iW a { g with aH:=g.aH+1 } G (r.1,T',p.aA++r.2.2.1,r.2.2.2)) (iW b { h with aH:=h.aH+1 } (p::P) r):=⟨rfl,hS.sends,hS.turns,hS.back,rfl⟩;refine⟨_,step _ ad ?_,l,fun _=>?_⟩
 ·have e0:Z6 { g with aH:=g.aH+1,a8:=T',aA:=p.aA++r.2.2.1 }+1=Z6 g:=Y;simp only[mu,iW,x,MS,Mb];omega
 ·have j:=X.go (A:=r.2.2.1) (to:=h.aH+1) d9 t2 t3 t4;rw[O,show(B:Int)+(h.aH+1)=g.aH+1 by omega] at j;exact .oN l rfl rfl L j
end
section
variable {w:Wd} {S:Int->Int->List Int} {fuel:Int}
def Ih (W:cZ w) (v:eL w) {a b q:Cf} (h:CR w S a b) (J:b.err=0) (I:cy w fuel b) (d:P7 w fuel (fun _ k s=>l7 w s k) cH b=some q) :
  ∃e,cv w fuel (fun _ k s=>l7 w s k) (qF w S) a e/\cd e q/\(q.err=0->CR w S e q):=by
 cases h with
 |oN hS u f r X=>exact Kw W v hS u f r X J I d
 |out hS r =>
  cases f:b.fs with
  |nil=>unfold P7 at d;rw[f] at d;cases d
  |cons p P =>
   rw[f] at r;cases u:a.fs with
   |nil=>rw[u] at r;cases r
   |cons g G =>
    rw[u] at r;have B:=I.fs;rw[f] at B;obtain⟨mp,hh,x⟩:=B.1;obtain⟨i,_,hi,K,_,Q,_,_,_,_⟩:=x.len;have Y:=yD (x.me.num i K);have n:i.op=15\/i.op=16->0<=i.a/\i.a<mp.code.length:=fun h=>d9;have z:i.op<=17:=d9;have V:=x.me.len;have hl:=I.fl;rw[f,ML] at hl;cases r with
    |cons U D =>
     have F:∀T,bx T->Wk w (qF w S) { a with fs:=T::G }:=yg W v hS f D I (.inl rfl);have E:Wk w (qF w S) a:=by
      have:=F g (U.wk W B.1);rw[<-u] at this;exact this
     have done:vm w S g p (match j4 g.code g.aH with|some j=>j|none=>i) i->∃e,cv w fuel (fun _ k s=>l7 w s k) (qF w S) a e/\cd e q/\(q.err=0->CR w S e q):=fun R=>by
      obtain⟨e,q1,Z,q3⟩:=Bb W v hS u f D R J I E hi z d;exact⟨e,q1,Z,fun hz=>.out Z (q3 hz)⟩
     cases U with
     |same hs =>
      refine done ?_;rw[hi];exact Ab W hs (by rw[x.code];omega) hi (fun L=>(n L).1)
     |@aY _ m l o C ad =>
      rcases l.item v C hi with O|⟨y,t,c,sz,H,M,N,A⟩
      ·have R:=d53 W v l o C ad hi O (fun L=>by
        have:=n L;rw[<-x.code,l.bh] at this;exact this)
       refine done ?_;rw[R.aH];exact R
      ·exact II W v hS u f D l o C ad J I hi H N M A d
def IY (W:cZ w) (o:0<w.a7.length) (y:eL w) {b c:Cf} (z:Path w fuel (fun _ k s=>l7 w s k) cH b c) (v:c.done):∀{a:Cf},cd a b->(b.err=0->CR w S a b)->(b.err=0->cy w fuel b) ->
  ∃i,cv w fuel (fun _ k s=>l7 w s k) (qF w S) a i/\cd i c/\i.done:=by
 induction z with
 |refl c =>
  intro a hS n _;refine⟨a,.refl _,hS,?_⟩;by_cases e:c.err=0
  ·have d:c.fs=[]:=v.resolve_left (fun h=>h e);cases n e with
   |out _ l =>
    rw[d] at l;cases t:a.fs with
    |nil=>exact .inr t
    |cons g G=>rw[t] at l;cases l
   |oN _ _ u=>rw[d] at u;cases u
  ·exact .inl (by rw[hS.err];exact e)
 |@step b q c e p j _ ih =>
  intro a hS n r;obtain⟨J,B,C,D⟩:=Ih W y (n e) e (r e) j;have m:q.err=0->cy w fuel q:=by
   cases d:b.fs with
   |nil=>exact absurd d p
   |cons f F =>
    obtain⟨K,x,A⟩:=rL (Q:=cH) W o (fun _ _=>rfl) (r e) e d;rw[j] at x;cases x;exact A.inv
  obtain⟨i,E,H,I⟩:=ih v C D m;exact⟨i,B.trans E,H,I⟩
def I2 (W:cZ w) (m:eL w) (c:P8) (d:fuel<=400) {i:Cf} (h:fy w fuel cH c=some i):∃g,fy w fuel (qF w S) c=some g/\cd g i/\dn w S g.fs i.fs/\mu fuel g<1048576:=by
 unfold fy at h⊢;by_cases o:(l7 w c.name (G7 w.heap c.aR)).2<0
 ·rw[N2 o] at h⊢;cases h;exact⟨_,rfl,⟨rfl,rfl,rfl,rfl,rfl⟩,.nil,ll d (MO _) (MO _) (by simp[V4,Z9])⟩
 ·rw[N1 o] at h⊢;obtain⟨g,q,u,x⟩:=C0 (S:=S) (a:=Z9 w) W m ⟨rfl,rfl,rfl,rfl,rfl⟩ .nil h;refine⟨g,q,u,x,?_⟩;obtain⟨r,l,f,e,k⟩:=pQ q;rcases k with⟨_,rfl⟩|⟨_,_,rfl⟩|⟨_,_,_,v,_,k⟩|⟨_,_,_,_,rfl⟩|⟨_,_,_,_,rfl⟩
  ·exact ll d (MO _) (MO _) (by simp[V4,Z9])
  ·exact ll d (MO _) (MO _) (by simp[V4,Z9])
  ·rcases k with⟨_,rfl⟩|⟨_,rfl⟩
   ·exact ll d (by simp[V4,Z9]) (MO _) (by simp[V4,Z9])
   ·rw[rN];exact ll d (by simp[Z9]) (MO _) (by simp[Z9])
  ·exact ll d (MO _) (MO _) (by simp[V4,Z9])
  ·refine ll d (by simp[Z9]) (MO _) ?_;have b:=xe (S:=S) W m f e (W.a8 r (eG f) l (eG e)).1 c.aR c.args;have n:=W.code r (eG f) l (eG e);simp only[Z9,MS,List.map_nil,Mb,List.sum_nil];generalize t:fh (qF w S) (l7 w c.name (G7 w.heap c.aR)).1 (l7 w c.name (G7 w.heap c.aR)).2 l c.aR c.args=p at b⊢;have jG:p.aH=0:=by rw[<-t];unfold fh;split<;>rfl
   unfold Z6;rw[jG];have s:p.code.length<=240:=by
    cases b with
    |same y=>rw[pZ (fun _ _=>rfl)];simp only;omega
    |aY j=>exact(j.di W).1
   split<;>omega
def KF {N:Nat} {gl:St->Int->ByteArray->Option (Int×Int)} {gq:Int->Int->Option (Fs×Bool)} (e:4194304<=N) (d:D6 w) (b:I6 N w)
  (f:∀s k n,gl s k n=some (l7 w n k)) (o:∀k j x m,j4 w.a7 k=some x->j4 x.aB j=some m->gq k j=some (qF w S k j)) (c:P8):∃r,iK N w c fuel gl gq=some r/\iT w c fuel cH r:=by
 by_cases a:M5 w c fuel=0
 ·have W:=b.od e d;have i:=Cq e d b;have l:0<w.a7.length:=by have:=b.many.1;omega
  obtain⟨h1,h2,h3,H,h5,h6⟩:=qo a;obtain⟨D,h,b2,b3,b4,b5,C⟩:=vC (Q:=cH) e d b (fun _ _=>rfl) c a;obtain⟨s,s1,X⟩:=DS (fuel:=fuel) (Q:=cH) (gl:=gl) (gq:=fun _ _=>some (cH 0 0)) e d b (fun _ _=>rfl) f (fun k j x m _ _=>rfl) c;rcases X with⟨M,_⟩|⟨_,d1,c',e1,q,t,e4⟩
  ·exact absurd a M
  ·rw[h] at e1;cases e1;obtain⟨B,T,u,U,V⟩:=I2 (S:=S) W i c H h;obtain⟨A,v,g,z⟩:=IY W l i q t u (fun _=>.out u U) C;obtain⟨Z,O,P,p3,R⟩:=DI (L:=fun _ k s=>l7 w s k) (Q:=qF w S) e d b.cq f o (fun x=>∃y,cv w fuel (fun _ k s=>l7 w s k) (qF w S) x y/\y.done) (fun x J I p=>by
    obtain⟨y,K,hd⟩:=J;cases K with
    |refl=>rcases hd with hd|hd;exact absurd I hd;exact absurd hd p
    |@step _ Y _ _ _ g1 E F G=>exact⟨g1,Y,E,F,fun _=>⟨y,G,hd⟩⟩) W.a8 (Ct (N:=N) W i) c a B T (fun _=>⟨A,v,z⟩) V
   have:=Path.oG O P v.path z;subst this;refine⟨_,R,.inr ⟨a,D,c',h,q,t,?_⟩⟩;unfold hB;rw[g.err,g.heap,g.back,g.sends]
 ·exact⟨_,AY d c a,.inl ⟨a,rfl⟩⟩
end
def d52 (w:Wd) (S:Int->Int->List Int) (l:List Fs):Prop:=∀f∈l,∃(c j:Nat) (x:Cl) (m:Me),w.a7[c]?=some x/\x.aB[j]?=some m/\(qF w S c j).2=true/\f=(qF w S c j).1
def xp {w:Wd} {S:Int->Int->List Int} {k j:Int} {x:Cl} {m:Me} (c:j4 w.a7 k=some x) (b:j4 x.aB j=some m) (h:(qF w S k j).2=true):(qF w S k j).1.cls=k/\(qF w S k j).1.name=m.name/\(qF w S k j).1.aC=w.aC:=by
 rw[vg c b] at h⊢;split at h
 ·rename_i a;rw[N2 a];exact⟨rfl,rfl,rfl⟩
 ·cases h
def KV {w:Wd} {S:Int->Int->List Int} {k j:Int} {x:Cl} {m:Me} (c:j4 w.a7 k=some x) (b:j4 x.aB j=some m) (h:(qF w S k j).2=false):qF w S k j=(⟨0,BY,0,0,[]⟩,false):=by
 rw[vg c b] at h⊢;split at h
 ·cases h
 ·rename_i a;rw[N1 a]
def Ia {ms:List Me} (h:dL ms) {i j:Nat} {a b:Me} (g:ms[i]?=some a) (k:ms[j]?=some b) (d:a.name=b.name):i=j:=by
 obtain⟨hi,rfl⟩:=ME.1 g;obtain⟨e,rfl⟩:=ME.1 k;have f:=List.pairwise_iff_getElem.1 h;rcases Nat.lt_trichotomy i j with c|c|c
 ·have:=f i j hi e c;rw[d,jl] at this;cases this
 ·exact c
 ·have:=f j i e hi c;rw[d,jl] at this;cases this
theorem d52.one {w:Wd} {S:Int->Int->List Int} {l:List Fs} (t:dS w) (h:d52 w S l) {k j:Int} {x:Cl} {m:Me} (e:j4 w.a7 k=some x) (s:j4 x.aB j=some m) {f:Fs} (q:f∈l) (d:f.cls=k) (p:f.name=m.name):qF w S k j=(f,true):=by
 obtain⟨c,i,y,n,e1,a,b,rfl⟩:=h f q;obtain⟨g,o,v⟩:=xp (k:=(c:Int)) (j:=(i:Int)) (by rw[D7];exact e1) (by rw[D7];exact a) b;rw[g] at d;subst d;rw[D7,e1] at e;cases e;obtain⟨z,u⟩:=l6 s;have:=Ia (t x (MP e1)) a u (by rw[<-o,p]);have r:j=(i:Int):=d9;rw[r,<-b]
theorem CG {N:Nat} {w:Wd} {t:List Tl} {c:Nat}:∀(r:List Me) (k:Nat) (f:Fs),f∈cj N w t c r k↔∃(i:Nat) (m:Me),r[i]?=some m/\(qF w (gF N w t) c ((k+i:Nat):Int)).2=true/\f=(qF w (gF N w t) c ((k+i:Nat):Int)).1
 |[],k,f=>by simp[cj]
 |x::r,k,f=>by
  rw[cj,MT,CG r (k+1) f];constructor
  ·rintro(h|⟨i,m,d,a,b⟩)
   ·unfold nt at h;split at h
    ·rename_i g;exact⟨0,x,rfl,g,Mh.1 h⟩
    ·cases h
   ·exact⟨i+1,m,by simpa using d,by rw[show k+(i+1)=k+1+i by omega];exact a,by rw[show k+(i+1)=k+1+i by omega];exact b⟩
  ·rintro⟨i,m,d,a,b⟩;cases i with
   |zero =>
    left;have e:(js w (c:Int) (k:Int) (gF N w t c k)).2=true:=a;unfold nt;rw[N2 e];exact Mh.2 b
   |succ i=>exact .inr ⟨i,m,by simpa using d,by rw[show k+1+i=k+(i+1) by omega];exact a,by rw[show k+1+i=k+(i+1) by omega];exact b⟩
theorem xc {N:Nat} {w:Wd} {t:List Tl}:∀(r:List Cl) (c:Nat) (f:Fs),f∈gw N w t r c↔∃(k:Nat) (x:Cl) (i:Nat) (m:Me),r[k]?=some x/\x.aB[i]?=some m/\(qF w (gF N w t) ((c+k:Nat):Int) i).2=true/\f=(qF w (gF N w t) ((c+k:Nat):Int) i).1
 |[],c,f=>by simp[gw]
 |x::r,c,f=>by
  rw[gw,MT,CG,xc r (c+1) f];constructor
  ·rintro(⟨i,m,d,a,b⟩|⟨k,y,i,m,e,d,a,b⟩)
   ·rw[Mi] at a b;exact⟨0,x,i,m,rfl,d,a,b⟩
   ·exact⟨k+1,y,i,m,by simpa using e,d,by rw[show c+(k+1)=c+1+k by omega];exact a,by rw[show c+(k+1)=c+1+k by omega];exact b⟩
  ·rintro⟨k,y,i,m,e,d,a,b⟩;cases k with
   |zero =>
    left;cases e;exact⟨i,m,d,by rw[Mi];exact a,by rw[Mi];exact b⟩
   |succ k=>exact .inr ⟨k,y,i,m,by simpa using e,d,by rw[show c+1+k=c+(k+1) by omega];exact a,by rw[show c+1+k=c+(k+1) by omega];exact b⟩
def IP (N:Nat) (w:Wd) (t:List Tl):d52 w (gF N w t) (gw N w t w.a7 0):=fun f e=>by
 obtain⟨k,x,i,m,c,d,a,b⟩:=(xc w.a7 0 f).1 e;rw[Mi] at a b;exact⟨k,i,x,m,c,d,a,b⟩
theorem za {N:Nat} {w:Wd} {S:Int->Int->List Int} (r:dS w) {k j:Int} {x:Cl} {m:Me} (n:j4 w.a7 k=some x) (d:j4 x.aB j=some m):∀(l:List Fs) (i:Nat),d52 w S l ->
  lG N k j w l i=some (.ret (qF w S k j))\/(lG N k j w l i=some (.next ())/\∀f∈l,¬(f.cls=k/\f.name=m.name))
 |[],i,_=>.inr ⟨rfl,fun f s=>by cases s⟩
 |f::l,i,h=>by
  have ih:=za (N:=N) r n d l (i+1) fun g a=>h g (by simp[a]);rw[lG];by_cases b:f.cls=k
  ·rw[N6 b];simp only[Mz,n,d,A0];by_cases c:f.name=m.name
   ·have e:=h.one r n d l9 b c;obtain⟨t,u,o⟩:=xp n d (by rw[e]);rw[e] at o;simp only at o;rw[N6 c,N6 o];left;rw[e];rfl
   ·rw[N5 c];rcases ih with ih|⟨ih,q⟩
    ·exact .inl ih
    ·exact .inr ⟨ih,fun g a=>by
      rcases MG.1 a with rfl|a
      ·exact fun p=>c p.2
      ·exact q g a⟩
  ·rw[N5 b];rcases ih with ih|⟨ih,q⟩
   ·exact .inl ih
   ·exact .inr ⟨ih,fun g a=>by
     rcases MG.1 a with rfl|a
     ·exact fun p=>b p.1
     ·exact q g a⟩
def H0 {N:Nat} {w:Wd} {t:List Tl} (l:dS w) {k j:Int} {x:Cl} {m:Me} (b:j4 w.a7 k=some x) (a:j4 x.aB j=some m):pP N k j (gw N w t w.a7 0) w=some (qF w (gF N w t) k j):=by
 unfold pP;rcases za (N:=N) l b a (gw N w t w.a7 0) 0 (IP N w t) with h|⟨h,i⟩
 ·rw[h];rfl
 ·rw[h];cases c:(qF w (gF N w t) k j).2 with
  |false=>rw[KV b a c];rfl
  |true =>
   obtain⟨f,g,_⟩:=xp b a c;obtain⟨e,o⟩:=l6 b;obtain⟨d,n⟩:=l6 a;refine absurd ⟨f,g⟩ (i _ ((xc w.a7 0 _).2 ⟨k.toNat,x,j.toNat,m,o,n,?_,?_⟩))
   ·rw[Mi,Int.toNat_of_nonneg e,Int.toNat_of_nonneg d];exact c
   ·rw[Mi,Int.toNat_of_nonneg e,Int.toNat_of_nonneg d]
theorem ca.heap {w:Wd} {H:List Ob} {l:List Ce} (h:ca w l):ca ⟨w.a7,H,w.aC⟩ l:=by
 intro c e f y g;obtain⟨n,a,b,d⟩:=h c e f y g;exact⟨n,a,by rw[Aa];exact b,by rw[Aa];exact d⟩
structure SI (N:Nat) (E:Int) (z:Nat) (s:U8):Prop where
 right:I6 N s.world
 small:D6 s.world
 ep:s.world.aC<=E
 cells:ca s.world s.cells
 jD:∀c∈s.cells,c.aC<=s.world.aC
 sz:k6 z ⟨⟨[],[],0⟩,⟨⟨0,0⟩,0,0⟩,s.cells,s.aX,0,0⟩
 saved:s.saved=[]\/∃w0,I6 N w0/\D6 w0/\w0.aC<=E/\s.saved=U (dY w0)
section
variable {N:Nat} {E:Int} {z:Nat} {s:U8}
theorem SI.more (h:SI N E z s) {g:Int} {i:Nat} (k:E<=g) (e:z<=i):SI N g i s :=
 ⟨h.right,h.small,by have:=h.ep;omega,h.cells,h.jD,⟨Nat.le_trans h.sz.1 e,fun x f=>Nat.le_trans (h.sz.2.1 x f) e,Nat.le_trans h.sz.2.2.1 e,fun x f=>Nat.le_trans (h.sz.2.2.2 x f) e⟩,
  h.saved.imp id fun⟨j,a,b,c,d⟩=>⟨j,a,b,d9,d⟩⟩
theorem SI.len (c:4194304<=N) (h:SI N E z s):s.saved.length<=1000000:=by
 rcases h.saved with e|⟨d,a,b,_,e⟩
 ·rw[e];simp
 ·rw[e,fQ];exact(DZ c b a).2
def L7 (a:4194304<=N) (h:SI N E z s) (d:z<=1099511627000):pI N s=some s:=by
 have hl:=h.len a;unfold pI wQ;rw[ib N _ h.small,wh N ⟨by have:=h.sz.1;simp only at this;omega,fun x c=>by have:=h.sz.2.1 x c;omega⟩,BB N (fun t b=>by have:=h.sz.2.2.2 t b;omega) (by have:=h.sz.2.2.1;simp only at this;omega),
  show IN (s.saved.length*1) 140737488355328=true from Nat.ble_eq_true_of_le d9]
 rfl
def Bq {w:Wd} (f:4194304<=N) (e:D6 w) (a:I6 N w) {c:P8} {q:Wd×dw} (h:iT w c 400 cH q):I6 N q.1/\D6 q.1/\(∀l,ca w l->ca q.1 l)/\q.1.aC=w.aC/\(q.2.err≠0->q.1=w):=by
 obtain⟨f1,g⟩:=IF f e a h;by_cases b:q.2.err=0
 ·obtain⟨_,_,_,_,i,e1,_⟩:=f1 b;have:=a.other f e i a.aC;rw[e1];exact⟨this.1,this.2,fun l hl=>hl.heap,rfl,fun d=>absurd b d⟩
 ·rw[(g b).1];exact⟨a,e,fun l hl=>hl,rfl,fun _=>rfl⟩
theorem CN {w:Wd}:∀{ev:List (St×Int)} {sb:C9},(∀c∈sb.cells,c.aC<=w.aC)->∀c∈(ev.foldl (iN w) sb).cells,c.aC<=w.aC
 |[],_,h=>h
 |e::ev,sb,h=>by
  rw[List.foldl_cons];refine CN fun c a=>?_;simp only[iN,iG] at a;split at a
  ·exact h c a
  split at a
  ·exact h c a
  ·rcases vM a with a|⟨y,_,_,rfl⟩
   ·exact h c a
   ·rw[(Bf _ _ _ _).2];exact MO _
def Jh (o:4194304<=N) (h:SI N E z s) (R:z<=1099511627000) {k:Int} (O:k=4\/k=5\/k=6) (c:P8):∃t q,rT N s k c=some (⟨q.2.err,q.2.sends,q.2.value⟩,t)/\iT s.world c 400 cH q/\t.world=q.1/\t.saved=s.saved/\SI N E (z+401) t/\(k≠5->t.cells=s.cells/\t.aX=s.aX):=by
 have a:=h.right;have i:=h.small;have d:∀{q:Wd×dw} {l:List Ce} {ts:List Tl},iT s.world c 400 cH q->ca s.world l->(∀c∈l,c.aC<=s.world.aC)->k6 (z+401) ⟨⟨[],[],0⟩,⟨⟨0,0⟩,0,0⟩,l,ts,0,0⟩->SI N E (z+401) ⟨q.1,l,ts,s.saved⟩:=fun {q l ts} y J K L=>by
  obtain⟨G,H,I,C,_⟩:=Bq o i a y;exact⟨G,H,by simp only;rw[C];exact h.ep,I _ J,fun c M=>by simp only;rw[C];exact K c M,L,h.saved⟩
 have p:=(h.more (MO _) (Nat.le_add_right z 401)).sz;unfold rT;rcases O with rfl|rfl|rfl
 ·obtain⟨q,u,b⟩:=HV o i a c 400;refine⟨⟨q.1,s.cells,s.aX,s.saved⟩,q,?_,b,rfl,rfl,d b h.cells h.jD p,fun _=>⟨rfl,rfl⟩⟩;simp only[N3,Mz,u,A0]
 ·obtain⟨q,ev,sb,u,b,A,Q,T⟩:=IJ o i a c (fuel:=400) s.cells s.aX _ h.sz d9 h.cells;obtain⟨v,D⟩:=yE a.cq Q h.sz h.cells;have F:=CN (w:=s.world) (ev:=ev) (sb:=⟨⟨[],[],0⟩,⟨⟨0,0⟩,0,0⟩,s.cells,s.aX,0,0⟩) h.jD;rw[<-A] at v D F;refine⟨⟨q.1,sb.cells,sb.aX,s.saved⟩,q,?_,b.ew,rfl,rfl,d b.ew D F ⟨by have:=v.1;simp only;omega,fun x r=>by have:=v.2.1 x r;omega,by have:=v.2.2.1;simp only;omega,fun x r=>by have:=v.2.2.2 x r;omega⟩,fun e=>absurd rfl e⟩;rw[N5 (show¬(5:Int)=4 by decide)];simp only[N3,Mz,N0,u,A0]
 ·obtain⟨q,u,b⟩:=KF (fuel:=400) (S:=gF N s.world s.aX) (gl:=fun f g B=>pR N f g B s.world) (gq:=fun f g=>pP N f g (gw N s.world s.aX s.world.a7 0) s.world) o i a (fun st k n=>by
   show pR N st k n s.world=_;unfold pR;rw[lH N s.world k n d9 a.cq i];rfl) (fun k j x m r P=>H0 a.cq r P) c
  have y:rM N s.world c 400 (gw N s.world s.aX s.world.a7 0)=some q:=by
   unfold rM;rw[u];rfl
  refine⟨⟨q.1,s.cells,s.aX,s.saved⟩,q,?_,b,rfl,rfl,d b h.cells h.jD p,fun _=>⟨rfl,rfl⟩⟩;rw[N5 (show¬(6:Int)=4 by decide),N5 (show¬(6:Int)=5 by decide)];simp only[N0,HY N o s.world i a s.aX,y,A0]
end
def d72 {w w':Wd} (l:∀(j:Nat) x,w.a7[j]?=some x->w'.a7[j]?=some x) (d:∀(j:Nat) x,w.a7[j]?=some x->x.aQ<j) (s:ByteArray):∀(c:Nat),c<w.a7.length->∀n a,c<n->c<a->X3 w' s a (c:Int)=X3 w s n (c:Int):=by
 intro c
 induction c using Nat.strongRecOn with
 |ind c ih =>
  intro o n a t p;obtain⟨n,rfl⟩:∃m,n=m+1:=⟨n-1,d9⟩;obtain⟨a,rfl⟩:∃m,a=m+1:=⟨a - 1,d9⟩;have f:=IS o;have r:=d c _ f;rw[X3,X3,N2 (Int.natCast_nonneg c),N2 (Int.natCast_nonneg c),Mg,l _ _ f,f];simp only;cases bI s (w.a7[c]).aB with
  |some i=>rfl
  |none =>
   simp only;rcases Int.lt_or_le (w.a7[c]).aQ 0 with g|b
   ·have h:∀(v:Wd) (k:Nat),X3 v s k (w.a7[c]).aQ=none:=fun v k=>by
     cases k with
     |zero=>rfl
     |succ k=>rw[X3,N1 d9]
    rw[h,h]
   ·obtain⟨q,e⟩:=Int.eq_ofNat_of_zero_le b;rw[e] at r⊢;exact ih q d9 d9 n a d9 d9
theorem ca.more {w w':Wd} (p:∀(j:Nat) x,w.a7[j]?=some x->w'.a7[j]?=some x) (hl:w.a7.length<=w'.a7.length) (b:∀(j:Nat) x,w.a7[j]?=some x->x.aQ<j) (F:w'.aC=w.aC) {l:List Ce} (h:ca w l):ca w' l:=by
 intro c D e y G;obtain⟨n,⟨x,m,i,j,t,u,v,A,B⟩,a,C⟩:=h c D (by rw[<-F];exact e) y G;have g:∀{k:Int} {x:Cl},j4 w.a7 k=some x->j4 w'.a7 k=some x:=fun {k x} d=>by
  obtain⟨H,I⟩:=l6 d;obtain⟨q,rfl⟩:=Int.eq_ofNat_of_zero_le H;rw[D7] at d⊢;exact p _ _ d
 have r:l7 w' n y.cls=l7 w n y.cls:=by
  rcases Int.lt_or_le y.cls 0 with o|o
  ·unfold l7 at a;rw[X3,N1 d9] at a;exact absurd (show(0:Int)<=-1 from a) G8
  ·obtain⟨q,e⟩:=Int.eq_ofNat_of_zero_le o;rcases Nat.lt_or_ge q w.a7.length with f|f
   ·rw[e];unfold l7;rw[d72 p b n q f (w.a7.length+1) (w'.a7.length+1) d9 d9]
   ·unfold l7 at a;rw[e,X3,N2 (Int.natCast_nonneg q),Mg,Md f] at a;exact absurd (show(0:Int)<=-1 from a) G8
 exact⟨n,⟨x,m,i,j,g t,u,v,A,B⟩,by rw[r];exact a,by rw[r];exact C⟩
theorem ca.later {w w':Wd} {l:List Ce} (h:∀c∈l,c.aC<=w.aC) (b:w.aC<w'.aC):ca w' l:=fun c a e=>by
 have:=h c a;omega
def gN : V:=⟨0,0⟩
def d32 (N:Nat) (w:Wd) (a:List Int) (x:cu):Wd×List Int×fZ :=
 if x.kind=1 then(if(gx w x.name x.aI x.aG).2.2=0 then((gx w x.name x.aI x.aG).1,a,⟨0,(gx w x.name x.aI x.aG).2.1,gN⟩) else(w,a,⟨(gx w x.name x.aI x.aG).2.2,0,gN⟩))
 else if x.kind=2 then(match aj N w x.aI x.aL with
  |none=>(w,a,⟨0,0,gN⟩)
  |some f=>if f.err=0 then(if(iL w x.aI x.aL).2=0 then((iL w x.aI x.aL).1,a,⟨0,0,gN⟩) else(w,a,⟨(iL w x.aI x.aL).2,0,gN⟩)) else(w,a,⟨f.err,f.aH,gN⟩))
 else if x.kind=3 then(if x.aI≠0/\(x.aI<4\/(w.a7.length:Int)<=x.aI) then(w,a,⟨6,0,gN⟩) else if 60<=w.heap.length then(w,a,⟨15,0,gN⟩)
  else(⟨w.a7,w.heap++[⟨x.aI,MI (p8 w x.aI).toNat ⟨0,0⟩⟩],w.aC⟩,a,⟨0,(w.heap.length:Int),⟨4,(w.heap.length:Int)⟩⟩))
 else if x.kind=7 then(w,U (dY w),⟨0,((U (dY w)).length:Int),gN⟩)
 else if x.kind=8 then(if a.length=0 then(w,a,⟨6,0,gN⟩) else match lT N a with
  |none=>(w,a,⟨0,0,gN⟩)
  |some p=>if p.2=0 then(⟨p.1.a7,p.1.heap,max p.1.aC w.aC+1⟩,a,⟨0,0,gN⟩) else(w,a,⟨p.2,0,gN⟩))
 else(w,a,⟨1,0,gN⟩)
def gI (k:Int):Prop:=k=4\/k=5\/k=6
instance (k : Int):Decidable (gI k):=by unfold gI;infer_instance
def DR (N:Nat) (w:Wd) (b:List Int) (x:cu) (w':Wd) (a:List Int) (r:fZ):Prop :=
 if gI x.kind then∃q,iT w x.call 400 cH q/\r=⟨q.2.err,q.2.sends,q.2.value⟩/\w'=q.1/\a=b else(w',a,r)=d32 N w b x
section
variable {N:Nat} {E:Int} {z:Nat} {s:U8} {x:cu}
def Jl (e:4194304<=N) (h:SI N E z s) (c:Int) (l:¬(c≠0/\(c<4\/(s.world.a7.length:Int)<=c))) (m:¬60<=s.world.heap.length) :
  ja N s.world.heap c (p8 s.world c)=some (s.world.heap++[⟨c,MI (p8 s.world c).toNat ⟨0,0⟩⟩],⟨4,(s.world.heap.length:Int)⟩,0)/\SI N E z ⟨⟨s.world.a7,s.world.heap++[⟨c,MI (p8 s.world c).toNat ⟨0,0⟩⟩],s.world.aC⟩,s.cells,s.aX,s.saved⟩:=by
 have b:=h.right;have d:=h.small;have n:=b.many;have W:=b.od e d;have k:=W.aG c;have j:=Du W (x9 b) d9 (a:=c) d9 d9;have f:=b.other e d j b.aC;refine⟨?_,f.1,f.2,h.ep,h.cells.heap,h.jD,h.sz,h.saved⟩;unfold ja;have e1:max (p8 s.world c) 0=p8 s.world c:=d9;rw[N5 (show¬(60:Int)<=(s.world.heap.length:Int) by omega),rP N d.2.2.2 d.2.1,e1];have g:(decide (0<=p8 s.world c) && decide (p8 s.world c<=140737488355328) && decide (p8 s.world c*16<=140737488355328))=true:=by
  simp only[IT,NA];omega
 have i:IN ((s.world.heap.length+[(⟨c,MI (p8 s.world c).toNat (⟨0,0⟩:V)⟩:Ob)].length)*32) 140737488355328=true:=Nat.ble_eq_true_of_le (by simp only[Mx];omega);simp only[N0,A0,g,Mz,i]
def LJ (b:4194304<=N) (h:SI N E z s) (hE:E<=1000000) (hz:z<=1099511000000) (u:x.aL.code.length<=1048576):∃t r,mS N s x=some (t,r)/\SI N (E+1) (z+401) t/\DR N s.world s.saved x t.world t.saved r:=by
 have a:=h.right;have d:=h.small;have hm:=a.many;have R:=h.ep;have L:=a.aC;have H:=h.more (show E<=E+1 by omega) (Nat.le_add_right z 401);unfold mS DR;rw[L7 b h d9];simp only[A0];by_cases i:gI x.kind
 ·obtain⟨t,q,T,U,V,W,X,_⟩:=Jh b h d9 i x.call;have m:¬x.kind=1:=by unfold gI at i;omega
  have n:¬x.kind=2:=by unfold gI at i;omega
  have o:¬x.kind=3:=by unfold gI at i;omega
  refine⟨t,⟨q.2.err,q.2.sends,q.2.value⟩,?_,X.more d9 (It _),by rw[N2 i];exact⟨q,U,rfl,V,W⟩⟩;rw[N5 m,N5 n,N5 o];simp only[N0,T,A0];rcases i with e|e|e<;>simp[e]
 simp only[N1 i];unfold d32;unfold gI at i;by_cases m:x.kind=1
 ·rw[N6 m,N2 m,Gi N s.world _ _ _ d9 d (pG a)];simp only[Mz,A0];by_cases e:(gx s.world x.name x.aI x.aG).2.2=0
  ·obtain⟨F,G,k,Y⟩:=AK b d a e;rw[N6 e,N2 e];simp only[MH,N0];refine⟨_,_,rfl,⟨F,G,?_,?_,?_,H.sz,H.saved⟩,rfl⟩
   ·simp only[k];omega
   ·refine ca.more (w:=s.world) (fun j y O=>?_) Y.len a.sup (by simp only[k]) h.cells;simp only[k];rw[Mp (ME.1 O).1];exact O
   ·simp only[k];exact h.jD
  ·rw[N5 e,N1 e];simp only[MQ,Mz];exact⟨_,_,rfl,H,rfl⟩
 rw[N5 m,N1 m];by_cases n:x.kind=2
 ·rw[N6 n,N2 n];unfold uc;obtain⟨f,M⟩:=wJ N s.world x.aI x.aL b;rw[Ap N s.world _ _ d9 d.1,M];simp only[N0,Mz,A0];by_cases e:f.err=0
  ·rw[N6 e,N2 e,GA N s.world _ _ d9 d a.cq u];simp only[MH,N0,A0];by_cases l:(iL s.world x.aI x.aL).2=0
   ·obtain⟨F,G,k⟩:=AJ b d a M e d9 l;rw[N6 l,N2 l];simp only[Mz,A0,l];exact⟨_,_,rfl,⟨F,G,by simp only[k];omega,ca.later h.jD (by simp only[k];omega),fun c u=>by have:=h.jD c u;simp only[k];omega,H.sz,H.saved⟩,rfl⟩
   ·rw[N5 l,N1 l];simp only[N0,A0];exact⟨_,_,rfl,H,rfl⟩
  ·rw[N5 e,N1 e];simp only[MQ,Mz,A0];exact⟨_,_,rfl,H,rfl⟩
 rw[N5 n,N1 n];by_cases o:x.kind=3
 ·rw[N6 o,N2 o];unfold uk;have e1:((bif (!decide (x.aI=(0:Int))) then(bif decide (x.aI<(4:Int)) then some (true) else some (decide ((s.world.a7.length:Int)<=x.aI))) else some (false)):Option Bool)=some (decide (x.aI≠0/\(x.aI<4\/(s.world.a7.length:Int)<=x.aI))):=by
   by_cases g1:x.aI=0
   ·simp[g1]
   ·by_cases p:x.aI<4<;>simp[g1,p]
  rw[e1];simp only[N0,Mz,A0];by_cases g:x.aI≠0/\(x.aI<4\/(s.world.a7.length:Int)<=x.aI)
  ·rw[N6 g,N2 g];simp only[Mz,A0];exact⟨_,_,rfl,H,rfl⟩
  rw[N5 g,N1 g];simp only[N0,ou N s.world _ d9 d.1,A0];by_cases p:60<=s.world.heap.length
  ·rw[N2 p];have:ja N s.world.heap x.aI (p8 s.world x.aI)=some ([],⟨0,0⟩,15):=by
    unfold ja;rw[N6 (show(60:Int)<=(s.world.heap.length:Int) by omega)];rfl
   rw[this];exact⟨_,_,rfl,H,rfl⟩
  ·rw[N1 p];obtain⟨Z,v2⟩:=Jl b h x.aI g p;rw[Z];exact⟨_,_,rfl,v2.more d9 (Nat.le_add_right z 401),rfl⟩
 rw[N5 o,N1 o,N5 (show¬x.kind=4 by omega),N5 (show¬x.kind=5 by omega),N5 (show¬x.kind=6 by omega)];simp only[N0,A0];by_cases B:x.kind=7
 ·obtain⟨s1,P⟩:=Co b d a;rw[N6 B,N2 B,s1];simp only[Mz,A0];exact⟨_,_,rfl,⟨a,d,H.ep,h.cells,h.jD,H.sz,.inr ⟨s.world,a,d,H.ep,rfl⟩⟩,rfl⟩
 rw[N5 B,N1 B];by_cases C:x.kind=8
 ·rw[N6 C,N2 C];unfold ui;simp only[N0,Mz];rcases h.saved with e|⟨v,A,I,a3,e⟩
  ·rw[e];exact⟨_,_,rfl,H,by simp only[Ms,if_true];rw[e];rfl⟩
  ·have D:¬s.saved.length=0:=fun J=>by
    rw[e,fQ] at J;exact d71 v (Mk J)
   obtain⟨_,P⟩:=Co b I A;have Q:=A.aC;have S:wr (max v.aC s.world.aC+1)=max v.aC s.world.aC+1:=q9 ino;have K:=A.other b I (x9 A) (e:=max v.aC s.world.aC+1) d9;rw[N5 (show¬(s.saved.length:Int)=0 by omega),N1 D];rw[show lT N s.saved=some (v,0) by rw[e];exact P];simp only[N0,A0,N3,MH,S,if_true];exact⟨_,_,rfl,⟨K.1,K.2,bJ,ca.later h.jD bJ,fun c u=>by have:=h.jD c u;simp only;omega,H.sz,H.saved⟩,rfl⟩
 rw[N5 C,N1 C];exact⟨_,_,rfl,H,rfl⟩
end
def Li (x y:cu):Prop:=y=x\/(gI x.kind/\∃k,gI k/\y=⟨k,x.name,x.aI,x.aG,x.aL,x.call⟩)
theorem DR.oG {N:Nat} {w:Wd} {sv:List Int} {x y:cu} {i j:Wd} {s1 h:List Int} {f g:fZ} (l:Li x y) (d:DR N w sv x i s1 f) (a:DR N w sv y j h g):i=j/\s1=h/\f=g:=by
 have call:gI x.kind->gI y.kind->y.call=x.call->i=j/\s1=h/\f=g:=fun b c e=>by
  unfold DR at d a;rw[N2 b] at d;rw[N2 c,e] at a;obtain⟨q,t,u,v,z⟩:=d;obtain⟨p,m,n,o,s⟩:=a;have:=t.oG m;subst this;exact⟨by rw[v,o],by rw[z,s],by rw[u,n]⟩
 rcases l with rfl|⟨b,k,c,rfl⟩
 ·by_cases b:gI y.kind
  ·exact call b b rfl
  ·unfold DR at d a;rw[N1 b] at d a;rw[<-d] at a;simp only[Prod.mk.injEq] at a;exact⟨a.1.symm,a.2.1.symm,a.2.2.symm⟩
 ·exact call b c rfl
section
variable {N:Nat} {w:Wd} {sv:List Int} {x:cu} {w':Wd} {sv':List Int} {r:fZ}
theorem DR.ew (h:DR N w sv x w' sv' r) (c:4194304<=N) (b:I6 N w) (d:D6 w):w.aC<=w'.aC/\(r.err≠0->w'=w)/\(x.kind≠7->sv'=sv):=by
 unfold DR at h;by_cases i:gI x.kind
 ·rw[N2 i] at h;obtain⟨q,m,rfl,rfl,rfl⟩:=h;obtain⟨_,_,_,o,j⟩:=Bq c d b m;exact⟨d9,j,fun _=>rfl⟩
 ·rw[N1 i] at h;have p:=b.aC;unfold d32 at h;split at h
  ·split at h
   ·rename_i e;obtain⟨_,_,n,_⟩:=AK c d b e;cases h;exact⟨by rw[n];exact MO _,fun e=>absurd rfl e,fun _=>rfl⟩
   ·cases h;exact⟨MO _,fun _=>rfl,fun _=>rfl⟩
  split at h
  ·split at h
   ·cases h;exact⟨MO _,fun _=>rfl,fun _=>rfl⟩
   ·rename_i f k;split at h
    ·rename_i e;split at h
     ·rename_i a;cases h;refine⟨?_,fun e=>absurd rfl e,fun _=>rfl⟩;rcases Int.lt_or_le w.aC 1073741824 with g|g
      ·have:=(AJ c d b k e g a).2.2;omega
      ·unfold iL at a⊢;split
       ·split
        ·simp[*] at a
        ·split
         ·simp[*] at a
         ·simp only;rw[q9 ino];omega
       ·simp[*] at a
     ·cases h;exact⟨MO _,fun _=>rfl,fun _=>rfl⟩
    ·cases h;exact⟨MO _,fun _=>rfl,fun _=>rfl⟩
  split at h
  ·split at h
   ·cases h;exact⟨MO _,fun _=>rfl,fun _=>rfl⟩
   split at h
   ·cases h;exact⟨MO _,fun _=>rfl,fun _=>rfl⟩
   ·cases h;exact⟨MO _,fun e=>absurd rfl e,fun _=>rfl⟩
  split at h
  ·rename_i l;cases h;exact⟨MO _,fun _=>rfl,fun e=>absurd l e⟩
  split at h
  ·split at h
   ·cases h;exact⟨MO _,fun _=>rfl,fun _=>rfl⟩
   split at h
   ·cases h;exact⟨MO _,fun _=>rfl,fun _=>rfl⟩
   split at h
   ·cases h;exact⟨bJ,fun e=>absurd rfl e,fun _=>rfl⟩
   ·cases h;exact⟨MO _,fun _=>rfl,fun _=>rfl⟩
  ·cases h;exact⟨MO _,fun _=>rfl,fun _=>rfl⟩
end
def zB : U8:=⟨N9,[],[],[]⟩
def Ko (N:Nat) (e:4194304<=N):pH N=some zB/\SI N 0 0 zB:=by
 refine⟨rfl,?_⟩;have f:jX N N9=some 0:=by rw[BI N N9 e uW];exact IG N
 obtain⟨r,d,g⟩:=d28 N N9 e uW;rw[f] at d;cases d;exact⟨g rfl,uW,MO _,(fun c a=>by cases a),(fun c a=>by cases a),⟨It _,(fun x b=>by cases b),It _,(fun x b=>by cases b)⟩,.inl rfl⟩
def d62 {l:List cu} {b:Nat} (h:eN kJ l<=b):∀x∈l,x.aL.code.length<=b:=fun x c=>by
 have d:=K1 (bk:=kJ) c;have f:=Jy (bk:=lb) (fun a=>d76 a) x.aL.code;have e:eN lb x.aL.code<=kJ x:=by unfold kJ d61;omega
 omega
theorem CT {N:Nat} (a:4194304<=N):∀(l:List cu) (k:Nat) (s:U8) (E:Int) (z:Nat),(∀x∈l,x.aL.code.length<=1048576)->SI N E z s->E+l.length<=1000->z+401*l.length<=1000000->V9 N l k s=some (.next ())
 |[],_,_,_,_,_,_,_,_=>rfl
 |x::l,k,s,E,z,hc,hs,hE,hz=>by
  simp only[ML] at hE hz;obtain⟨t,r,d,b,e⟩:=LJ (x:=x) a hs d9 d9 (hc x l9);obtain⟨h,f,_⟩:=e.ew a hs.right hs.small;have ih:=CT a l (k+1) t (E+1) (z+401) (fun x g=>hc x (Mr _ g)) b d9 d9;rw[V9,d];simp only[A0,CB N t.world a b.small b.right,N3,MH,N0,N5 (show¬t.world.aC<s.world.aC by omega)];by_cases c:r.err=0
  ·simp only[c,N3,MH,N0,A0];exact ih
  ·simp only[c,N4,MQ,Mz,HU,A0,N6 (f c),MH,N0];exact ih
def Fo : qt 4194304=some true:=C8
def GD (a:(List cu)) (i:(oT yX) a) (f:(eN kJ) a<=1048576):∃N,uC N a=some true:=by
 obtain⟨N,c⟩:∃N:Nat,N=4194304:=⟨_,rfl⟩;have d:qt N=some true:=by rw[c];exact Fo
 have e:4194304<=N:=d9;refine⟨N,?_⟩;unfold uC;rw[d];simp only[A0,MH,N0];by_cases b:(60:Int)<(a.length:Int)
 ·rw[N6 b];rfl
 ·obtain⟨g,h⟩:=Ko N e;rw[N5 b,g];simp only[N0,A0,CT e a 0 zB 0 0 (d62 f) h d9 d9]
end Go.Proofs.YtibjcppjfkamhaaGreatDoor
