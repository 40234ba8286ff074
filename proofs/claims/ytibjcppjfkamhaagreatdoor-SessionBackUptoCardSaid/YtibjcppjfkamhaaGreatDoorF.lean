import Derived.Test.YtibjcppjfkamhaaGreatDoorE
set_option linter.unusedVariables false
set_option linter.defProp false
set_option linter.unusedSimpArgs false
namespace Go.Proofs.YtibjcppjfkamhaaGreatDoor
open Go.RowKit
open _root_.Bool renaming and_eq_true->IT,not_true->M1,not_false->MJ,false_eq_true->Mc
open _root_.ByteArray renaming empty->BY
open _root_.Int renaming le_refl->MH,toNat_natCast->MX
open _root_.List renaming getElem?_eq_getElem->IS,getElem?_eq_some_iff->Lx,mem_cons->Ly,length_cons->MB,replicate->MC,length_append->MD,map->MF,mem_of_getElem?->MI,map_cons->ML,mem_append->MN,append_assoc->MO,length_map->MP,getElem?_set->MQ,getElem?_append_right->MS,sum_cons->MT,length_set->MU,getElem?_eq_none->MV,mem_singleton->MY,eq_nil_of_length_eq_zero->Ma,getElem?_map->Mb,ext_getElem?->Mf,getElem?_append_left->Mh,mem_cons_of_mem->Mi,length_nil->Mj,length_take->Mk,getElem?_take->Mm,mem_iff_getElem?->Mn,getElem?_cons_succ->Mo,length_singleton->Mp,getElem?_cons_zero->Mq
open _root_.Nat renaming ble->IN,le_refl->It,zero_add->MZ,add_assoc->Mg,mul_le_mul_right->Ml
open _root_.Option renaming bind_some->A0,map_eq_some_iff->ME,map_some->MW
def tr (r:dd):BL:=(r.l.map dc).flatten
def zW (r:dd):Prop:=∀w∈r.l,iG w/\w.size<4294967281
def eI {α:Type} (f:dd->Option (α×dd)) (p:BL->Option (α×BL)) (A:α->Prop):Prop :=
 ∀r:dd,zW r->∃a b,f r=some (a,b)/\A a/\zW b/\(r.gd=false->b.gd=false) /\
  (r.gd=true->match p (tr r) with
   |some (x,t)=>a=x/\b.gd=true/\tr b=t
   |none=>b.gd=false)
section
variable {α β:Type}
theorem eI.pure {a:α} {A:α->Prop} (h:A a):eI (fun r=>some (a,r)) (fun t=>some (a,t)) A :=
 fun r b=>⟨a,r,rfl,h,b,fun h=>h,fun h=>⟨rfl,h,rfl⟩⟩
theorem eI.bind {f:dd->Option (α×dd)} {p:BL->Option (α×BL)} {A:α->Prop} (u:eI f p A) {k:α×dd->Option (β×dd)} {q:α×BL->Option (β×BL)} {B:β->Prop}
  (v:∀a,A a->eI (fun r=>k (a,r)) (fun t=>q (a,t)) B):eI (fun r=>(f r).bind k) (fun t=>(p t).bind q) B:=by
 intro r w;obtain⟨a,y,l,m,n,o,c⟩:=u r w;obtain⟨b,z,g1,g,i,d,j⟩:=v a m y n;refine⟨b,z,by simp only[l,A0,g1],g,i,fun h=>d (o h),fun h=>?_⟩;have c:=c h;dsimp only;cases e:p (tr r) with
 |none =>
  rw[e] at c;exact d c
 |some x =>
  rw[e] at c;obtain⟨x,t⟩:=x;obtain⟨rfl,s,rfl⟩:=c;exact j s
theorem eI.eA {L:dd->Option (dd×α)} {p:BL->Option (α×BL)} {A:α->Prop} (e:eI (fun r=>(L r).map fun y=>(y.2,y.1)) p A) {k:dd×α->Option (β×dd)} {q:α×BL->Option (β×BL)} {B:β->Prop}
  (f:∀a,A a->eI (fun r=>k (r,a)) (fun t=>q (a,t)) B):eI (fun r=>(L r).bind k) (fun t=>(p t).bind q) B:=by
 have:=eI.bind e (k:=fun y=>k (y.2,y.1)) f;intro r h;obtain⟨b,c,g1,g⟩:=this r h;refine⟨b,c,?_,g⟩;have d:((L r).map fun y=>(y.2,y.1)).bind (fun y=>k (y.2,y.1))=some (b,c):=g1;show(L r).bind k=some (b,c);rw[<-d];cases L r<;>rfl
theorem eI.loop {p:BL->Option (α×BL)} {step:dd->Option (α×dd)} (o:eI step p fun _=>True) {L:Nat->Nat->dd->List α->Option (dd×List α)} (m:∀k r l,L 0 k r l=some (r,l))
  (q:∀n k r l,l.length<=1000->L (n+1) k r l=(step r).bind fun y=>L n (k+1) y.2 (l++[y.1])) :
  ∀(n k:Nat) (l:List α),l.length+n<=1000->eI (fun r=>(L n k r l).map fun y=>(y.2,y.1)) (fun t=>(cX p n t).map fun y=>(l++y.1,y.2)) fun _=>True
 |0,k,l,_=>fun r e=>⟨l,r,by simp[m],trivial,e,fun h=>h,fun h=>by simp[cX,h]⟩
 |n+1,k,l,hl=>by
  intro r e;obtain⟨a,g,u,B,v,w,d⟩:=o r e;obtain⟨b,i,g1,A,s,j,c⟩:=eI.loop o m q n (k+1) (l++[a]) M3 g v;have g1:(L n (k+1) g (l++[a])).map (fun y=>(y.2,y.1))=some (b,i):=g1;refine⟨b,i,?_,trivial,s,fun h=>j (w h),fun h=>?_⟩
  ·show(L (n+1) k r l).map (fun y=>(y.2,y.1))=some (b,i);rw[q n k r l d9,u,<-g1];rfl
  have d:=d h;dsimp only;cases f:p (tr r) with
  |none =>
   rw[f] at d;simp only[cX,f,Option.bind_none,Option.map_none];exact j d
  |some x =>
   rw[f] at d;obtain⟨x,t⟩:=x;obtain⟨rfl,z,rfl⟩:=d;have c:=c z;dsimp only at c;simp only[cX,f,A0];cases e:cX p n (tr g) with
   |none=>rw[e] at c;exact c
   |some y =>
    rw[e] at c;simp only[MW,MO,List.singleton_append] at c;exact c
theorem eI.rep {p:BL->Option (α×BL)} {step:dd->Option (α×dd)} (c:eI step p fun _=>True) {L:Nat->Nat->dd->List α->Option (dd×List α)} (a:∀k r l,L 0 k r l=some (r,l))
  (d:∀n k r l,l.length<=1000->L (n+1) k r l=(step r).bind fun y=>L n (k+1) y.2 (l++[y.1])) (n:Nat) (b:n<=1000):eI (fun r=>(L n 0 r []).map fun y=>(y.2,y.1)) (cX p n) fun _=>True:=by
 have:=eI.loop c a d n 0 [] (by simpa using b);have e:(fun t=>(cX p n t).map fun y=>(([]:List α)++y.1,y.2))=cX p n:=by
  funext t;cases cX p n t<;>rfl
 rwa [e] at this
end
def J3 (t:BL):Prop:=∃l:List ByteArray,(∀w∈l,iG w)/\t=(l.map dc).flatten
theorem J3.nil : J3 []:=⟨[],l8,rfl⟩
theorem J3.app {a b:BL} (e:J3 a) (f:J3 b):J3 (a++b):=by
 obtain⟨l,c,rfl⟩:=e;obtain⟨m,d,rfl⟩:=f;exact⟨l++m,fun w g=>(MN.1 g).elim (c w) (d w),l8⟩
theorem J3.word {s:ByteArray} (h:iG s):J3 (dc s):=⟨[s],by simpa using h,l8⟩
theorem J3.num (n:Int):J3 (dU n):=J3.word (s:=⟨(Lib.itoa n).toArray⟩) (CG n)
theorem J3.flat {α:Type} (f:α->BL):∀{l:List α},(∀x∈l,J3 (f x))->J3 (l.map f).flatten
 |[],_=>J3.nil
 |x::l,h=>by
  rw[ML,List.flatten_cons];exact(h x l8).app (J3.flat f fun y a=>h y (by simp[a]))
theorem J3.mO (l:List Int):J3 (cS l):=J3.flat dU fun n _=>J3.num n
theorem J3.ins {i:Ins} (h:vn i):J3 (ei i):=by
 unfold ei;by_cases a:i.op=14
 ·simp only[a,if_true];exact(J3.mO _).app (J3.word (h.2.2.2.2.1 a))
 ·simp only[a,if_false,List.append_nil];exact J3.mO _
theorem J3.me {m:Me} (h:tW m):J3 (ee m):=by
 unfold ee;exact(J3.word h.1).app ((J3.mO _).app (J3.flat ei fun i hi=>J3.ins (h.2.2.2.2.2 i hi)))
theorem J3.cl {c:Cl} (h:d48 c):J3 (fO c):=by
 unfold fO;exact(J3.word h.1).app ((J3.mO _).app (J3.flat ee fun i hi=>J3.me (h.2.2.2.2 i hi)))
theorem J3.ob (o:Ob):J3 (fQ o):=by
 unfold fQ;exact(J3.mO _).app (J3.flat vT fun v _=>by unfold vT;exact J3.mO _)
theorem J3.wo {w:Wd} (h:qW w):J3 (cH w):=by
 unfold cH;exact(J3.mO _).app ((J3.flat fO fun c a=>J3.cl (h.2.2.2.1 c a)).app ((J3.mO _).app (J3.flat fQ fun o _=>J3.ob o)))
theorem BW (N:Nat) (x:Cl):∀(l:List Cl) (k:Nat),k8 N x l k=some (bif jC l x.name then .ret 7 else .next ())
 |[],k=>rfl
 |d::l,k=>by
  rw[k8,BW N x l (k+1)];unfold jC;rw[List.any_cons];by_cases h:d.name=x.name<;>simp[h]
theorem BV (N:Nat) (w:Wd):∀(l:List Cl) (k:Nat),l=w.a7.drop k->Z5 N w N8 l k=some (jj w l k)
 |[],k,_=>rfl
 |c::l,k,h=>by
  obtain⟨t,hl,j⟩:=eK h;have j:=of_decide_eq_true j;have ih:=BV N w l (k+1) hl;have r:(decide ((0:Int)<=(k:Int)) && decide ((k:Int)<=(w.a7.length:Int)))=true:=by
   simp only[IT,Mz];omega
  have q:((k:Int)).toNat=k:=d9;rw[Z5,kE,jj];simp only[r,q,BW,ih,A0,Mr];unfold lb tR ph;generalize jC (w.a7.take k) c.name=g;cases u:Y2 c.name with
  |false=>simp
  |true =>
   cases o:N8.a7[k]? with
   |some f =>
    have s:=Dp o;have e1:decide ((k:Int)<(4:Int))=true:=My d9;simp only[e1,D9,o,A0,Mr,Ms,M1,Bool.false_or];by_cases a:c.name=f.name
    ·cases g with
     |true=>simp[a]
     |false =>
      by_cases b:c.aV=f.aV
      ·by_cases d:c.aI<0
       ·have:¬c.aI=0:=d9;simp[a,b,d,this]
       ·by_cases n:0<c.aI
        ·have:¬c.aI=0:=d9;simp[a,b,d,n,this]
        ·have:c.aI=0:=d9;simp[a,b,this]
      ·simp[a,b]
    ·simp[a]
   |none =>
    have s:=d89 o;have e1:decide ((k:Int)<(4:Int))=false:=Mx d9;simp only[e1,A0,Mr,Ms,M1,Bool.false_or];cases g with
    |true=>simp
    |false =>
     by_cases a:c.aV<0
     ·simp[a]
     ·by_cases b:(k:Int)<=c.aV
      ·simp[a,b]
      ·by_cases m:c.aV=0
       ·have i:¬k=0:=d9;by_cases d:c.aI<0
        ·simp[i,b,m,d]
        ·by_cases n:6<c.aI<;>simp[i,b,m,d,n]
       ·have e:0<c.aV:=d9;by_cases p:c.aV<4
        ·simp[a,b,m,e,p]
        ·by_cases d:c.aI<0
         ·simp[a,b,m,e,d,p]
         ·by_cases n:6<c.aI<;>simp[a,b,m,e,d,n,p]
theorem Bg (N:Nat) (k:Nat) (m:Me):∀(l:List Me) (j:Nat) (b:Bool),O6 N k m l j b=some (b || (decide (k=3) && (l.any (fun p=>decide (p.name=m.name) && decide (p.aX=m.aX)) && (decide (m.args=1) && (decide (m.a8=0) && decide (m.code=[]))))))
 |[],j,b=>by simp[O6]
 |x::l,j,b=>by
  have n:decide ((m.code.length:Int)=0)=decide (m.code=[]):=by
   cases m.code<;>simp;omega
  have o:decide ((k:Int)=3)=decide (k=3):=by
   by_cases h:k=3
   ·subst h;rfl
   ·rw[Mx h,Mx d9]
  rw[O6,n,o,List.any_cons];simp only[Bg N k m l (j+1)];generalize decide (k=3)=a;generalize decide (x.name=m.name)=c;generalize decide (x.aX=m.aX)=d;generalize decide (m.args=1)=e;generalize decide (m.a8=0)=f;generalize decide (m.code=[])=g;generalize (l.any fun p=>decide (p.name=m.name) && decide (p.aX=m.aX))=i;cases b<;>cases a<;>cases c<;>cases d<;>cases e<;>cases f<;>cases g<;>cases i<;>rfl
theorem Bj (N:Nat) (w:Wd) (k:Nat) (c:Cl) (i:4194304<=N) (d:D6 w) (n:c∈w.a7) (b:0<=p8 w (k:Int)/\p8 w (k:Int)<=1000000000):∀(l:List Me) (j:Nat),l=c.aC.drop j->Z7 N w N8 k c l j=po N w k c.aC l j
 |[],j,_=>rfl
 |m::l,j,h=>by
  obtain⟨v,hl,a⟩:=eK h;have a:=of_decide_eq_true a;have t:=(d.2.2.1 c n).1;have ih:=Bj N w k c i d n b l (j+1) hl;have ep:((bif decide ((0:Int)<(j:Int)) then((j4 c.aC (wr ((j:Int)-(1:Int)))).bind fun e=>some ((!Y6 e.name m.name))) else some (false)):Option Bool) =
    some (nj (if j=0 then none else c.aC[j-1]?) m):=by
   by_cases g:j=0
   ·subst g;rfl
   ·have wk:wr ((j:Int)-1)=((j-1:Nat):Int):=by rw[u7 ino];omega
    obtain⟨p,u⟩:∃p,c.aC[j-1]?=some p:=⟨_,IS d9⟩;rw[My (show(0:Int)<(j:Int) by omega),Mt g];simp only[Mr,wk,D9,u,A0,nj]
  have q:j4 N8.a7 (3:Int)=some ⟨⟨#[73,110,116]⟩,0,0,bx⟩:=rfl;have r:O6 N k m bx 0 false=some (qH k m):=by rw[Bg];rfl
  obtain⟨f,o⟩:=x5 N w (k:Int) m i;rw[Z7,ep,q,og N w _ _ d9 d.1 b,o,po];unfold d64;simp only[A0,ih,r,o,MW];cases nj (if j=0 then none else c.aC[j-1]?) m with
  |true=>simp
  |false =>
   cases qH k m with
   |true=>simp
   |false=>by_cases s:f.err=0<;>simp[s]
theorem Bi (N:Nat) (w:Wd) (d:4194304<=N) (b:D6 w) (a:∀c:Int,0<=p8 w c/\p8 w c<=1000000000):∀(l:List Cl) (k:Nat),l=w.a7.drop k->ky N w N8 l k=lq N w l k
 |[],k,_=>rfl
 |c::l,k,h=>by
  obtain⟨e,hl,f⟩:=eK h;rw[ky,kz N w _ d9 b.1,lq,Bj N w k c d b (MI e) (a _) c.aC 0 rfl];simp only[A0,Bi N w d b a l (k+1) hl];rfl
theorem Bb (N:Nat) (w:Wd):∀(l:List V) (k:Nat),k9 N w l k=some (lg (w.heap.length:Int) l)
 |[],k=>rfl
 |v::l,k=>by
  rw[k9,wW,lg];simp only[A0,Bb N w l (k+1)];by_cases h:ch v (w.heap.length:Int)=0<;>simp[h]
theorem Bc (N:Nat) (w:Wd) (c:1048578<=N) (d:w.a7.length<=1048576) (i:4<=w.a7.length):∀(l:List Ob) (k:Nat),kA N w l k=some (lp w l)
 |[],k=>rfl
 |o::l,k=>by
  rw[kA,kz N w _ c d,lp,Bb];simp only[A0,Bc N w c d i l (k+1)];have e:((bif decide (o.cls<(0:Int)) then some (true) else(bif decide ((0:Int)<o.cls) then(bif decide (o.cls<(4:Int)) then some (true) else(bif decide ((w.a7.length:Int)<=o.cls) then some (true) else some ((!decide ((o.aI.length:Int)=p8 w o.cls))))) else(bif decide ((w.a7.length:Int)<=o.cls) then some (true) else some ((!decide ((o.aI.length:Int)=p8 w o.cls)))))):Option Bool)=some (oP w o):=by
   unfold oP;by_cases b:o.cls<0
   ·have:¬o.cls=0:=d9;have h:o.cls<4:=d9;simp[b,this,h]
   ·by_cases f:o.cls=0
    ·have:¬(w.a7.length:Int)<=o.cls:=d9;have a:¬(0:Int)<o.cls:=d9;rw[Mx b,Mx a,Mx this,My f];rfl
    ·have a:(0:Int)<o.cls:=d9;rw[Mx b,My a,Mx f];by_cases g:o.cls<4
     ·simp[g]
     ·by_cases j:(w.a7.length:Int)<=o.cls<;>simp[g,j]
  rw[e];simp only[A0];cases oP w o with
  |true=>rfl
  |false =>
   simp only[Ms];cases lg (w.heap.length:Int) o.aI<;>rfl
def Bf (N:Nat) (w:Wd) (i:4194304<=N) (d:D6 w):nA N w=qA N w:=by
 unfold nA qA uw;have e1:((bif decide ((w.a7.length:Int)<(4:Int)) then some (true) else(bif decide ((12:Int)<(w.a7.length:Int)) then some (true) else some (decide ((60:Int)<(w.heap.length:Int))))):Option Bool)=some (decide ((w.a7.length:Int)<4) || (decide (12<(w.a7.length:Int)) || decide (60<(w.heap.length:Int)))):=by
  by_cases a:(w.a7.length:Int)<4
  ·simp[a]
  ·by_cases p:(12:Int)<(w.a7.length:Int)<;>simp[a,p]
 have g:((bif decide (w.aB<(0:Int)) then some (true) else some (decide ((1073741824:Int)<w.aB))):Option Bool)=some (decide (w.aB<0) || decide (1073741824<w.aB)):=by
  by_cases a:w.aB<0<;>simp[a]
 simp only[A0,e1,g];cases m:(decide ((w.a7.length:Int)<4) || (decide (12<(w.a7.length:Int)) || decide (60<(w.heap.length:Int)))) with
 |true=>rfl
 |false =>
  have h:4<=w.a7.length:=by
   simp only[Bool.or_eq_false_iff,decide_eq_false_iff_not] at m;omega
  simp only[Ms];cases (decide (w.aB<0) || decide (1073741824<w.aB)) with
  |true=>rfl
  |false =>
   simp only[Ms,BV N w w.a7 0 rfl,Bc N w d9 d.1 h w.heap 0,A0];cases b:jj w w.a7 0 with
   |ret r=>rfl
   |next u =>
    have e:∀c:Int,0<=p8 w c/\p8 w c<=1000000000:=kM (fun x n=>by
     obtain⟨j,l⟩:=Mn.1 n;obtain⟨_,_,_,f⟩:=KL (CE (k:=0) rfl b j x (Nat.zero_le _) l);unfold ph at f;simp only[Bool.or_eq_false_iff,decide_eq_false_iff_not] at f;omega) d.1
    simp only[Bi N w i d e w.a7 0 rfl];cases lq N w w.a7 0 with
    |none=>rfl
    |some o =>
     cases o with
     |ret r=>rfl
     |next u =>
      simp only[A0];cases lp w w.heap<;>rfl
theorem nQ {a:Type} {f:a->BL} {B:Nat}:∀{l:List a},(∀x∈l,(f x).length<=B)->(l.map f).flatten.length<=l.length*B
 |[],_=>l8
 |x::l,h=>by
  have c:=h x l8;have d:=nQ (l:=l) fun y b=>h y (Mi _ b);simp only[ML,List.flatten_cons,MD,MB,Nat.add_mul];omega
def ni {l:List Int} (h:∀n∈l,I1 n):(cS l).length<=l.length*22:=nQ fun n a=>KT (h n a)
def iK {n:Int} (h:-1073741824<=n/\n<=1073741824):I1 n:=ino
def xv {s:ByteArray} (h:Y2 s=true):(dc s).length<=13:=by
 unfold Y2 at h;simp only[IT,Mz] at h;rw[KU];omega
def JU {w:Wd} {c:Int} {m:Me} {i:Ins} (t:p8 w c<=78/\w.a7.length<=12) (r:m.args<=4/\m.a8<=6/\m.code.length<=60) (h:br w c m i=0):vn i/\(ei i).length<=60:=by
 obtain⟨f1,j,k,o⟩:=Iy h;have s:=yH h;have p:I1 i.op:=ino;have q:I1 i.a:=ino;refine⟨⟨p,q,f1,j,k,o⟩,?_⟩;have g:=ni (l:=[i.op,i.a]) (fun n d=>by simp only[Ly,List.mem_nil_iff,or_false] at d;rcases d with rfl|rfl<;>assumption);unfold ei;rw[MD];simp only[MB,Mj] at g;by_cases b:i.op=14
 ·rw[Mu b];have f:=(Bz h).2;unfold jo at f;simp only[Bool.or_eq_false_iff,Bool.and_eq_false_iff,Bool.not_eq_false',decide_eq_false_iff_not,Mz] at f;have d:Y2 i.name=true:=by
   rcases f.1.1.1 with e|e
   ·exact absurd b e
   ·exact e
  have:=xv d;omega
 ·rw[Mt b];simp only[Mj];omega
def Kk {N:Nat} {w:Wd} {j:Nat} {m:Me} (u:p8 w (j:Int)<=78/\w.a7.length<=12) (h:nr j m\/∃f,ao N w (j:Int) m=some f/\f.err=0):tW m/\(ee m).length<=4000:=by
 have key:Y2 m.name=true/\(0<=m.args/\m.args<=4)/\(0<=m.a8/\m.a8<=6)/\(0<=m.aX/\m.aX<=5)/\m.code.length<=60/\∀i∈m.code,br w (j:Int) m i=0:=by
  rcases h with⟨_,p,t,e1,o,C,D,c⟩|⟨f,r,s⟩
  ·have a:∀q∈bx,Y2 q.name=true/\0<=q.aX/\q.aX<=5:=E5;obtain⟨g1,d,e⟩:=a p t;rw[e1] at g1;rw[o] at d e;exact⟨g1,d9,d9,⟨d,e⟩,by rw[c];simp,by rw[c];intro i hi;cases hi⟩
  ·have F:=C6 r s;exact⟨F.name,F.args,F.a8,by rw[F.aX];decide,F.len.2,F.num⟩
 obtain⟨g,v,x,E,b,y⟩:=key;have hi:=fun i hi=>JU u ⟨v.2,x.2,b⟩ (y i hi);refine⟨⟨yO g,iK d9,iK d9,iK d9,b,fun i h=>(hi i h).1⟩,?_⟩;have z:=xv g;have k:=ni (l:=[m.args,m.a8,m.aX,(m.code.length:Int)]) (fun n a=>by
  simp only[Ly,List.mem_nil_iff,or_false] at a;rcases a with rfl|rfl|rfl|rfl<;>exact iK d9)
 have A:=nQ (f:=ei) (B:=60) fun i h=>(hi i h).2;unfold ee;simp only[MD,MB,Mj] at k⊢;have:=Ml 60 b;omega
def Bm {N:Nat} {w:Wd} (K:4194304<=N) (M:D6 w) (b:I5 N w):qW w/\(cH w).length<=1000000:=by
 have d:=b.many;have y:=xI (pB b) d.2.1;have cl:∀c∈w.a7,d48 c/\(fO c).length<=40000:=fun c g=>by
  obtain⟨j,q⟩:=Mn.1 g;have L:=(Lx.1 q).1;obtain⟨g1,_,D,r,E⟩:=b.cls j c q;obtain⟨Q,H,_,_⟩:=b.aq j c q;have G:-1<=c.aV/\c.aV<=12:=by
   rcases Nat.lt_or_ge j 4 with s|s
   ·obtain⟨f,f1,_,J,_⟩:=D s;have a:∀x∈N8.a7,-1<=x.aV/\x.aV<=12:=E5;rw[J];exact a f (MI f1)
   ·have:=r s;omega
  have i:∀m∈c.aC,tW m/\(ee m).length<=4000:=fun m t=>Kk (N:=N) ⟨(y (j:Int)).2,d.2.1⟩ (b.vf K M q t);refine⟨⟨yO g1,iK d9,iK d9,H,fun m h=>(i m h).1⟩,?_⟩;have A:=xv g1;have e:=ni (l:=[c.aV,c.aI,(c.aC.length:Int)]) (fun n a=>by
   simp only[Ly,List.mem_nil_iff,or_false] at a;rcases a with rfl|rfl|rfl<;>exact iK d9)
  have C:=nQ (f:=ee) (B:=4000) fun m h=>(i m h).2;unfold fO;simp only[MD,MB,Mj] at e⊢;have:=Ml 4000 H;omega
 have ob:∀o∈w.heap,yw o/\(fQ o).length<=5000:=fun o p=>by
  obtain⟨g1,P,D,r,E⟩:=b.obj o p;have F:o.aI.length<=6:=by
   obtain⟨I,u⟩:=Int.eq_ofNat_of_zero_le g1;have:=(b.aq I _ (IS (show I<w.a7.length by omega))).1;rw[u] at r;omega
  have z:∀v∈o.aI,I1 v.k/\I1 v.n:=fun v h=>by
   have:=E v h;unfold ch at this;unfold I1
   (repeat' split at this)<;>first|omega|cases this
  refine⟨⟨iK d9,F,z⟩,?_⟩;have e:=ni (l:=[o.cls,(o.aI.length:Int)]) (fun n a=>by
   simp only[Ly,List.mem_nil_iff,or_false] at a;rcases a with rfl|rfl<;>exact iK d9)
  have C:=nQ (f:=vT) (B:=44) (l:=o.aI) fun v h=>ni (l:=[v.k,v.n]) (fun n a=>by
   simp only[Ly,List.mem_nil_iff,or_false] at a;rcases a with rfl|rfl
   ·exact(z v h).1
   ·exact(z v h).2)
  unfold fQ;simp only[MD,MB,Mj] at e⊢;have:=Ml 44 F;omega
 refine⟨⟨iK (by have:=b.aB;omega),d.2.1,d.2.2,fun c g=>(cl c g).1,fun o p=>(ob o p).1⟩,?_⟩;have A:=ni (l:=[w.aB,(w.a7.length:Int)]) (fun n a=>by
  simp only[Ly,List.mem_nil_iff,or_false] at a;rcases a with rfl|rfl<;>exact iK (by have:=b.aB;omega))
 have e:=ni (l:=[(w.heap.length:Int)]) (fun n a=>by
  simp only[Ly,List.mem_nil_iff,or_false] at a;subst a;exact iK d9)
 have C:=nQ (f:=fO) (B:=40000) fun c g=>(cl c g).2;have O:=nQ (f:=fQ) (B:=5000) fun o p=>(ob o p).2;unfold cH;simp only[MD,MB,Mj] at A e⊢;have:=Ml 40000 d.2.1;have:=Ml 5000 d.2.2;omega
def xp {N:Nat} {w:Wd} (a:4194304<=N) (b:D6 w) (c:I5 N w):pI N w=some (U (cH w))/\kK N (U (cH w))=some (w,0):=by
 obtain⟨d,f⟩:=Bm a b c;refine⟨J1 N w d9,?_⟩;have e:qA N w=some 0:=by rw[<-Bf N w a b];exact Jg N w a b c
 rw[JJ N _ (by rw[fH];omega),ED,KJ d];simp only[Gf N w a b,e,A0,Mv,M1,Ms]
def KX {w:Wd} {c:Int} {m:Me} {i:Ins} (h:br w c m i=0) (hl:w.a7.length<=1048576) (k:m.args<=1000) (n:m.a8<=1000) (hs:p8 w c<=1000000000) (l:m.code.length<=1048576) :
  -2000000000<=i.a/\i.a<=2000000000/\(i.op≠14->i.name=BY)/\i.b=0/\i.c=0:=by
 have j:jo i=false/\fi w c m i=some true:=by
  unfold br at h;cases f:fi w c m i with
  |none=>rw[f] at h;cases h
  |some b =>
   rw[f] at h;cases b with
   |false=>simp at h
   |true =>
    cases j:jo i with
    |true=>simp[j] at h
    |false=>exact⟨rfl,rfl⟩
 obtain⟨d,g⟩:=j;have f:(i.op≠14->i.name=BY)/\i.b=0/\i.c=0:=by
  unfold jo at d;by_cases e:i.op=14
  ·simp only[e,Mv,M1,Bool.false_and,Bool.true_and,Bool.or_false,Bool.or_eq_false_iff,Bool.not_eq_eq_eq_not,MJ,Mz] at d;exact⟨fun h=>absurd e h,d.1.2,d.2⟩
  ·simp only[e,Mw,MJ,Bool.false_and,Bool.true_and,Bool.false_or,Bool.or_eq_false_iff,Bool.not_eq_eq_eq_not,Mz] at d;exact⟨fun _=>d.1.1,d.1.2,d.2⟩
 refine⟨?_,?_,f.1,f.2.1,f.2.2⟩ <;>
 ·unfold fi at g
  (repeat' split at g)<;>simp at g<;>omega
def bd (s:Int) (y:Me) (f:Int) (i:Ins):Ins :=
 if i.op=1 then⟨3,s,0,0,BY⟩ else if i.op=2 then⟨3,s+1+i.a,0,0,BY⟩ else if i.op=3\/i.op=11 then⟨i.op,s+1+y.args+i.a,0,0,BY⟩
 else if i.op=4 then⟨19,s,i.a,0,BY⟩ else if i.op=12 then⟨20,s,i.a,0,BY⟩ else if i.op=15\/i.op=16 then⟨i.op,f+i.a,0,0,BY⟩
 else if i.op=17 then⟨15,f+y.code.length,0,0,BY⟩ else⟨i.op,i.a,0,0,BY⟩
def j9 (s:Int):Nat->List Ins
 |0=>[]
 |v+1=>⟨11,s+v,0,0,BY⟩::j9 s v
def iI (b:Int):Nat->Nat->List Ins
 |0,_=>[]
 |n+1,k=>⟨6,0,0,0,BY⟩::⟨11,b+k,0,0,BY⟩::iI b n (k+1)
theorem gm (s:Int):∀n,(j9 s n).length=n
 |0=>rfl
 |n+1=>by simp[j9,gm s n]
theorem jW (b:Int):∀n k,(iI b n k).length=2*n
 |0,_=>rfl
 |n+1,k=>by simp[iI,jW b n (k+1)];omega
def hl (y:Me):Nat:=3+y.args.toNat+2*y.a8.toNat
def eN (y:Me) (s c p:Int) (base:Nat):List Ins :=
 ⟨18,c,y.args,p,BY⟩::⟨21,0,0,0,BY⟩::(j9 s (y.args.toNat+1)++iI (s+1+y.args) y.a8.toNat 0++y.code.map (bd s y ((base+hl y:Nat):Int)))
def ic (y:Me) (s c p:Int) (base:Nat):(eN y s c p base).length=Q9 y:=by
 simp only[eN,MB,MD,gm,jW,MP,Q9];omega
structure vh (y:Me):Prop extends Leafy y where
 num:∀i∈y.code,-2000000000<=i.a/\i.a<=2000000000/\(i.op≠14->i.name=BY)/\i.b=0/\i.c=0
theorem Ac (N:Nat) (a:fa) (w:Wd) (m:Me) (t:Int) (aJ fix:List Int) (d:0<=a.a8/\a.a8<=1000):∀(n:Nat) (v:Nat) (out:List Ins),v<n->v<=100->out.length+v<=900000 ->
  Z4 N a n w m out t aJ fix ((v:Int)-1)=some (w,m,out++j9 a.a8 v,t,aJ,fix)
 |0,v,out,h,_,_=>d9
 |n+1,0,out,_,_,_=>by
  rw[Z4];have c:¬(0:Int)<=((0:Nat):Int)-1:=d9;simp only[c,Mw,Ms,j9,List.append_nil]
 |n+1,v+1,out,h,i,g=>by
  rw[Z4];have b:(0:Int)<=(((v+1:Nat):Int)-1):=d9;have e:wr ((((v+1:Nat):Int)-1)-1)=(v:Int)-1:=by rw[u7 ino];omega
  have f:wr (a.a8+(((v+1:Nat):Int)-1))=a.a8+(v:Int):=by rw[u7 ino];omega
  simp only[b,Mv,Mr,f,put_eq N w m out t aJ fix _ _ _ _ (show out.length<=1000000 by omega),A0,e];rw[Ac N a w m t aJ fix d n v _ d9 d9 M3];simp[j9]
theorem Al (N:Nat) (a:fa) (y:Me) (b:Leafy y) (w:Wd) (m:Me) (t:Int) (aJ fix:List Int) (c:0<=a.a8/\a.a8<=1000):∀(n:Nat) (k:Nat) (out:List Ins),n+k<=100->out.length+2*n<=900000 ->
  V4 N a y n k w m out t aJ fix=some (w,m,out++iI (a.a8+1+y.args) n k,t,aJ,fix)
 |0,k,out,_,_=>by simp[V4,iI]
 |n+1,k,out,f,g=>by
  rw[V4];have e:=b.args;have d:wr (wr (wr (a.a8+1)+y.args)+(k:Int))=a.a8+1+y.args+k:=by
   rw[u7 (show I1 (a.a8+1) by unfold I1;omega),u7 (show I1 (a.a8+1+y.args) by unfold I1;omega),u7 ino]
  simp only[d,put_eq N w m out t aJ fix _ _ _ _ (show out.length<=1000000 by omega),A0];rw[put_eq N w m _ t aJ fix _ _ _ _ M3];simp only[A0];rw[Al N a y b w m t aJ fix c n (k+1) _ d9 M3];simp[iI]
theorem AZ (N:Nat) (e:fa) (y:Me) (s:vh y) (V:List Ins) (z:V.length<=100000) (w:Wd) (m:Me) (t:Int) (aJ fix:List Int) (B:0<=e.a8/\e.a8<=1000):∀(r:List Ins) (k:Nat) (out:List Ins),(∀i∈r,i∈y.code)->out.length+r.length<=900000 ->
  P6 N e y V r k w m out t aJ fix=some (w,m,out++r.map (bd e.a8 y (V.length:Int)),t,aJ,fix)
 |[],k,out,_,_=>by simp[P6]
 |x::r,k,out,hr,ho=>by
  simp only[MB] at ho;have u:=hr x l8;obtain⟨H,I,J,K,L⟩:=s.num x u;have M:=s.args;have O:=s.len;have go:=fun v:Ins=>AZ N e y s V z w m t aJ fix B r (k+1) (out++[v]) (fun i hi=>hr i (by simp[hi])) M3
  have C:=fun op a b c=>put_eq N w m out t aJ fix op a b c (show out.length<=1000000 by omega)
  have D:wr (e.a8+1)=e.a8+1:=u7 ino;have E:wr (e.a8+1+x.a)=e.a8+1+x.a:=u7 ino;have w3:wr (e.a8+1+y.args)=e.a8+1+y.args:=u7 ino;have F:wr (e.a8+1+y.args+x.a)=e.a8+1+y.args+x.a:=u7 ino;have w5:wr ((V.length:Int)+x.a)=V.length+x.a:=u7 ino;have G:wr ((V.length:Int)+(y.code.length:Int))=V.length+y.code.length:=u7 ino;rw[P6];simp only[D,E,w3,F,w5,G,C,A0];have d:∀v:Ins,bd e.a8 y (V.length:Int) x=v->P6 N e y V r (k+1) w m (out++[v]) t aJ fix=some (w,m,out++(x::r).map (bd e.a8 y (V.length:Int)),t,aJ,fix):=by
   intro v A;rw[go v,ML,A];simp
  by_cases n:x.op=1
  ·simp only[n,Mv,Mr,A0];exact d _ (by simp[bd,n])
  by_cases o:x.op=2
  ·simp only[o,Mv,Mr,A0];exact d _ (by simp[bd,o])
  by_cases p:x.op=3
  ·simp only[p,Mv,Mr,A0];exact d _ (by simp[bd,p])
  by_cases f:x.op=11
  ·simp only[f,Mv];exact d _ (by simp[bd,f])
  by_cases q:x.op=4
  ·simp only[q,Mv,Mr,A0];exact d _ (by simp[bd,q])
  by_cases g:x.op=12
  ·simp only[g,Mv,Mr,A0];exact d _ (by simp[bd,g])
  by_cases h:x.op=15
  ·simp only[h,Mv,Mr,A0];exact d _ (by simp[bd,h])
  by_cases j:x.op=16
  ·simp only[j,Mv];exact d _ (by simp[bd,j])
  by_cases l:x.op=17
  ·simp only[l,Mv,Mr,A0];exact d _ (by simp[bd,l])
  simp only[n,o,p,f,q,g,h,j,l,Mw,Ms,A0];exact d _ (by simp[bd,n,o,p,f,q,g,h,j,l])
def d21 (N:Nat) (hN:1000<=N) (w:Wd) (m:Me) (out:List Ins) (t:Int) (aJ fix:List Int) (k:Int) (p:Int) (i:Ins) (y:Me) (c:vh y) (hi:y.args=i.a) (s:0<=t/\t<=40) (r:out.length<=1000) :
  rC N (⟨w,m,out,t,aJ,fix⟩:fa) k p i y=some ⟨w,m,out++eN y t k p out.length,t+(1+y.args+y.a8),aJ,fix⟩:=by
 have n:=c.args;have o:=c.a8;have q:=c.len;unfold rC;have e1:wr (1+y.args)=1+y.args:=u7 ino;have e:wr (1+y.args+y.a8)=1+y.args+y.a8:=u7 ino;have f:wr (t+(1+y.args+y.a8))=t+(1+y.args+y.a8):=u7 ino;simp only[e1,e,f];rw[put_eq N w m out _ aJ fix _ _ _ _ d9];simp only[A0];rw[put_eq N w m _ _ aJ fix _ _ _ _ M3];simp only[A0];have d:=Ac N ⟨w,m,out,t,aJ,fix⟩ w m (t+(1+y.args+y.a8)) aJ fix (by show 0<=t/\t<=1000;omega) N (y.args.toNat+1) ((out++[⟨18,k,i.a,p,BY⟩])++[⟨21,0,0,0,BY⟩]) d9 d9 M3
 have g:(((y.args.toNat+1:Nat):Int)-1)=y.args:=d9;rw[g] at d;rw[d];simp only[A0];have h:(y.a8-((0:Nat):Int)).toNat=y.a8.toNat:=d9;rw[h,Al N ⟨w,m,out,t,aJ,fix⟩ y c.toLeafy w m (t+(1+y.args+y.a8)) aJ fix (by show 0<=t/\t<=1000;omega) y.a8.toNat 0 _ d9 (by simp[gm];omega)];simp only[A0];rw[AZ N ⟨w,m,out,t,aJ,fix⟩ y c _ (by simp[gm,jW];omega) w m (t+(1+y.args+y.a8)) aJ fix (by show 0<=t/\t<=1000;omega) y.code 0 _ (fun j l=>l) (by simp[gm,jW];omega)];simp only[A0];have b:(((((out++[(⟨18,k,i.a,p,BY⟩:Ins)])++[(⟨21,0,0,0,BY⟩:Ins)])++j9 t (y.args.toNat+1))++iI (t+1+y.args) y.a8.toNat 0).length:Nat)=out.length+hl y:=by
  simp only[MD,MB,Mj,gm,jW,hl];omega
 rw[b,eN,<-hi];simp
inductive O0 where
 |pl (i:Ins)
 |pc (y:Me) (s c p:Int)
def O0.out (b:Nat):O0->List Ins
 |.pl i=>[i]
 |.pc y s c p=>eN y s c p b
def O0.len : O0->Nat
 |.pl _=>1
 |.pc y _ _ _=>Q9 y
def O0.eR : O0->Bool
 |.pl _=>false
 |.pc _ _ _ _=>true
def e9 (i:Ins):Bool:=decide (i.op=15) || decide (i.op=16)
def gO : List O0->Nat->List Ins
 |[],_=>[]
 |x::l,b=>x.out b++gO l (b+x.len)
def X9 : List O0->Nat->List Int
 |[],_=>[]
 |x::l,b=>(b:Int)::X9 l (b+x.len)
def e7 : List O0->Nat->List Int
 |[],_=>[]
 |.pl i::l,b=>if e9 i=true then(b:Int)::e7 l (b+1) else e7 l (b+1)
 |.pc y s c p::l,b=>e7 l (b+Q9 y)
def nv (i:Ins) (a:Int):Ins:=⟨i.op,a,i.b,i.c,i.name⟩
def fL (b:List Int) (i:Ins):Ins:=if e9 i=true then nv i ((b[i.a.toNat]?).getD 0) else i
def dz (a:List Int):List O0->Nat->List Ins
 |[],_=>[]
 |.pl i::l,b=>fL a i::dz a l (b+1)
 |.pc y s c p::l,b=>eN y s c p b++dz a l (b+Q9 y)
def lV (w:Wd) (c:Int) (name:ByteArray):Option Me:=if(l7 w name c).2<0 then none else(j4 w.a7 (l7 w name c).1).bind fun x=>j4 x.aC (l7 w name c).2
def dj (w:Wd) (b:List Int) (L k:Nat) (i:Ins) (size:Nat) (t:Int):Option (Me×Int) :=
 if i.op=14 then match b[k]? with
  |some c=>if 0<=c then match lV w c i.name with
   |some y=>if fU y=true/\y.args=i.a/\size+Q9 y+L<=240+k/\t+1+y.args+y.a8<=40 then some (y,c) else none
   |none=>none
   else none
  |none=>none
 else none
def Y5 (k:Nat) (i:Ins):Ins:=if i.op=14 then⟨i.op,i.a,i.b,k,i.name⟩ else i
def J4 (w:Wd) (a:List Int) (L:Nat):List Ins->Nat->Nat->Int->List O0×Int
 |[],_,_,t=>([],t)
 |i::r,k,size,t=>match dj w a L k i size t with
  |some (y,c)=>let q:=J4 w a L r (k+1) (size+Q9 y) (t+(1+y.args+y.a8));(.pc y t c k::q.1,q.2)
  |none=>let q:=J4 w a L r (k+1) (size+1) t;(.pl (Y5 k i)::q.1,q.2)
def eP (w:Wd):Prop:=∀(k:Nat) (x:Cl),w.a7[k]?=some x->∀y∈x.aC,vh y
def vF {w:Wd} {c:Int} {name:ByteArray} {y:Me} (h:lV w c name=some y):∃(k:Nat) (x:Cl),w.a7[k]?=some x/\y∈x.aC:=by
 unfold lV at h;split at h
 ·cases h
 ·cases a:j4 w.a7 (l7 w name c).1 with
  |none=>rw[a] at h;cases h
  |some x =>
   rw[a] at h;exact⟨_,x,(l6 a).2,MI (l6 h).2⟩
def d69 {y:Me} (h:fU y=true):∀i∈y.code,i.op≠14:=by
 unfold fU at h;simp only[IT,Bool.not_eq_true',List.any_eq_false] at h;intro i hi e;exact h.2 i hi (by simp[aH,e])
def pM {w:Wd} {b:List Int} {L k:Nat} {i:Ins} {size:Nat} {t:Int} {y:Me} {c:Int} (h:dj w b L k i size t=some (y,c)) :
  i.op=14/\b[k]?=some c/\0<=c/\lV w c i.name=some y/\fU y=true/\y.args=i.a/\size+Q9 y+L<=240+k/\t+1+y.args+y.a8<=40:=by
 unfold dj at h;split at h
 ·rename_i d;split at h
  ·rename_i c' f;split at h
   ·rename_i e;split at h
    ·rename_i l j;split at h
     ·rename_i g;cases h;exact⟨d,f,e,j,g⟩
     ·cases h
    ·cases h
   ·cases h
  ·cases h
 ·cases h
def xW (N:Nat) (hN:1048578<=N) (W:Wd) (a:dX W) (hs:D6 W) (m:Me) (out:List Ins) (t:Int) (aJ fix:List Int) (c:Int) (name:ByteArray) :
  r8 N (⟨W,m,out,t,aJ,fix⟩:fa) c name=some (lV W c name,⟨W,m,out,t,aJ,fix⟩):=by
 unfold r8 lV;rw[lI N W c name hN a hs];simp only[A0];by_cases h:(l7 W name c).2<0
 ·simp only[h,Mv,Mr,if_true]
 ·obtain⟨x,y,b,d,_⟩:=rb (w:=W) (s:=name) (c:=c) d9;simp only[h,Mw,Ms,if_false,b,d,A0]
theorem wI (N:Nat) (hN:4194304<=N) (W:Wd) (C:dX W) (hs:D6 W) (G:eP W) (d:List Int) (M:Me) (hM:M.code.length<=60):∀(r:List Ins) (k:Nat) (out:List Ins) (t:Int) (aJ fix:List Int) (b:Bool),
  r=M.code.drop k->k<=M.code.length->out.length+M.code.length<=240+k->0<=t/\t<=40->aJ.length=k->fix.length<=k ->
  k6 N d M r k W M out t aJ fix b=some (W,M,out++gO (J4 W d M.code.length r k out.length t).1 out.length,(J4 W d M.code.length r k out.length t).2,
   aJ++X9 (J4 W d M.code.length r k out.length t).1 out.length,fix++e7 (J4 W d M.code.length r k out.length t).1 out.length,b || (J4 W d M.code.length r k out.length t).1.any O0.eR)
 |[],k,out,t,aJ,fix,b,_,_,_,_,_,_=>by simp[k6,J4,gO,X9,e7]
 |x::r,k,out,t,aJ,fix,b,hd,hk,ho,ht,ah,hfix=>by
  obtain⟨hx,hr,L⟩:=eK hd;have hk:k<M.code.length:=by have:=of_decide_eq_true L;omega
  have ga:IN ((aJ.length+[(out.length:Int)].length)*8) 140737488355328=true:=G5 M3;have gf:IN ((fix.length+[(out.length:Int)].length)*8) 140737488355328=true:=G5 M3;have go:∀v:Ins,IN ((out.length+[v].length)*48) 140737488355328=true:=fun v=>G5 M3;have plain:dj W d M.code.length k x out.length t=none->((((((bif decide (x.op=(15:Int)) then some (true) else some (decide (x.op=(16:Int)))):Option Bool).bind fun E=>(((bif E then(bif IN ((fix.length+[(out.length:Int)].length)*8) 140737488355328 then some ((fix++[(out.length:Int)])) else none) else some (fix)):Option (List Int)).bind fun F=>(((bif decide (x.op=(14:Int)) then some ((⟨x.op,x.a,x.b,(k:Int),x.name⟩:Ins)) else some (x)):Option Ins).bind fun s=>(bif IN ((out.length+[s].length)*48) 140737488355328 then some ((W,M,(out++[s]),t,(aJ++[(out.length:Int)]),F,b)) else none))))):Option (Wd×Me×(List Ins)×Int×(List Int)×(List Int)×Bool)).bind fun(R,S,T,U,V,X,Y)=>k6 N d M r (k+1) R S T U V X Y) =
    some (W,M,out++gO (J4 W d M.code.length (x::r) k out.length t).1 out.length,(J4 W d M.code.length (x::r) k out.length t).2,
   aJ++X9 (J4 W d M.code.length (x::r) k out.length t).1 out.length,fix++e7 (J4 W d M.code.length (x::r) k out.length t).1 out.length,b || (J4 W d M.code.length (x::r) k out.length t).1.any O0.eR):=by
   intro n;have ih:=fun(v:Ins) (fx:List Int) (I:fx.length<=k+1)=>wI N hN W C hs G d M hM r (k+1) (out++[v]) t (aJ++[(out.length:Int)]) fx b hr d9 M3 ht (by simp[ah]) I;have A:∀v:Ins,(out++[v]).length=out.length+1:=fun v=>l8;simp only[A] at ih;rw[J4,n];simp only[gO,X9,e7,O0.out,O0.len,List.any_cons,O0.eR,Bool.false_or];by_cases j:x.op=15
   ·have m:e9 (Y5 k x)=true:=(by simp[e9,Y5,j]);have hp:Y5 k x=x:=by simp[Y5,j]
    rw[hp] at m;have e:¬x.op=14:=d9;simp only[j,gf,go,Mv,Mw,Mr,Ms,A0,m,if_true,hp,show((15:Int)=14)=False by decide];rw[ih x _ M3];simp
   by_cases l:x.op=16
   ·have m:e9 (Y5 k x)=true:=(by simp[e9,Y5,l]);have hp:Y5 k x=x:=by simp[Y5,l]
    rw[hp] at m;have e:¬x.op=14:=d9;simp only[l,gf,go,Mv,Mw,Mr,Ms,A0,m,if_true,hp,show((16:Int)=14)=False by decide,show((16:Int)=15)=False by decide];rw[ih x _ M3];simp
   have m:e9 (Y5 k x)=false:=by
    by_cases e:x.op=14<;>simp[e9,Y5,e,j,l]
   by_cases e:x.op=14
   ·have hp:Y5 k x=⟨x.op,x.a,x.b,k,x.name⟩:=(by simp[Y5,e]);rw[hp] at m;simp only[e,go,Mv,Mw,Mr,Ms,A0,hp,show((14:Int)=16)=False by decide,show((14:Int)=15)=False by decide];rw[ih _ _ d9];rw[e] at m;simp[m]
   ·have hp:Y5 k x=x:=(by simp[Y5,e]);rw[hp] at m;simp only[j,l,e,go,Mw,Mr,Ms,A0,hp];rw[ih _ _ d9];simp[m]
  rw[k6];rw[ga,Mr];by_cases e:x.op=14
  ·by_cases J:k<d.length
   ·obtain⟨c,n⟩:∃c,d[k]?=some c:=⟨_,IS J⟩;have f:(k:Int)<(d.length:Int):=d9;have o:j4 d (k:Int)=some c:=by rw[D9,n]
    by_cases q:0<=c
    ·cases u:lV W c x.name with
     |none =>
      have g:dj W d M.code.length k x out.length t=none:=(by simp only[dj,e,if_true,n,q,u]);have:=plain g;simp only[f,e,o,q,Mv,Mr,A0,xW N d9 W C hs,u];simp only[e,Mv] at this;exact this
     |some y =>
      obtain⟨kk,xx,K,P⟩:=vF u;have D:=G kk xx K y P;have ya:=D.args;have yt:=D.a8;have yc:=D.len;have B:=size_eq N y D.toLeafy;have hsb:Q9 y<=1000:=by unfold Q9;omega
      have w1:wr ((out.length:Int)+((Q9 y:Nat):Int))=out.length+Q9 y:=u7 ino;have w2:wr ((out.length:Int)+((Q9 y:Nat):Int)+(M.code.length:Int))=out.length+Q9 y+M.code.length:=u7 ino;have w3:wr ((out.length:Int)+((Q9 y:Nat):Int)+(M.code.length:Int)-(k:Int))=out.length+Q9 y+M.code.length-k:=u7 ino;have w4:wr (t+1)=t+1:=u7 ino;have w5:wr (t+1+y.args)=t+1+y.args:=u7 ino;have w6:wr (t+1+y.args+y.a8)=t+1+y.args+y.a8:=u7 ino;by_cases h:fU y=true/\y.args=x.a/\out.length+Q9 y+M.code.length<=240+k/\t+1+y.args+y.a8<=40
      ·have H:dj W d M.code.length k x out.length t=some (y,c):=by simp only[dj,e,if_true,n,q,u];rw[Mu h]
       obtain⟨f1,p,Z,z⟩:=h;have i:((out.length:Int)+Q9 y+M.code.length-k)<=240:=d9;simp only[f,e,o,q,Mv,Mr,A0,xW N d9 W C hs,u,wY,f1,p,B,w1,w2,w3,w4,i];rw[<-p];simp only[w5,w6,z,Mv];rw[d21 N d9 W M out t _ fix c (k:Int) x y D p ht d9];simp only[A0,Mr];rw[wI N hN W C hs G d M hM r (k+1) _ _ _ _ true hr d9 (by simp[ic];omega) d9 (by simp[ah]) d9];rw[J4,H];simp[gO,X9,e7,O0.out,O0.len,O0.eR,ic]
      ·have g:dj W d M.code.length k x out.length t=none:=by simp only[dj,e,if_true,n,q,u];rw[Mt h]
       have:=plain g;have O:(((bif fU y then(bif decide (y.args=x.a) then((pA N y).bind fun Q=>(bif decide ((wr ((wr ((wr ((out.length:Int)+Q))+(M.code.length:Int)))-(k:Int)))<=(240:Int)) then some (decide ((wr ((wr ((wr (t+(1:Int)))+y.args))+y.a8))<=(40:Int))) else some (false))) else some (false)) else some (false))):Option Bool)=some false:=by
        rw[B];simp only[A0,w1,w2,w3,w4,w5,w6];by_cases f1:fU y=true
        ·by_cases p:y.args=x.a
         ·by_cases Z:out.length+Q9 y+M.code.length<=240+k
          ·have z:¬t+1+y.args+y.a8<=40:=fun z=>h ⟨f1,p,Z,z⟩;have i:((out.length:Int)+Q9 y+M.code.length-k)<=240:=d9;simp only[f1,My p,My i,Mx z,Mr]
          ·have i:¬((out.length:Int)+Q9 y+M.code.length-k)<=240:=d9;simp only[f1,My p,Mx i,Mr,Ms]
         ·simp only[f1,Mx p,Mr,Ms]
        ·simp only[Bool.not_eq_true] at f1;simp only[f1,Ms]
       simp only[f,e,o,q,Mv,Mr,A0,xW N d9 W C hs,u,wY,O,Ms];simp only[e,Mv] at this;exact this
    ·have g:dj W d M.code.length k x out.length t=none:=(by simp only[dj,e,if_true,n,q,if_false]);have:=plain g;simp only[f,e,o,q,Mv,Mw,Mr,Ms,A0];simp only[e,Mv] at this;exact this
   ·have n:d[k]?=none:=MV d9;have f:¬(k:Int)<(d.length:Int):=d9;have g:dj W d M.code.length k x out.length t=none:=by simp only[dj,e,if_true,n]
    have:=plain g;simp only[f,e,Mv,Mw,Mr,Ms,A0];simp only[e,Mv] at this;exact this
  ·have g:dj W d M.code.length k x out.length t=none:=(by simp only[dj,e,if_false]);have:=plain g;simp only[e,Mw,Ms,A0];simp only[e,Mw] at this;exact this
theorem ur (N:Nat) (d f:List Int):∀(l:List O0) (k:Nat) (pre:List Ins),f.drop k=e7 l pre.length->(∀i,O0.pl i∈l->e9 i=true->∃a,j4 d i.a=some a) ->
  k7 N d f (e7 l pre.length) k (pre++gO l pre.length)=some (pre++dz d l pre.length)
 |[],k,pre,_,_=>by simp[e7,k7,gO,dz]
 |.pl i::l,k,pre,hd,hj=>by
  have e:∀i,O0.pl i∈l->e9 i=true->∃a,j4 d i.a=some a:=fun i hi=>hj i (by simp[hi]);have b:∀v:Ins,(pre++[v]).length=pre.length+1:=fun v=>l8;have e1:∀v:Ins,pre++(v::gO l (pre.length+1))=(pre++[v])++gO l (pre.length+1):=fun v=>l8;by_cases n:e9 i=true
  ·obtain⟨a,m⟩:=hj i l8 n;simp only[e7,n,if_true] at hd⊢;obtain⟨r,u,_⟩:=eK hd.symm;have j:j4 (pre++(i::gO l (pre.length+1))) (pre.length:Int)=some i:=by rw[D9];simp
   have ih:=ur N d f l (k+1) (pre++[nv i a]) (by rw[b];exact u.symm) e;simp only[b] at ih;rw[k7];simp only[gO,O0.out,O0.len,List.singleton_append,D9,r,A0];rw[<-D9,j];simp only[A0,m,MX];rw[List.set_append_right _ _ (It _),Nat.sub_self,List.set_cons_zero];have q:=e1 (nv i a);unfold nv at q ih;rw[q,ih];simp only[dz,fL,n,if_true,nv];rw[fE (l6 m).1] at m;rw[m];simp
  ·have g:e9 i=false:=by cases h:e9 i<;>simp_all
   have o:e7 (O0.pl i::l) pre.length=e7 l (pre.length+1):=(by simp[e7,g]);rw[o] at hd⊢;have ih:=ur N d f l k (pre++[i]) (by rw[b];exact hd) e;simp only[b] at ih;show k7 N d f (e7 l (pre.length+1)) k (pre++(i::gO l (pre.length+1)))=some (pre++(fL d i::dz d l (pre.length+1)));rw[e1,ih];simp[fL,g]
 |.pc y s c p::l,k,pre,hd,hj=>by
  have e:∀i,O0.pl i∈l->e9 i=true->∃a,j4 d i.a=some a:=fun i hi=>hj i (by simp[hi]);have b:(pre++eN y s c p pre.length).length=pre.length+Q9 y:=by simp[ic]
  have o:e7 (O0.pc y s c p::l) pre.length=e7 l (pre.length+Q9 y):=by simp[e7]
  rw[o] at hd⊢;have ih:=ur N d f l k (pre++eN y s c p pre.length) (by rw[b];exact hd) e;simp only[b] at ih;simp only[gO,O0.out,O0.len,dz,<-MO,ih]
theorem xB (w:Wd) (a:List Int) (L:Nat):∀(r:List Ins) (k size:Nat) (t:Int),(J4 w a L r k size t).1.length=r.length
 |[],_,_,_=>rfl
 |i::r,k,size,t=>by
  rw[J4];split<;>simp[xB w a L r]
theorem BN : ∀(l:List O0) (b:Nat),(X9 l b).length=l.length
 |[],_=>rfl
 |x::l,b=>by simp[X9,BN l]
theorem wQ (w:Wd) (a:List Int) (L:Nat):∀(r:List Ins) (k size:Nat) (t:Int) (i:Ins),O0.pl i∈(J4 w a L r k size t).1->e9 i=true->i∈r
 |[],_,_,_,i,h,_=>by cases h
 |x::r,k,size,t,i,h,hj=>by
  rw[J4] at h;split at h
  ·simp only[Ly,reduceCtorEq,false_or] at h;exact Mi _ (wQ w a L r _ _ _ i h hj)
  ·simp only[Ly,O0.pl.injEq] at h;rcases h with h|h
   ·have hp:Y5 k x=x:=by
     rw[h] at hj;unfold Y5 at hj⊢;split
     ·rename_i b;rw[Mu b] at hj;simp[e9,b] at hj
     ·rfl
    rw[h,hp];simp
   ·exact Mi _ (wQ w a L r _ _ _ i h hj)
def HR {N:Nat} {w:Wd} (h:I5 N w):∀x∈w.a7,0<=x.aI/\x.aI<=6:=fun x b=>by
 obtain⟨j,a⟩:=Mn.1 b;have:=h.cls j x a;exact⟨this.2.2.2.2.1,this.2.2.2.2.2⟩
def Cx {N:Nat} {w:Wd} (hN:4194304<=N) (hs:D6 w) (h:I5 N w):eP w:=fun k x e y f=>by
 have mp:=d99 d9 hs.1 h e f;have a:=kM (HR h) hs.1 (k:Int);have c:=h.many;have g:=mp.args;have l:=mp.a8;have j:=mp.len;refine⟨⟨g,l,j,fun i hi=>d45 N w _ y i d9 hs.1 (mp.num i hi),fun i hi d=>HO N w _ y i d9 (mp.num i hi) d⟩,fun i hi=>?_⟩;have b:=mp.num i hi;rw[AI N w k y i d9 hs.1 d9 d9 d9 a d9] at b;exact KX (Option.some.inj b) hs.1 d9 d9 a.2 d9
def nz : List O0->Nat
 |[]=>0
 |x::l=>x.len+nz l
theorem xD (w:Wd) (a:List Int) (L:Nat):∀(r:List Ins) (k size:Nat) (t:Int),r.length+k=L->size+r.length<=240->size+nz (J4 w a L r k size t).1<=240
 |[],k,size,t,_,h=>by simpa[J4,nz] using h
 |i::r,k,size,t,hk,h=>by
  simp only[MB] at hk h;rw[J4];split
  ·rename_i y c b;have:=(pM b).2.2.2.2.2.2.1;have ih:=xD w a L r (k+1) (size+Q9 y) (t+(1+y.args+y.a8)) d9 d9;simp only[nz,O0.len];omega
  ·have ih:=xD w a L r (k+1) (size+1) t d9 d9;simp only[nz,O0.len];omega
theorem uu (w:Wd) (b:eP w) (a:List Int) (L:Nat):∀(r:List Ins) (k size:Nat) (t:Int) (y:Me) (s c p:Int),O0.pc y s c p∈(J4 w a L r k size t).1->vh y/\fU y=true
 |[],_,_,_,_,_,_,_,h=>by cases h
 |i::r,k,size,t,y,s,c,p,h=>by
  rw[J4] at h;split at h
  ·rename_i n c' g;rcases Ly.1 h with h|h
   ·cases h;obtain⟨_,_,_,j,d,_⟩:=pM g;obtain⟨l,m,e,f⟩:=vF j;exact⟨b l m e y f,d⟩
   ·exact uu w b a L r _ _ _ y s c p h
  ·rcases Ly.1 h with h|h
   ·cases h
   ·exact uu w b a L r _ _ _ y s c p h
def jm (w:Wd) (c k:Int) (a:List Int):Fs×Bool :=
 if c<0\/(w.a7.length:Int)<=c\/k<0 then(⟨0,BY,0,0,[]⟩,false) else
 match w.a7[c.toNat]? with
 |none=>(⟨0,BY,0,0,[]⟩,false)
 |some x=>match x.aC[k.toNat]? with
  |none=>(⟨0,BY,0,0,[]⟩,false)
  |some m=>let q:=J4 w a m.code.length m.code 0 0 m.a8
   if q.1.any O0.eR=true then(⟨c,m.name,w.aB,q.2,dz (X9 q.1 0) q.1 0⟩,true) else(⟨0,BY,0,0,[]⟩,false)
def Hy (N:Nat) (hN:4194304<=N) (w:Wd) (hs:D6 w) (hp:I5 N w) (c k:Int) (b:List Int):qu N w c k b=some (jm w c k b):=by
 have y:=Cx hN hs hp;unfold qu jm;by_cases d:c<0
 ·simp[d]
 by_cases g:(w.a7.length:Int)<=c
 ·simp[d,g]
 by_cases h:k<0
 ·simp[d,g,h]
 obtain⟨x,s,f⟩:=de (l:=w.a7) (i:=c) d9 d9;by_cases u:(x.aC.length:Int)<=k
 ·have:x.aC[k.toNat]?=none:=MV d9;simp[d,g,h,u,f,s,this]
 obtain⟨m,z,r⟩:=de (l:=x.aC) (i:=k) d9 d9;have j:=y _ x s m (MI z);have e:=j.len;have B:=j.a8;have p:∀i,O0.pl i∈(J4 w b m.code.length m.code 0 0 m.a8).1->e9 i=true->∃a,j4 (X9 (J4 w b m.code.length m.code 0 0 m.a8).1 0) i.a=some a:=fun i hi o=>by
  have n:=wQ w b m.code.length m.code 0 0 m.a8 i hi o;have A:=j.jump i n (by simp only[e9,Bool.or_eq_true,Mz] at o;exact o);obtain⟨a,C,q⟩:=de (l:=X9 (J4 w b m.code.length m.code 0 0 m.a8).1 0) (i:=i.a) A.1 (by rw[BN,xB];exact A.2);exact⟨a,q⟩
 have e1:=wI N hN w hp.cy hs y b m e m.code 0 [] m.a8 [] [] false rfl d9 M3 d9 rfl l8;simp only[Mj,List.nil_append,Bool.false_or] at e1;simp only[d,g,h,u,f,r,Mw,Ms,A0,e1,s,z,or_self,if_false];cases D:(J4 w b m.code.length m.code 0 0 m.a8).1.any O0.eR with
 |false=>simp
 |true =>
  have v:=ur N (X9 (J4 w b m.code.length m.code 0 0 m.a8).1 0) (e7 (J4 w b m.code.length m.code 0 0 m.a8).1 0) (J4 w b m.code.length m.code 0 0 m.a8).1 0 [] rfl p;simp only[Mj,List.nil_append] at v;simp only[M1,Ms,v,A0,if_true]
def gK (N:Nat) (w:Wd) (t:List Tl) (c k:Int):List Int:=(nF N w t c k).getD []
def nn (N:Nat) (w:Wd) (t:List Tl) (c k:Nat):List Fs:=if(jm w (c:Int) (k:Int) (gK N w t c k)).2=true then[(jm w (c:Int) (k:Int) (gK N w t c k)).1] else[]
def ct (N:Nat) (w:Wd) (t:List Tl) (c:Nat):List Me->Nat->List Fs
 |[],_=>[]
 |_::r,k=>nn N w t c k++ct N w t c r (k+1)
def hB (N:Nat) (w:Wd) (t:List Tl):List Cl->Nat->List Fs
 |[],_=>[]
 |x::r,c=>ct N w t c x.aC 0++hB N w t r (c+1)
def IC (N:Nat) (w:Wd) (t:List Tl) (c k:Nat):(nn N w t c k).length<=1:=by
 unfold nn;split<;>simp
theorem Ci (N:Nat) (w:Wd) (t:List Tl) (c:Nat):∀(r:List Me) (k:Nat),(ct N w t c r k).length<=r.length
 |[],_=>It _
 |x::r,k=>by
  have:=IC N w t c k;have:=Ci N w t c r (k+1);simp only[ct,MD,MB];omega
section
variable (N:Nat) (hN:4194304<=N) (w:Wd) (hs:D6 w) (hp:I5 N w) (t:List Tl)
include hN hs hp
def II (c k:Int):nF N w t c k=some (gK N w t c k):=by
 obtain⟨L,a⟩:=Fz N w t c k d9 hp.cy hs;rw[gK,a];rfl
theorem wZ (c:Nat):∀(r:List Me) (k:Nat) (a:List Fs),a.length+r.length<=1000000->lS N w t c r k a=some (a++ct N w t c r k)
 |[],k,a,_=>by simp[lS,ct]
 |x::r,k,a,h=>by
  simp only[MB] at h;rw[lS,II N hN w hs hp t];simp only[A0,Hy N hN w hs hp];have g:∀v:Fs,IN ((a.length+[v].length)*64) 140737488355328=true:=fun v=>G5 M3;cases b:(jm w (c:Int) (k:Int) (gK N w t c k)).2 with
  |true =>
   simp only[Mr,g,A0];rw[wZ c r (k+1) _ M3];simp[ct,nn,b]
  |false =>
   simp only[Ms,A0];rw[wZ c r (k+1) _ d9];simp[ct,nn,b]
theorem At : ∀(r:List Cl) (c:Nat) (a:List Fs),(∀x∈r,x.aC.length<=8)->a.length+8*r.length<=1000000->lQ N w t r c a=some (a++hB N w t r c)
 |[],c,a,_,_=>by simp[lQ,hB]
 |x::r,c,a,hm,h=>by
  simp only[MB] at h;have d:=hm x l8;have hl:=Ci N w t c x.aC 0;rw[lQ,wZ N hN w hs hp t c x.aC 0 a d9];simp only[A0,At r (c+1) (a++ct N w t c x.aC 0) (fun y b=>hm y (by simp[b])) M3,hB,MO]
def Hb : rX N w t=some (hB N w t w.a7 0):=by
 unfold rX;have b:=hp.many;rw[At N hN w hs hp t w.a7 0 [] (fun x a=>by
  obtain⟨i,hi⟩:=Mn.1 a;exact(hp.aq i x hi).2.1) M3]
 simp
end
section
variable (N:Nat) (hN:4194304<=N) (w:Wd) (hs:D6 w) (hp:I5 N w) (t:List Tl)
include hN hs hp
end
def bO : List O0->Nat->Nat
 |_,0=>0
 |[],_+1=>0
 |x::l,p+1=>x.len+bO l p
theorem yI : ∀{l:List O0} {p:Nat} {x:O0},l[p]?=some x->bO l (p+1)=bO l p+x.len
 |[],p,x,h=>by simp at h
 |y::l,0,x,h=>by
  simp only[Mq,Option.some.injEq] at h;subst h;cases l<;>simp[bO]
 |y::l,p+1,x,h=>by
  rw[bO,bO,yI (p:=p) (l:=l) (by simpa using h)];omega
theorem O0.kn (x:O0):1<=x.len:=by
 cases x with
 |pl i=>exact It _
 |pc y s c p=>simp only[O0.len,Q9];omega
theorem ye : ∀{l:List O0} {p q:Nat},p<q->q<=l.length->bO l p<bO l q
 |[],p,q,h,a=>by simp at a;omega
 |x::l,p,0,h,a=>d9
 |x::l,0,q+1,h,a=>by
  have:=x.kn;simp only[bO];omega
 |x::l,p+1,q+1,h,a=>by
  have:=ye (l:=l) (p:=p) (q:=q) d9 (by simpa using a);simp only[bO];omega
theorem Ba : ∀(l:List O0) (b p:Nat),p<l.length->(X9 l b)[p]?=some ((b+bO l p:Nat):Int)
 |[],b,p,h=>by simp at h
 |x::l,b,0,h=>by simp[X9,bO]
 |x::l,b,p+1,h=>by
  rw[X9,Mo,Ba l (b+x.len) p (by simpa using h),bO,Mg]
theorem xY (a:List Int):∀(l:List O0) (b:Nat),(dz a l b).length=bO l l.length
 |[],b=>rfl
 |.pl i::l,b=>by simp[dz,bO,xY a l (b+1),O0.len];omega
 |.pc y s c p::l,b=>by simp[dz,bO,xY a l (b+Q9 y),O0.len,ic]
theorem xt (a:List Int):∀(l:List O0) (b p:Nat) (i:Ins),l[p]?=some (.pl i)->(dz a l b)[bO l p]?=some (fL a i)
 |[],b,p,i,h=>by simp at h
 |.pl j::l,b,0,i,h=>by
  simp only[Mq,Option.some.injEq,O0.pl.injEq] at h;subst h;rfl
 |.pc y s c q::l,b,0,i,h=>by simp at h
 |.pl j::l,b,p+1,i,h=>by
  rw[bO,dz,show(O0.pl j).len+bO l p=bO l p+1 by simp[O0.len];omega,Mo];exact xt a l (b+1) p i (by simpa using h)
 |.pc y s c q::l,b,p+1,i,h=>by
  rw[bO,dz,MS (by simp[O0.len,ic])];simp only[O0.len,ic,Nat.add_sub_cancel_left];exact xt a l (b+Q9 y) p i (by simpa using h)
theorem yB (d:List Int):∀(l:List O0) (b p:Nat) (y:Me) (s c q:Int),l[p]?=some (.pc y s c q)->∀r,r<Q9 y->(dz d l b)[bO l p+r]?=(eN y s c q (b+bO l p))[r]?
 |[],b,p,y,s,c,q,h,r,a=>by simp at h
 |.pl j::l,b,0,y,s,c,q,h,r,a=>by simp at h
 |.pc y' s' c' q'::l,b,0,y,s,c,q,h,r,a=>by
  simp only[Mq,Option.some.injEq,O0.pc.injEq] at h;obtain⟨rfl,rfl,rfl,rfl⟩:=h;simp only[bO,dz,MZ,Nat.add_zero];rw[Mh (by rw[ic];exact a)]
 |.pl j::l,b,p+1,y,s,c,q,h,r,a=>by
  rw[bO,dz,show(O0.pl j).len+bO l p+r=bO l p+r+1 by simp[O0.len];omega,Mo,yB d l (b+1) p y s c q (by simpa using h) r a];congr 2;simp[O0.len];omega
 |.pc y' s' c' q'::l,b,p+1,y,s,c,q,h,r,a=>by
  rw[bO,dz,MS (by simp[O0.len,ic];omega)];simp only[O0.len,ic];rw[show Q9 y'+bO l p+r-Q9 y'=bO l p+r by omega,yB d l (b+Q9 y') p y s c q (by simpa using h) r a];congr 2;omega
theorem ot (w:Wd) (b:eP w) (a:List Int) (L:Nat):∀(r:List Ins) (k size:Nat) (t:Int),t<=(J4 w a L r k size t).2
 |[],k,size,t=>MH _
 |i::r,k,size,t=>by
  rw[J4];split
  ·rename_i y c g;obtain⟨_,_,_,h,_⟩:=pM g;obtain⟨j,l,e,f⟩:=vF h;have d:=(b j l e y f).toLeafy;have:=ot w b a L r (k+1) (size+Q9 y) (t+(1+y.args+y.a8));have m:=d.args;have n:=d.a8;simp only;omega
  ·exact ot w b a L r (k+1) (size+1) t
theorem xV (w:Wd) (e:eP w) (a:List Int) (L:Nat):∀(r:List Ins) (k size:Nat) (t:Int) (p:Nat) (i:Ins),r[p]?=some i->∃b sz,t<=b /\
  ((dj w a L (k+p) i sz b=none/\(J4 w a L r k size t).1[p]?=some (.pl (Y5 (k+p) i))) \/
   ∃y c,dj w a L (k+p) i sz b=some (y,c)/\(J4 w a L r k size t).1[p]?=some (.pc y b c ((k+p:Nat):Int))/\b+1+y.args+y.a8<=(J4 w a L r k size t).2)
 |[],k,size,t,p,i,h=>by simp at h
 |j::r,k,size,t,p,i,h=>by
  rw[J4];cases f:dj w a L k j size t with
  |none =>
   cases p with
   |zero =>
    simp only[Mq,Option.some.injEq] at h;subst h;exact⟨t,size,MH _,.inl ⟨f,rfl⟩⟩
   |succ p =>
    obtain⟨b,sz,g,d⟩:=xV w e a L r (k+1) (size+1) t p i (by simpa using h);refine⟨b,sz,g,?_⟩;rw[show k+1+p=k+(p+1) by omega] at d;simpa using d
  |some q =>
   obtain⟨y,c⟩:=q;obtain⟨_,_,_,n,_⟩:=pM f;obtain⟨o,s,g1,m⟩:=vF n;have l:=(e o s g1 y m).toLeafy;have u:=l.args;have v:=l.a8;cases p with
   |zero =>
    simp only[Mq,Option.some.injEq] at h;subst h;have:=ot w e a L r (k+1) (size+Q9 y) (t+(1+y.args+y.a8));exact⟨t,size,MH _,.inr ⟨y,c,f,rfl,bN⟩⟩
   |succ p =>
    obtain⟨b,sz,g,d⟩:=xV w e a L r (k+1) (size+Q9 y) (t+(1+y.args+y.a8)) p i (by simpa using h);refine⟨b,sz,d9,?_⟩;rw[show k+1+p=k+(p+1) by omega] at d;simpa using d
def bw (w:Wd) (H:List Ob) (self:V) (args a8 aA:List V) (i:Ins):Option (List Ob×List V×List V×Int) :=
 if i.op=1 then some (H,a8,aA++[self],0)
 else if i.op=2 then(j4 args i.a).map fun v=>(H,a8,aA++[v],0)
 else if i.op=3 then(j4 a8 i.a).map fun v=>(H,a8,aA++[v],0)
 else if i.op=4 then some (H,a8,aA++[lW H self i.a],0)
 else if i.op=5 then some (H,a8,aA++[⟨3,i.a⟩],0)
 else if i.op=6 then some (H,a8,aA++[⟨0,0⟩],0)
 else if i.op=7 then some (H,a8,aA++[⟨1,0⟩],0)
 else if i.op=8 then some (H,a8,aA++[⟨2,0⟩],0)
 else if i.op=9 then aA.getLast?.map fun v=>(H,a8,aA.dropLast,0)
 else if i.op=10 then aA.getLast?.map fun v=>(H,a8,aA++[v],0)
 else if i.op=11 then aA.getLast?.bind fun v=>if 0<=i.a/\i.a<a8.length then some (H,a8.set i.a.toNat v,aA.dropLast,0) else none
 else if i.op=12 then aA.getLast?.bind fun v=>(jq H self i.a v).map fun h=>(h,a8,aA.dropLast,0)
 else if i.op=19 then(j4 a8 i.a).map fun t=>(H,a8,aA++[lW H t i.b],0)
 else if i.op=20 then(j4 a8 i.a).bind fun t=>aA.getLast?.bind fun v=>(jq H t i.b v).map fun h=>(h,a8,aA.dropLast,0)
 else if i.op=13 then(if 60<=H.length then some (H,a8,aA,15) else some (H++[⟨i.a,MC (p8 w i.a).toNat ⟨0,0⟩⟩],a8,aA++[⟨4,(H.length:Int)⟩],0))
 else some (H,a8,aA,0)
def iX (c:Cf) (f:j3) (F:List j3) (r:List Ob×List V×List V×Int):Cf:={ c with heap:=r.1,fs:={ f with a8:=r.2.1,aA:=r.2.2.1 }::F,err:=r.2.2.2 }
def va (w:Wd) (c:Cf) (C:c.err=0) (f:j3) (F:List j3) (i:Ins):kX w c f F i=(bw w c.heap f.aU f.args f.a8 f.aA i).map (iX c f F):=by
 obtain⟨H,s,t,fs,b,e,ev⟩:=c;simp only at C;subst C;unfold kX bw;by_cases o:i.op=1
 ·simp only[Mu o];rfl
 simp only[Mt o];by_cases p:i.op=2
 ·simp only[Mu p,Option.map_map];rfl
 simp only[Mt p];by_cases q:i.op=3
 ·simp only[Mu q,Option.map_map];rfl
 simp only[Mt q];by_cases r:i.op=4
 ·simp only[Mu r];rfl
 simp only[Mt r];by_cases x:i.op=5
 ·simp only[Mu x];rfl
 simp only[Mt x];by_cases y:i.op=6
 ·simp only[Mu y];rfl
 simp only[Mt y];by_cases z:i.op=7
 ·simp only[Mu z];rfl
 simp only[Mt z];by_cases A:i.op=8
 ·simp only[Mu A];rfl
 simp only[Mt A];by_cases B:i.op=9
 ·simp only[Mu B,cR,Option.map_map];rfl
 simp only[Mt B];by_cases g:i.op=10
 ·simp only[Mu g,Option.map_map];rfl
 simp only[Mt g];by_cases h:i.op=11
 ·simp only[Mu h,cR];cases D:f.aA.getLast? with
  |none=>rfl
  |some v =>
   simp only[MW,A0];by_cases n:0<=i.a/\i.a<f.a8.length
   ·rw[Mu n,Mu n];rfl
   ·rw[Mt n,Mt n];rfl
 simp only[Mt h];by_cases j:i.op=12
 ·simp only[Mu j,cR];cases D:f.aA.getLast? with
  |none=>rfl
  |some v =>
   simp only[MW,A0];cases jq H f.aU i.a v<;>rfl
 simp only[Mt j];by_cases l:i.op=19
 ·simp only[Mu l,Option.map_map];rfl
 simp only[Mt l];by_cases m:i.op=20
 ·simp only[Mu m,cR];cases E:j4 f.a8 i.a with
  |none=>rfl
  |some u =>
   cases D:f.aA.getLast? with
   |none=>rfl
   |some v =>
    simp only[MW,A0];cases jq H u i.b v<;>rfl
 simp only[Mt m];by_cases k:i.op=13
 ·simp only[Mu k];by_cases d:60<=H.length
  ·rw[Mu d,Mu d];rfl
  ·rw[Mt d,Mt d];rfl
 simp only[Mt k];rfl
def xL {T:List V} {n:Nat} {a:Int} {v:V} (h:j4 (T.take n) a=some v):j4 T a=some v:=by
 obtain⟨c,b⟩:=l6 h;rw[fE c];rw[Mm] at b;split at b
 ·exact b
 ·cases b
def JL {w:Wd} {H:List Ob} {self:V} {args T aA:List V} {n:Nat} {i:Ins} {r:List Ob×List V×List V×Int} (E:n<=T.length) (h:bw w H self args (T.take n) aA i=some r) :
  ∃l,bw w H self args T aA i=some (r.1,l,r.2.2.1,r.2.2.2)/\l.take n=r.2.1/\l.length=T.length/\r.2.1.length=n:=by
 have hl:(T.take n).length=n:=by rw[Mk];omega
 unfold bw at h⊢;by_cases p:i.op=1
 ·rw[Mu p] at h⊢;cases h;exact⟨T,rfl,rfl,rfl,hl⟩
 rw[Mt p] at h⊢;by_cases q:i.op=2
 ·rw[Mu q] at h⊢;rw[ME] at h;obtain⟨v,b,rfl⟩:=h;rw[b];exact⟨T,rfl,rfl,rfl,hl⟩
 rw[Mt q] at h⊢;by_cases s:i.op=3
 ·rw[Mu s] at h⊢;rw[ME] at h;obtain⟨v,b,rfl⟩:=h;rw[xL b];exact⟨T,rfl,rfl,rfl,hl⟩
 rw[Mt s] at h⊢;by_cases t:i.op=4
 ·rw[Mu t] at h⊢;cases h;exact⟨T,rfl,rfl,rfl,hl⟩
 rw[Mt t] at h⊢;by_cases x:i.op=5
 ·rw[Mu x] at h⊢;cases h;exact⟨T,rfl,rfl,rfl,hl⟩
 rw[Mt x] at h⊢;by_cases y:i.op=6
 ·rw[Mu y] at h⊢;cases h;exact⟨T,rfl,rfl,rfl,hl⟩
 rw[Mt y] at h⊢;by_cases z:i.op=7
 ·rw[Mu z] at h⊢;cases h;exact⟨T,rfl,rfl,rfl,hl⟩
 rw[Mt z] at h⊢;by_cases A:i.op=8
 ·rw[Mu A] at h⊢;cases h;exact⟨T,rfl,rfl,rfl,hl⟩
 rw[Mt A] at h⊢;by_cases B:i.op=9
 ·rw[Mu B] at h⊢;rw[ME] at h;obtain⟨v,b,rfl⟩:=h;rw[b];exact⟨T,rfl,rfl,rfl,hl⟩
 rw[Mt B] at h⊢;by_cases c:i.op=10
 ·rw[Mu c] at h⊢;rw[ME] at h;obtain⟨v,b,rfl⟩:=h;rw[b];exact⟨T,rfl,rfl,rfl,hl⟩
 rw[Mt c] at h⊢;by_cases d:i.op=11
 ·rw[Mu d] at h⊢;obtain⟨v,b,h⟩:=M6 h;rw[b];by_cases m:0<=i.a/\i.a<((T.take n).length:Int)
  ·rw[Mu m] at h;cases h;simp only[A0];rw[Mu ⟨m.1,d9⟩];exact⟨T.set i.a.toNat v,rfl,by rw[List.take_set],MU,by rw[MU,hl]⟩
  ·rw[Mt m] at h;cases h
 rw[Mt d] at h⊢;by_cases e:i.op=12
 ·rw[Mu e] at h⊢;obtain⟨v,b,h⟩:=M6 h;rw[ME] at h;obtain⟨C,o,rfl⟩:=h;rw[b];simp only[A0];rw[o];exact⟨T,rfl,rfl,rfl,hl⟩
 rw[Mt e] at h⊢;by_cases g:i.op=19
 ·rw[Mu g] at h⊢;rw[ME] at h;obtain⟨v,b,rfl⟩:=h;rw[xL b];exact⟨T,rfl,rfl,rfl,hl⟩
 rw[Mt g] at h⊢;by_cases j:i.op=20
 ·rw[Mu j] at h⊢;obtain⟨u,D,h⟩:=M6 h;obtain⟨v,b,h⟩:=M6 h;rw[ME] at h;obtain⟨C,o,rfl⟩:=h;rw[xL D,b];simp only[A0];rw[o];exact⟨T,rfl,rfl,rfl,hl⟩
 rw[Mt j] at h⊢;by_cases f:i.op=13
 ·rw[Mu f] at h⊢;by_cases k:60<=H.length
  ·rw[Mu k] at h⊢;cases h;exact⟨T,rfl,rfl,rfl,hl⟩
  ·rw[Mt k] at h⊢;cases h;exact⟨T,rfl,rfl,rfl,hl⟩
 rw[Mt f] at h⊢;cases h;exact⟨T,rfl,rfl,rfl,hl⟩
def sF {a b:List V} {v:V} (h:b.getLast?=some v):(a++b).getLast?=some v/\(a++b).dropLast=a++b.dropLast:=by
 obtain⟨c,rfl⟩:=List.getLast?_eq_some_iff.1 h;rw[<-MO];simp
structure u0 (G:List V) (s:Int) (y:Me) (sf:V) (ag tm:List V):Prop where
 s0:0<=s
 s1:s+1+y.args+y.a8<=G.length
 gj:0<=y.args
 jR:0<=y.a8
 la:(ag.length:Int)=y.args
 lt:(tm.length:Int)=y.a8
 mJ:G[s.toNat]?=some sf
 mI:∀(a:Nat) v,ag[a]?=some v->G[s.toNat+1+a]?=some v
 jG:∀(a:Nat) v,tm[a]?=some v->G[s.toNat+1+y.args.toNat+a]?=some v
def Kh {w:Wd} {H:List Ob} {self gs:V} {args a8 aA gargs G base:List V} {s:Int} {y:Me} {f:Int} {i:Ins} (b:u0 G s y self args a8) (Y:i.op<=13) (N:1<=i.op) {r:List Ob×List V×List V×Int} (h:bw w H self args a8 aA i=some r) :
  ∃t,bw w H gs gargs G (base++aA) (bd s y f i)=some (r.1,t,base++r.2.2.1,r.2.2.2)/\u0 t s y self args r.2.1/\t.length=G.length/\∀n:Nat,(n:Int)<=s->t.take n=G.take n:=by
 have X:s.toNat<G.length:=by have:=b.s0;have:=b.s1;have:=b.gj;have:=b.jR;omega
 have A:j4 G s=some self:=by rw[fE b.s0];exact b.mJ
 unfold bw at h;by_cases p:i.op=1
 ·rw[Mu p] at h;cases h;refine⟨G,?_,b,rfl,fun _ _=>rfl⟩;unfold bw bd;simp only[Mu p,A];simp
 rw[Mt p] at h;by_cases x:i.op=2
 ·rw[Mu x] at h;rw[ME] at h;obtain⟨v,d,rfl⟩:=h;obtain⟨O,B⟩:=l6 d;have K:j4 G (s+1+i.a)=some v:=by
   rw[fE (by have:=b.s0;omega),<-b.mI _ _ B];congr 1;have:=b.s0;omega
  refine⟨G,?_,b,rfl,fun _ _=>rfl⟩;unfold bw bd;simp only[Mt p,Mu x,K];simp
 rw[Mt x] at h;by_cases C:i.op=3
 ·rw[Mu C] at h;rw[ME] at h;obtain⟨v,d,rfl⟩:=h;obtain⟨O,B⟩:=l6 d;have K:j4 G (s+1+y.args+i.a)=some v:=by
   rw[fE (by have:=b.s0;have:=b.gj;omega),<-b.jG _ _ B];congr 1;have:=b.s0;have:=b.gj;omega
  refine⟨G,?_,b,rfl,fun _ _=>rfl⟩;unfold bw bd;simp only[C];simp[K]
 rw[Mt C] at h;by_cases z:i.op=4
 ·rw[Mu z] at h;cases h;refine⟨G,?_,b,rfl,fun _ _=>rfl⟩;unfold bw bd;simp only[z];simp[A]
 rw[Mt z] at h;have c:(i.op=5\/i.op=6\/i.op=7\/i.op=8\/i.op=9\/i.op=10)->bd s y f i=⟨i.op,i.a,0,0,BY⟩:=fun M=>by
  unfold bd;rw[Mt p,Mt x,Mt d9,Mt z,Mt d9,Mt d9,Mt d9]
 by_cases D:i.op=5
 ·rw[Mu D] at h;cases h;refine⟨G,?_,b,rfl,fun _ _=>rfl⟩;rw[c d9];unfold bw;simp only[D];simp
 rw[Mt D] at h;by_cases E:i.op=6
 ·rw[Mu E] at h;cases h;refine⟨G,?_,b,rfl,fun _ _=>rfl⟩;rw[c d9];unfold bw;simp only[E];simp
 rw[Mt E] at h;by_cases F:i.op=7
 ·rw[Mu F] at h;cases h;refine⟨G,?_,b,rfl,fun _ _=>rfl⟩;rw[c d9];unfold bw;simp only[F];simp
 rw[Mt F] at h;by_cases I:i.op=8
 ·rw[Mu I] at h;cases h;refine⟨G,?_,b,rfl,fun _ _=>rfl⟩;rw[c d9];unfold bw;simp only[I];simp
 rw[Mt I] at h;by_cases J:i.op=9
 ·rw[Mu J] at h;rw[ME] at h;obtain⟨v,d,rfl⟩:=h;obtain⟨e1,o⟩:=sF (a:=base) d;refine⟨G,?_,b,rfl,fun _ _=>rfl⟩;rw[c d9];unfold bw;simp only[J,e1,o];simp
 rw[Mt J] at h;by_cases g:i.op=10
 ·rw[Mu g] at h;rw[ME] at h;obtain⟨v,d,rfl⟩:=h;obtain⟨e1,o⟩:=sF (a:=base) d;refine⟨G,?_,b,rfl,fun _ _=>rfl⟩;rw[c d9];unfold bw;simp only[g,e1];simp
 rw[Mt g] at h;by_cases j:i.op=11
 ·rw[Mu j] at h;obtain⟨v,d,h⟩:=M6 h;obtain⟨e1,o⟩:=sF (a:=base) d;by_cases L:0<=i.a/\i.a<(a8.length:Int)
  ·rw[Mu L] at h;cases h;have P:=b.s0;have Q:=b.s1;have R:=b.gj;have S:=b.jR;have T:=b.lt;have U:=b.la;refine⟨G.set (s+1+y.args+i.a).toNat v,?_,⟨P,by rw[MU];exact Q,R,S,U,by rw[MU];exact T,?_,fun a u m=>?_,fun a u m=>?_⟩,MU,fun n hn=>?_⟩
   ·unfold bw bd;simp only[j,e1,o];simp;omega
   ·rw[List.getElem?_set_ne d9];exact b.mJ
   ·have W:a<args.length:=(Lx.1 m).1;rw[List.getElem?_set_ne d9];exact b.mI a u m
   ·by_cases q:a=i.a.toNat
    ·subst q;have hl:i.a.toNat<a8.length:=d9;rw[List.getElem?_set_self hl] at m;cases m;rw[show s.toNat+1+y.args.toNat+i.a.toNat=(s+1+y.args+i.a).toNat by omega,List.getElem?_set_self d9]
    ·rw[List.getElem?_set_ne (Ne.symm q)] at m;rw[List.getElem?_set_ne d9];exact b.jG a u m
   ·rw[List.take_set_of_le d9]
  ·rw[Mt L] at h;cases h
 rw[Mt j] at h;by_cases k:i.op=12
 ·rw[Mu k] at h;obtain⟨v,d,h⟩:=M6 h;rw[ME] at h;obtain⟨Z,M,rfl⟩:=h;obtain⟨e1,o⟩:=sF (a:=base) d;refine⟨G,?_,b,rfl,fun _ _=>rfl⟩;unfold bw bd;simp only[k,A,e1,o];simp[A,M]
 rw[Mt k] at h;have l:i.op=13:=d9;rw[Mt d9,Mt d9,Mu l] at h;by_cases e:60<=H.length
 ·rw[Mu e] at h;cases h;refine⟨G,?_,b,rfl,fun _ _=>rfl⟩;unfold bw bd;simp only[l];simp[e]
 ·rw[Mt e] at h;cases h;refine⟨G,?_,b,rfl,fun _ _=>rfl⟩;unfold bw bd;simp only[l];simp[e]
inductive dB (w:Wd) (aE:Int) (L:St->Int->ByteArray->Int×Int) (Q:Int->Int->Fs×Bool):Cf->Cf->Prop
 |refl (c:Cf):dB w aE L Q c c
 |step {c c1 c2:Cf}:c.err=0->c.fs≠[]->Wk w Q c->P5 w aE L Q c=some c1->mu aE c1<mu aE c->dB w aE L Q c1 c2->dB w aE L Q c c2
section
variable {w:Wd} {aE:Int} {L:St->Int->ByteArray->Int×Int} {Q:Int->Int->Fs×Bool}
theorem dB.trans {a b c:Cf} (h:dB w aE L Q a b) (d:dB w aE L Q b c):dB w aE L Q a c:=by
 induction h with
 |refl=>exact d
 |step e f g i j _ ih=>exact .step e f g i j (ih d)
theorem dB.path {a b:Cf} (h:dB w aE L Q a b):Path w aE L Q a b:=by
 induction h with
 |refl=>exact .refl _
 |step c d _ e _ _ ih=>exact .step c d e ih
end
def qF (w:Wd) (S:Int->Int->List Int):Int->Int->Fs×Bool:=fun k j=>jm w k j (S k j)
def bQ (w:Wd) (S:Int->Int->List Int) (k j:Int) (m:Me):List O0×Int:=J4 w (S k j) m.code.length m.code 0 0 m.a8
def vg {w:Wd} {S:Int->Int->List Int} {k j:Int} {x:Cl} {m:Me} (b:j4 w.a7 k=some x) (a:j4 x.aC j=some m) :
  qF w S k j=if(bQ w S k j m).1.any O0.eR=true then(⟨k,m.name,w.aB,(bQ w S k j m).2,dz (X9 (bQ w S k j m).1 0) (bQ w S k j m).1 0⟩,true) else(⟨0,BY,0,0,[]⟩,false):=by
 have c:=fZ b;have d:=fZ a;unfold qF jm;rw[Mt d9,(l6 b).2];simp only;rw[(l6 a).2];rfl
theorem xE (w:Wd) (b:eP w) (a:List Int) (L:Nat):∀(r:List Ins) (k size:Nat) (t:Int),t<=40->(J4 w a L r k size t).2<=40
 |[],k,size,t,h=>h
 |i::r,k,size,t,h=>by
  rw[J4];split
  ·rename_i y c d;have:=(pM d).2.2.2.2.2.2.2;exact xE w b a L r _ _ _ d9
  ·exact xE w b a L r _ _ t h
theorem De : ∀l:List O0,bO l l.length=nz l
 |[]=>rfl
 |x::l=>by simp only[MB,bO,nz,De l]
def Jc (l:List O0):bO l 0=0:=by cases l<;>rfl
structure FF (w:Wd) (S:Int->Int->List Int) (g p:j3) (m:Me):Prop where
 aY:g.aY=true
 bp:p.aY=false
 cls:g.aK=p.aK
 iW:g.aN=p.aN
 self:g.aU=p.aU
 args:g.args=p.args
 aq:∃x,j4 w.a7 p.aK=some x/\j4 x.aC p.aN=some m
 bm:p.code=m.code
 codeF:g.code=dz (X9 (bQ w S p.aK p.aN m).1 0) (bQ w S p.aK p.aN m).1 0
 len:(g.a8.length:Int)=(bQ w S p.aK p.aN m).2
 du:(p.a8.length:Int)=m.a8
 tk:g.a8.take p.a8.length=p.a8
inductive FR (w:Wd) (S:Int->Int->List Int):j3->j3->Prop
 |same {f:j3}:f.aY=false->FR w S f f
 |aY {g p:j3} {m:Me}:FF w S g p m->g.aA=p.aA->0<=p.aJ->g.aJ=(bO (bQ w S p.aK p.aN m).1 p.aJ.toNat:Int)->FR w S g p
inductive dv (w:Wd) (S:Int->Int->List Int):List j3->List j3->Prop
 |nil:dv w S [] []
 |cons {g p:j3} {G P:List j3}:FR w S g p->dv w S G P->dv w S (g::G) (p::P)
structure qq (w:Wd) (S:Int->Int->List Int) (g h p:j3) (m y:Me) (q:Nat) (s c:Int):Prop where
 ff:FF w S g p m
 item:(bQ w S p.aK p.aN m).1[q]?=some (.pc y s c (q:Int))
 aJ:p.aJ=(q:Int)+1
 tb:h.aY=false
 bn:h.code=y.code
 jF:0<=h.aJ
 ah:g.aJ=((bO (bQ w S p.aK p.aN m).1 q+hl y:Nat):Int)+h.aJ
 aA:g.aA=p.aA++h.aA
 ms:m.a8<=s
 a8:u0 g.a8 s y h.aU h.args h.a8
 leaf:fU y=true
structure ck (a b:Cf):Prop where
 heap:a.heap=b.heap
 aH:a.aH=b.aH
 aO:a.aO=b.aO
 back:a.back=b.back
 err:a.err=b.err
inductive CR (w:Wd) (S:Int->Int->List Int) (a b:Cf):Prop
 |out:ck a b->dv w S a.fs b.fs->CR w S a b
 |oL {g h p:j3} {G P:List j3} {m y:Me} {q:Nat} {s c:Int}:ck a b->a.fs=g::G->b.fs=h::p::P->dv w S G P->qq w S g h p m y q s c->CR w S a b
theorem dv.len {w:Wd} {S:Int->Int->List Int} {F G:List j3} (h:dv w S F G):F.length=G.length:=by
 induction h with
 |nil=>rfl
 |cons _ _ ih=>simp[ih]
theorem FF.push {w:Wd} {S:Int->Int->List Int} {g p:j3} {m:Me} (h:FF w S g p m) (v u:V):FF w S (cJ g v) (cJ p u) m :=
 ⟨h.aY,h.bp,h.cls,h.iW,h.self,h.args,h.aq,h.bm,h.codeF,h.len,h.du,h.tk⟩
theorem FR.push {w:Wd} {S:Int->Int->List Int} {g p:j3} (h:FR w S g p) (v:V):FR w S (cJ g v) (cJ p v):=by
 cases h with
 |same h=>exact .same h
 |aY h a b c=>exact .aY (h.push v v) (by simp[cJ,a]) b c
def Co {w:Wd} {S:Int->Int->List Int} {a b:Cf} (hS:ck a b) (c:dv w S a.fs b.fs) (v:V):ck (dL a v) (dL b v)/\dv w S (dL a v).fs (dL b v).fs:=by
 unfold dL;cases e:b.fs with
 |nil =>
  rw[e] at c;have:a.fs=[]:=by
   cases d:a.fs with
   |nil=>rfl
   |cons x l=>rw[d] at c;cases c
  simp only[this];exact⟨⟨hS.heap,hS.aH,hS.aO,rfl,hS.err⟩,.nil⟩
 |cons p P =>
  rw[e] at c;cases d:a.fs with
  |nil=>rw[d] at c;cases c
  |cons g G =>
   rw[d] at c;cases c with
   |cons f h=>exact⟨⟨hS.heap,hS.aH,hS.aO,hS.back,hS.err⟩,.cons (f.push v) h⟩
section
variable {w:Wd} {aE:Int} {S:Int->Int->List Int}
def yC (W:cf w) (e:eP w) {k j:Int} {x:Cl} {m:Me} (c:j4 w.a7 k=some x) (b:j4 x.aC j=some m) (f:0<=m.a8) (self:V) (args:List V):FR w S (fq (qF w S) k j m self args) (fq cM k j m self args):=by
 have d:fq cM k j m self args=⟨k,j,false,m.code,self,args,MC m.a8.toNat ⟨0,0⟩,[],0⟩:=pW (fun _ _=>rfl) k j m self args;rw[d];unfold fq;rw[vg c b];by_cases h:(bQ w S k j m).1.any O0.eR=true
 ·rw[Mu h];simp only[if_true];have a:=ot w e (S k j) m.code.length m.code 0 0 m.a8;have a:m.a8<=(bQ w S k j m).2:=a;refine .aY (m:=m) ⟨rfl,rfl,rfl,rfl,rfl,rfl,⟨x,c,b⟩,rfl,rfl,?_,?_,?_⟩ rfl (MH _) ?_
  ·simp only[List.length_replicate];omega
  ·simp only[List.length_replicate];omega
  ·simp only[List.length_replicate,List.take_replicate];congr 1;omega
  ·simp[Jc]
 ·rw[Mt h];exact .same rfl
def CQ (W:cf w) (s:eP w) {a b i:Cf} (hS:ck a b) (d:dv w S a.fs b.fs) {k j:Int} {self:V} {args:List V} (h:fj w aE cM b k j self args=some i) :
  ∃g,fj w aE (qF w S) a k j self args=some g/\ck g i/\dv w S g.fs i.fs:=by
 obtain⟨x,m,o,n,h⟩:=pH h;have p:=d.len;unfold fj;simp only[o,n,A0];rcases h with⟨g1,rfl⟩|⟨g1,f,rfl⟩|⟨g1,f,e,v,u,h⟩|⟨g1,f,e,r,rfl⟩|⟨g1,f,e,r,rfl⟩
 ·rw[Mu g1];exact⟨_,rfl,⟨hS.heap,hS.aH,hS.aO,hS.back,rfl⟩,d⟩
 ·rw[Mt (by simpa using g1)];have:aE<=a.aH:=by rw[hS.aH];exact f
  refine⟨V3 a 13,?_,⟨hS.heap,hS.aH,hS.aO,hS.back,rfl⟩,d⟩;by_cases q:m.aX=0
  ·rw[Mt (by simpa using q),Mu this]
  ·rw[Mu q,Mu this]
 ·rw[Mt (by simpa using g1),Mu e,Mt (by rw[hS.aH];omega),u];simp only[A0];have c:ck { a with aH:=a.aH+1 } { b with aH:=b.aH+1 }:=⟨hS.heap,by simp only;rw[hS.aH],hS.aO,hS.back,hS.err⟩;rcases h with⟨l,rfl⟩|⟨l,rfl⟩
  ·rw[Mu l];exact⟨_,rfl,⟨c.heap,c.aH,c.aO,c.back,rfl⟩,d⟩
  ·rw[Mt (by simpa using l)];obtain⟨y,z⟩:=Co c (w:=w) (S:=S) d (eh m.aX self v).1;exact⟨_,rfl,y,z⟩
 ·rw[Mt (by simpa using g1),Mt (by simpa using e),Mt (by rw[hS.aH];omega),Mu d9];exact⟨_,rfl,⟨hS.heap,hS.aH,hS.aO,hS.back,rfl⟩,d⟩
 ·rw[Mt (by simpa using g1),Mt (by simpa using e),Mt (by rw[hS.aH];omega),Mt d9];have t:0<=m.a8:=(W.a8 x (eJ o) m (eJ n)).1;exact⟨_,rfl,⟨hS.heap,by simp only;rw[hS.aH],hS.aO,hS.back,hS.err⟩,.cons (yC W s o n t self args) d⟩
end
def K2 (a:List Int) (i:Ins):(fL a i).op=i.op/\(fL a i).b=i.b/\(fL a i).name=i.name:=by
 unfold fL nv;split<;>exact⟨rfl,rfl,rfl⟩
def Kr (b:List Int) (i:Ins) (h:i.op≠15) (c:i.op≠16):(fL b i).a=i.a:=by
 unfold fL e9;rw[Mx h,Mx c];rfl
def KA (b:List Int) (i:Ins) (h:i.op=15\/i.op=16):(fL b i).a=(b[i.a.toNat]?).getD 0:=by
 unfold fL e9 nv;rcases h with h|h<;>rw[h]<;>rfl
def Hv (k:Nat) (i:Ins):(Y5 k i).op=i.op/\(Y5 k i).a=i.a/\(Y5 k i).b=i.b/\(Y5 k i).name=i.name:=by
 unfold Y5;split<;>exact⟨rfl,rfl,rfl,rfl⟩
def Ic {w:Wd} {H:List Ob} {self:V} {args a8 aA:List V} {i c:Ins} (d:c.op=i.op) (e:c.a=i.a) (f:c.b=i.b):bw w H self args a8 aA c=bw w H self args a8 aA i:=by
 unfold bw;rw[d,e,f]
section
variable {w:Wd} {S:Int->Int->List Int} {aE:Int}
def DF {N:Nat} (W:cf w) (a:eP w):∀k j,(qF w S k j).2=true->0<=(qF w S k j).1.a8/\(qF w S k j).1.a8<=1000:=by
 intro k j h;have g:¬(k<0\/(w.a7.length:Int)<=k\/j<0):=fun n=>by
  unfold qF jm at h;rw[Mu n] at h;cases h
 obtain⟨x,f,d⟩:=de (l:=w.a7) (i:=k) d9 d9;cases b:x.aC[j.toNat]? with
 |none =>
  unfold qF jm at h;rw[Mt g,f] at h;simp only[b] at h;cases h
 |some m =>
  have c:j4 x.aC j=some m:=by rw[fE d9,b]
  rw[vg d c] at h⊢;by_cases e:(bQ w S k j m).1.any O0.eR=true
  ·rw[Mu e];have o:m.a8<=(bQ w S k j m).2:=ot w a (S k j) m.code.length m.code 0 0 m.a8;have q:=(a _ x f m (MI b)).toLeafy.a8;have p:(bQ w S k j m).2<=40:=xE w a (S k j) m.code.length m.code 0 0 m.a8 d9;simp only;omega
  ·rw[Mt e] at h;cases h
theorem FF.dq {g p:j3} {m:Me} (W:cf w) (h:FF w S g p m):g.code.length<=240/\p.code.length<=60:=by
 obtain⟨x,c,b⟩:=h.aq;have a:=W.code x (eJ c) m (eJ b);refine⟨?_,by rw[h.bm];exact a⟩;rw[h.codeF,xY,De];have:=xD w (S p.aK p.aN) m.code.length m.code 0 0 m.a8 rfl d9;simpa[bQ] using this
theorem FR.wk {g p:j3} {n:Int} {d:Nat} (W:cf w) (h:FR w S g p) (f:dm w n d p):cE g:=by
 obtain⟨m,o,R⟩:=f;obtain⟨i,_,_,_,_,l,_⟩:=R.len;cases h with
 |same q=>exact⟨d9,by rw[R.code];have:=R.me.len;omega,fun v a b=>(R.al v a).num b⟩
 |aY e c j k=>exact⟨by rw[c];omega,by have:=(e.dq W).1;omega,fun v a b=>by rw[c] at a;exact(R.al v a).num b⟩
theorem dv.wk {G P:List j3} {n:Int} (W:cf w) (h:dv w S G P) (b:∀p∈P,∃d,dm w n d p):∀g∈G,cE g:=by
 induction h with
 |nil=>intro g e;cases e
 |@cons g p G P c i ih =>
  intro x a;rcases Ly.1 a with rfl|a
  ·obtain⟨d,hd⟩:=b p l8;exact c.wk W hd
  ·exact ih (fun q f=>b q (by simp[f])) x a
def E2 {N:Nat} (W:cf w) (d:eP w) {a b:Cf} (I:dF w aE b) (g:a.heap=b.heap) (i:-1000000<=a.aH/\a.aH<=100000) (l:a.aO=b.aO) (hl:a.fs.length<=900) (e:∀f∈a.fs,cE f):Wk w (qF w S) a:=by
 have c:=I.wk W (Q:=cM) (fun k j h=>by cases h);exact⟨c.cls,c.aq,c.aI,DF (N:=N) W d,by rw[g];exact c.heap,hl,e,i,by rw[l];exact c.aO⟩
theorem FF.rQ {g p:j3} {m:Me} (h:FF w S g p m) {q:Nat} {i:Ins} (hi:(bQ w S p.aK p.aN m).1[q]?=some (.pl i)):j4 g.code ((bO (bQ w S p.aK p.aN m).1 q:Nat):Int)=some (fL (X9 (bQ w S p.aK p.aN m).1 0) i):=by
 rw[D9,h.codeF];exact xt _ _ 0 q i hi
theorem FF.lT {g p:j3} {m y:Me} {s c:Int} (h:FF w S g p m) {q:Nat} (hi:(bQ w S p.aK p.aN m).1[q]?=some (.pc y s c (q:Int))) {r:Nat} (a:r<Q9 y) :
  j4 g.code ((bO (bQ w S p.aK p.aN m).1 q+r:Nat):Int)=(eN y s c (q:Int) (bO (bQ w S p.aK p.aN m).1 q))[r]?:=by
 rw[D9,h.codeF,yB _ _ 0 q y s c _ hi r a,MZ]
def d51 {y:Me} {s c p:Int} {b r:Nat} (a:r<y.code.length):(eN y s c p b)[hl y+r]?=(y.code[r]?).map (bd s y ((b+hl y:Nat):Int)):=by
 unfold eN hl;rw[show 3+y.args.toNat+2*y.a8.toNat+r=(1+y.args.toNat+2*y.a8.toNat+r)+1+1 by omega,Mo,Mo,
  MS (by simp[gm,jW];omega)]
 simp only[MD,gm,jW];rw[show 1+y.args.toNat+2*y.a8.toNat+r-(y.args.toNat+1+2*y.a8.toNat)=r by omega,Mb]
theorem FF.item {g p:j3} {m:Me} (j:eP w) (h:FF w S g p m) (b:0<=p.aJ) {i:Ins} (hi:j4 p.code p.aJ=some i) :
  (bQ w S p.aK p.aN m).1[p.aJ.toNat]?=some (.pl (Y5 p.aJ.toNat i)) \/
  ∃y t c sz,dj w (S p.aK p.aN) m.code.length p.aJ.toNat i sz t=some (y,c)/\m.a8<=t/\(bQ w S p.aK p.aN m).1[p.aJ.toNat]?=some (.pc y t c ((p.aJ.toNat:Nat):Int))/\t+1+y.args+y.a8<=(bQ w S p.aK p.aN m).2:=by
 rw[h.bm,fE b] at hi;obtain⟨t,sz,d,a⟩:=xV w j (S p.aK p.aN) m.code.length m.code 0 0 m.a8 p.aJ.toNat i hi;rw[MZ] at a;rcases a with⟨_,a⟩|⟨y,c,a,e,f⟩
 ·exact .inl a
 ·exact .inr ⟨y,t,c,sz,a,d,e,f⟩
def d20 (k j:Int) (m:Me):(bQ w S k j m).1.length=m.code.length:=xB w (S k j) m.code.length m.code 0 0 m.a8
def nY {a:Cf} {g g1:j3} {G:List j3} {b:Cf} (j:a.err=0) (c:a.fs=g::G) (d:Wk w (qF w S) a) (e:P5 w aE (fun _ k s=>l7 w s k) (qF w S) a=some b) (f:b.fs=g1::G) (h:b.aH=a.aH) (i:b.aO=a.aO) (l:Z6 g1+1<=Z6 g) :
  dB w aE (fun _ k s=>l7 w s k) (qF w S) a b:=by
 refine .step j (by rw[c];simp) d e ?_ (.refl _);simp only[mu,c,f,h,i,ML,MT];omega
end
structure vj (w:Wd) (S:Int->Int->List Int) (g p:j3) (iF i:Ins):Prop where
 st:g.aA=p.aA
 self:g.aU=p.aU
 args:g.args=p.args
 cls:g.aK=p.aK
 iW:g.aN=p.aN
 tk:g.a8.take p.a8.length=p.a8
 tl:p.a8.length<=g.a8.length
 aJ:j4 g.code g.aJ=some iF
 op:iF.op=i.op
 nm:iF.name=i.name
 b:iF.b=i.b
 a:i.op≠15->i.op≠16->iF.a=i.a
 dq:g.code.length<=240
 next:∀T Tp S',T.length=g.a8.length->Tp.length=p.a8.length->T.take p.a8.length=Tp->FR w S { g with aJ:=g.aJ+1,a8:=T,aA:=S' } { p with aJ:=p.aJ+1,a8:=Tp,aA:=S' }
 jmp:i.op=15\/i.op=16->0<=iF.a/\(iF.a<g.aJ+1↔i.a<p.aJ+1)/\∀S',FR w S { g with aJ:=iF.a,aA:=S' } { p with aJ:=i.a,aA:=S' }
section
variable {w:Wd} {S:Int->Int->List Int} {aE:Int}
def Ae (W:cf w) {p:j3} {i:Ins} (b:p.aY=false) (e:p.code.length<=240) (hi:j4 p.code p.aJ=some i) (f:i.op=15\/i.op=16->0<=i.a):vj w S p p i i :=
 ⟨rfl,rfl,rfl,rfl,rfl,List.take_length,It _,hi,rfl,rfl,rfl,fun _ _=>rfl,e,fun T Tp c g j d=>by
  have:T=Tp:=by rw[<-d,List.take_of_length_le d9]
  subst this;exact .same b,fun h=>⟨f h,Iff.rfl,fun c=>.same b⟩⟩
def d78 (W:cf w) (D:eP w) {g p:j3} {m:Me} {i:Ins} (h:FF w S g p m) (k:g.aA=p.aA) (I:0<=p.aJ) (ah:g.aJ=(bO (bQ w S p.aK p.aN m).1 p.aJ.toNat:Int))
  (hi:j4 p.code p.aJ=some i) (c:(bQ w S p.aK p.aN m).1[p.aJ.toNat]?=some (.pl (Y5 p.aJ.toNat i))) (G:i.op=15\/i.op=16->0<=i.a/\i.a<m.code.length) :
  vj w S g p (fL (X9 (bQ w S p.aK p.aN m).1 0) (Y5 p.aJ.toNat i)) i:=by
 obtain⟨e1,B,C⟩:=K2 (X9 (bQ w S p.aK p.aN m).1 0) (Y5 p.aJ.toNat i);obtain⟨d,r,z,A⟩:=Hv p.aJ.toNat i;have j:=fZ hi;rw[h.bm] at j;have E:p.a8.length<=g.a8.length:=by
  have J:=h.len;have K:=h.du;have:m.a8<=(bQ w S p.aK p.aN m).2:=ot w D (S p.aK p.aN) m.code.length m.code 0 0 m.a8;omega
 refine⟨k,h.self,h.args,h.cls,h.iW,h.tk,E,by rw[ah];exact h.rQ c,by rw[e1,d],by rw[C,A],by rw[B,z],fun u v=>by rw[Kr _ _ (by rw[d];exact u) (by rw[d];exact v),r],(h.dq W).1,fun T Tp t x o y=>?_,fun b=>?_⟩
 ·refine .aY (m:=m) ⟨h.aY,h.bp,h.cls,h.iW,h.self,h.args,h.aq,h.bm,h.codeF,by simp only;rw[x];exact h.len,by simp only;rw[o];exact h.du,by simp only;rw[o];exact y⟩ rfl bN ?_;simp only;rw[show(p.aJ+1).toNat=p.aJ.toNat+1 by omega,yI c,ah];simp[O0.len]
 ·obtain⟨H,L⟩:=G b;have f:i.a.toNat<(bQ w S p.aK p.aN m).1.length:=by rw[d20];omega
  have n:(fL (X9 (bQ w S p.aK p.aN m).1 0) (Y5 p.aJ.toNat i)).a=((bO (bQ w S p.aK p.aN m).1 i.a.toNat:Nat):Int):=by
   rw[KA _ _ (by rw[d];exact b),r,Ba _ 0 _ f,MZ];rfl
  rw[n];refine⟨d9,?_,fun t=>.aY (m:=m) ⟨h.aY,h.bp,h.cls,h.iW,h.self,h.args,h.aq,h.bm,h.codeF,h.len,h.du,h.tk⟩ rfl H rfl⟩;rw[ah];have s:p.aJ.toNat<(bQ w S p.aK p.aN m).1.length:=by rw[d20];omega
  constructor
  ·intro F;by_cases e:i.a<p.aJ+1
   ·exact e
   ·have:=ye (l:=(bQ w S p.aK p.aN m).1) (p:=p.aJ.toNat) (q:=i.a.toNat) d9 d9;omega
  ·intro F;by_cases e:i.a.toNat=p.aJ.toNat
   ·rw[e];omega
   ·have:=ye (l:=(bQ w S p.aK p.aN m).1) (p:=i.a.toNat) (q:=p.aJ.toNat) d9 d9;omega
def yP {f:j3} {v:V} (h:f.aA.getLast?=some v):cR f=some (v,{ f with aA:=f.aA.dropLast }):=by
 unfold cR;rw[h];rfl
def C0 (W:cf w) (hL:eP w) {a b Z:Cf} {g p:j3} {G P:List j3} {d i:Ins} (hS:ck a b) (j:a.fs=g::G) (hb:b.fs=p::P) (K:dv w S G P) (R:vj w S g p d i) (he:b.err=0) (I:dF w aE b) (Wk0:Wk w (qF w S) a)
  (hi:j4 p.code p.aJ=some i) (hop:i.op<=17) (c:P5 w aE (fun _ k s=>l7 w s k) cM b=some Z) :
  ∃n,dB w aE (fun _ k s=>l7 w s k) (qF w S) a n/\ck n Z/\(Z.err=0->dv w S n.fs Z.fs):=by
 have O:a.err=0:=by rw[hS.err];exact he
 have hgl:=fZ R.aJ;have hglen:=R.dq;have H:Z6 { g with aJ:=g.aJ+1 }+1=Z6 g:=rT hgl.2;have step:∀n,P5 w aE (fun _ k s=>l7 w s k) (qF w S) a=some n->mu aE n<mu aE a->dB w aE (fun _ k s=>l7 w s k) (qF w S) a n:=fun n h1 h2=>.step O (by rw[j];simp) Wk0 h1 h2 (.refl _);have ah:P5 w aE (fun _ k s=>l7 w s k) (qF w S) a=(if d.op=14 then ka w aE (fun _ k s=>l7 w s k) (qF w S) a { g with aJ:=g.aJ+1 } G d g.aJ
  else if d.op=15 then some (cW a { g with aJ:=g.aJ+1 } G d.a)
  else if d.op=16 then(cR { g with aJ:=g.aJ+1 }).map (kT a G d)
  else if d.op=17 then(cR { g with aJ:=g.aJ+1 }).map fun q=>dL { a with fs:=G } q.1
  else if d.op=18 then lu w a { g with aJ:=g.aJ+1 } G d
  else if d.op=21 then some (iM aE { a with fs:={ g with aJ:=g.aJ+1 }::G })
  else kX w a { g with aJ:=g.aJ+1 } G d):=by
  unfold P5;rw[j];simp only[R.aJ,A0]
 rw[R.op] at ah;unfold P5 at c;rw[hb] at c;simp only[hi,A0] at c;have T:∀(X:List V) (to t:Int),0<=to->(to<g.aJ+1↔t<p.aJ+1)->FR w S { g with aJ:=to,aA:=X } { p with aJ:=t,aA:=X } ->
   ck (cW a { g with aJ:=g.aJ+1,aA:=X } G to) (cW b { p with aJ:=p.aJ+1,aA:=X } P t)/\dv w S (cW a { g with aJ:=g.aJ+1,aA:=X } G to).fs (cW b { p with aJ:=p.aJ+1,aA:=X } P t).fs /\
   mu aE (cW a { g with aJ:=g.aJ+1,aA:=X } G to)<mu aE a:=by
  intro X to t h0 D z;have ht:=I.aO;unfold cW;simp only;by_cases E:to<g.aJ+1
  ·rw[Mu E,Mu (D.1 E)];refine⟨⟨hS.heap,hS.aH,by simp only;rw[hS.aO],hS.back,by simp only;rw[hS.aO,hS.err]⟩,.cons z K,?_⟩;have:=hS.aO;have e1:Z6 { g with aJ:=to,aA:=X }<=Z6 g+240:=by
    unfold Z6;simp only;omega
   simp only[mu,j,ML,MT];omega
  ·rw[Mt E,Mt (fun h=>E (D.2 h))];refine⟨⟨hS.heap,hS.aH,hS.aO,hS.back,hS.err⟩,.cons z K,?_⟩;have e1:Z6 { g with aJ:=to,aA:=X }+1<=Z6 g:=by
    unfold Z6;simp only;omega
   simp only[mu,j,ML,MT];omega
 by_cases M:i.op=14
 ·rw[Mu M] at c ah;obtain⟨x,cl,m,k0,Y,hy,E,Q,h⟩:=pU c;simp only at Y hy E Q;have ea:d.a=i.a:=R.a d9 d9;have key:P5 w aE (fun _ k s=>l7 w s k) (qF w S) a=(if(l7 w i.name (G9 b.heap x)).2<0 then some (V3 { a with fs:={ g with aJ:=g.aJ+1 }::G,ev:=a.ev++[(R7 { g with aJ:=g.aJ+1 } m d g.aJ,G9 b.heap x)] } 10)
    else fj w aE (qF w S) { a with fs:={ g with aJ:=g.aJ+1,aA:=p.aA.take (p.aA.length-i.a.toNat-1) }::G,ev:=a.ev++[(R7 { g with aJ:=g.aJ+1 } m d g.aJ,G9 b.heap x)] }
     (l7 w i.name (G9 b.heap x)).1 (l7 w i.name (G9 b.heap x)).2 x (p.aA.drop (p.aA.length-i.a.toNat))):=by
   rw[ah];unfold ka;simp only[ea,R.st,R.nm,R.cls,R.iW,hS.heap];rw[Mu ⟨k0,Y⟩];simp only[hy,E,Q,A0]
  rcases h with⟨h2,rfl⟩|⟨h2,h⟩
  ·rw[Mu h2] at key;refine⟨_,step _ key ?_,⟨hS.heap,hS.aH,hS.aO,hS.back,rfl⟩,fun e=>by cases e⟩;simp only[mu,j,V3,ML,MT];omega
  ·rw[Mt d9] at key;have z:=R.next g.a8 p.a8 (p.aA.take (p.aA.length-i.a.toNat-1)) rfl rfl R.tk;obtain⟨n,l,B,L⟩:=CQ (aE:=aE) W hL (a:={ a with fs:={ g with aJ:=g.aJ+1,aA:=p.aA.take (p.aA.length-i.a.toNat-1) }::G,ev:=a.ev++[(R7 { g with aJ:=g.aJ+1 } m d g.aJ,G9 b.heap x)] })
    (by exact⟨hS.heap,hS.aH,hS.aO,hS.back,hS.err⟩) (by exact .cons z K) h
   rw[<-key] at l;refine⟨n,step n l ?_,B,fun _=>L⟩;rw[key] at l;obtain⟨x2,m2,J,F,hh⟩:=pH l;have e0:Z6 { g with aJ:=g.aJ+1,aA:=p.aA.take (p.aA.length-i.a.toNat-1) }+1=Z6 g:=H;rcases hh with⟨_,rfl⟩|⟨_,_,rfl⟩|⟨_,A,_,v,_,hh⟩|⟨_,_,_,_,rfl⟩|⟨_,A,_,_,rfl⟩
   ·simp only[mu,j,V3,ML,MT];omega
   ·simp only[mu,j,V3,ML,MT];omega
   ·rcases hh with⟨_,rfl⟩|⟨_,rfl⟩
    ·simp only at A;simp only[mu,j,V3,ML,MT];omega
    ·rw[su];simp only at A;simp only[mu,j,ML,MT];omega
   ·simp only[mu,j,V3,ML,MT];omega
   ·simp only at A;have hnew:Z6 (fq (qF w S) (l7 w i.name (G9 b.heap x)).1 (l7 w i.name (G9 b.heap x)).2 m2 x (p.aA.drop (p.aA.length-i.a.toNat)))<=320:=by
     have C:=yC (S:=S) W hL J F (W.a8 x2 (eJ J) m2 (eJ F)).1 x (p.aA.drop (p.aA.length-i.a.toNat));have hc60:=W.code x2 (eJ J) m2 (eJ F);generalize hg:fq (qF w S) (l7 w i.name (G9 b.heap x)).1 (l7 w i.name (G9 b.heap x)).2 m2 x (p.aA.drop (p.aA.length-i.a.toNat))=ng at C;have jF:ng.aJ=0:=by rw[<-hg];unfold fq;split<;>rfl
     unfold Z6;rw[jF];have hcl:ng.code.length<=240:=by
      cases C with
      |same hs=>rw[pW (fun _ _=>rfl)];simp only;omega
      |aY hff=>exact(hff.dq W).1
     split<;>omega
    simp only[mu,j,ML,MT];omega
 rw[Mt M] at c ah;by_cases u:i.op=15
 ·rw[Mu u] at c ah;cases c;obtain⟨j0,j1,j2⟩:=R.jmp (.inl u);obtain⟨l,B,L⟩:=T p.aA d.a i.a j0 j1 (j2 p.aA);rw[<-R.st] at l B L;refine⟨_,step _ ah L,?_,fun _=>?_⟩
  ·rw[R.st] at l⊢;exact l
  ·rw[R.st] at B⊢;exact B
 rw[Mt u] at c ah;by_cases y:i.op=16
 ·rw[Mu y] at c ah;rw[ME] at c;obtain⟨⟨v,f2⟩,hv,rfl⟩:=c;obtain⟨o,U⟩:=ig hv;simp only at o U;subst U;have hg:cR { g with aJ:=g.aJ+1 }=some (v,{ g with aJ:=g.aJ+1,aA:=p.aA.dropLast }):=by
   rw[yP (f:={ g with aJ:=g.aJ+1 }) (v:=v) (by rw[show({ g with aJ:=g.aJ+1 }:j3).aA=g.aA from rfl,R.st];exact o)];simp only[R.st]
  rw[hg] at ah;simp only[MW] at ah;have hn:=R.next g.a8 p.a8 p.aA.dropLast rfl rfl R.tk;obtain⟨j0,j1,j2⟩:=R.jmp (.inr y);unfold kT at ah⊢;by_cases Y:v.k=1
  ·rw[Mu Y] at ah⊢;obtain⟨l,B,L⟩:=T p.aA.dropLast d.a i.a j0 j1 (j2 p.aA.dropLast);exact⟨_,step _ ah L,l,fun _=>B⟩
  ·rw[Mt Y] at ah⊢;have Q:mu aE { a with fs:={ g with aJ:=g.aJ+1,aA:=p.aA.dropLast }::G }<mu aE a:=by
    have e0:Z6 { g with aJ:=g.aJ+1,aA:=p.aA.dropLast }+1=Z6 g:=H;simp only[mu,j,ML,MT];omega
   by_cases k2:v.k=2
   ·rw[Mu k2] at ah⊢;exact⟨_,step _ ah Q,⟨hS.heap,hS.aH,hS.aO,hS.back,hS.err⟩,fun _=>.cons hn K⟩
   ·rw[Mt k2] at ah⊢;exact⟨_,step _ ah Q,⟨hS.heap,hS.aH,hS.aO,hS.back,rfl⟩,fun e=>by cases e⟩
 rw[Mt y] at c ah;by_cases N:i.op=17
 ·rw[Mu N] at c ah;rw[ME] at c;obtain⟨⟨v,f2⟩,hv,rfl⟩:=c;obtain⟨o,_⟩:=ig hv;simp only at o;rw[yP (f:={ g with aJ:=g.aJ+1 }) (v:=v) (by rw[show({ g with aJ:=g.aJ+1 }:j3).aA=g.aA from rfl,R.st];exact o)] at ah;obtain⟨l,B⟩:=Co (w:=w) (S:=S) (a:={ a with fs:=G }) (b:={ b with fs:=P }) ⟨hS.heap,hS.aH,hS.aO,hS.back,hS.err⟩ K v;refine⟨_,step _ ah ?_,l,fun _=>B⟩;rw[su];simp only[mu,j,ML,MT];omega
 rw[Mt N,Mt (show¬i.op=18 by omega),Mt (show¬i.op=21 by omega)] at c ah;rw[va w b he,ME] at c;obtain⟨r,hr,rfl⟩:=c;simp only at hr;rw[<-R.tk] at hr;obtain⟨T',t1,t2,t3,t4⟩:=JL R.tl hr;rw[va w a O] at ah;simp only at ah;have t1':bw w a.heap g.aU g.args g.a8 g.aA d=some (r.1,T',r.2.2.1,r.2.2.2):=by
  rw[Ic (i:=i) R.op (R.a u y) R.b,R.self,R.args,R.st,hS.heap,t1]
 rw[t1'] at ah;simp only[MW] at ah;refine⟨_,step _ ah ?_,⟨rfl,hS.aH,hS.aO,hS.back,rfl⟩,fun _=>.cons ?_ K⟩
 ·have e0:Z6 { g with aJ:=g.aJ+1,a8:=T',aA:=r.2.2.1 }+1=Z6 g:=H;simp only[mu,iX,j,ML,MT];omega
 ·exact R.next T' r.2.1 r.2.2.1 t3 t4 t2
end
section
variable {w:Wd} {S:Int->Int->List Int} {aE:Int}
def vX {a:Cf} {g:j3} {G:List j3} {b:Ins} {r:List Ob×List V×List V×Int} (e:a.err=0) (d:a.fs=g::G) (ah:j4 g.code g.aJ=some b) (h:¬(14<=b.op/\b.op<=18)) (c:b.op≠21)
  (f:bw w a.heap g.aU g.args g.a8 g.aA b=some r) (L:St->Int->ByteArray->Int×Int) (Q:Int->Int->Fs×Bool):P5 w aE L Q a=some (iX a { g with aJ:=g.aJ+1 } G r):=by
 unfold P5;rw[d];simp only[ah,A0];rw[Mt d9,Mt d9,Mt d9,Mt d9,Mt d9,Mt c,va w a e];simp only[f,MW]
def Bq {H:List Ob} {self v:V} {args T X:List V} {k:Int} (a:0<=k) (b:k<T.length):bw w H self args T (X++[v]) ⟨11,k,0,0,BY⟩=some (H,T.set k.toNat v,X,0):=by
 unfold bw;simp[a,b]
def KS {H:List Ob} {self:V} {args T X:List V}:bw w H self args T X ⟨6,0,0,0,BY⟩=some (H,T,X++[⟨0,0⟩],0):=by
 unfold bw;simp
theorem DM {a:Cf} {G:List j3} (q:a.err=0) (C:∀g,cE g->Wk w (qF w S) { a with fs:=g::G }) {s:Int} (J:0<=s) {X:List V}:∀(n:Nat) (vs:List V) (g:j3),vs.length=n->g.aA=X++vs->0<=g.aJ->(∀r,r<n->j4 g.code (g.aJ+r)=(j9 s n)[r]?) ->
  s.toNat+n<=g.a8.length->cE g->∃l,dB w aE (fun _ k s=>l7 w s k) (qF w S) { a with fs:=g::G } { a with fs:={ g with aJ:=g.aJ+n,a8:=l,aA:=X }::G } /\
   l.length=g.a8.length/\(∀j,j<s.toNat\/s.toNat+n<=j->l[j]?=g.a8[j]?)/\∀(j:Nat) v,vs[j]?=some v->l[s.toNat+j]?=some v
 |0,vs,g,t,f,H,x,hl,d=>by
  obtain rfl:=Ma t;rw[List.append_nil] at f;refine⟨g.a8,?_,rfl,fun _ _=>rfl,fun j v h=>by simp at h⟩;have:({ g with aJ:=g.aJ+((0:Nat):Int),a8:=g.a8,aA:=X }:j3)=g:=by
   rw[<-f];simp
  rw[this];exact .refl _
 |n+1,vs,g,t,f,H,x,hl,d=>by
  obtain⟨b,v,rfl⟩:∃b v,vs=b++[v]:=by
   cases B:vs.getLast? with
   |none=>rw[List.getLast?_eq_none_iff] at B;subst B;simp at t
   |some v=>obtain⟨b,h⟩:=List.getLast?_eq_some_iff.1 B;exact⟨b,v,h⟩
  simp only[MD,Mp] at t;have p:b.length=n:=d9;have hi:j4 g.code g.aJ=some ⟨11,s+n,0,0,BY⟩:=by
   have:=x 0 d9;simpa[j9] using this
  have A:=fZ hi;have c:g.aA=(X++b)++[v]:=by rw[f];simp
  have D:bw w a.heap g.aU g.args g.a8 g.aA ⟨11,s+n,0,0,BY⟩=some (a.heap,g.a8.set (s+n).toNat v,X++b,0):=by
   rw[c];exact Bq d9 d9
  have m:=vX (aE:=aE) (a:={ a with fs:=g::G }) q rfl hi bN bN D (fun _ k s=>l7 w s k) (qF w S);have o:cE { g with aJ:=g.aJ+1,a8:=g.a8.set (s+n).toNat v,aA:=X++b }:=⟨by have:=d.aA;rw[c] at this;simp at this⊢;omega,d.code,fun u i I=>d.num u (by rw[c];simp only[MN] at i⊢;exact .inl i) I⟩;obtain⟨l,K,L,E,M⟩:=DM q C J n b { g with aJ:=g.aJ+1,a8:=g.a8.set (s+n).toNat v,aA:=X++b } p rfl bN (fun r D=>by
   have:=x (r+1) d9;simp only[j9,Mo] at this;rw[<-this];congr 1;simp only;omega) (by simp only[MU];omega) o
  refine⟨l,?_,by rw[L];simp,fun j N=>?_,fun j u i=>?_⟩
  ·refine .trans (nY (a:={ a with fs:=g::G }) q rfl (C g d) m (g1:={ g with aJ:=g.aJ+1,a8:=g.a8.set (s+n).toNat v,aA:=X++b }) rfl rfl rfl ?_) ?_
   ·have:=rT A.2;unfold Z6 at this⊢;simp only at this⊢;omega
   ·have e:({ g with aJ:=g.aJ+((n+1:Nat):Int),a8:=l,aA:=X }:j3)={ ({ g with aJ:=g.aJ+1,a8:=g.a8.set (s+n).toNat v,aA:=X++b }:j3) with aJ:=g.aJ+1+(n:Int),a8:=l,aA:=X }:=by
     simp only[j3.mk.injEq,true_and];omega
    rw[e];have F:iX { a with fs:=g::G } { g with aJ:=g.aJ+1 } G (a.heap,g.a8.set (s+n).toNat v,X++b,0)={ a with fs:={ g with aJ:=g.aJ+1,a8:=g.a8.set (s+n).toNat v,aA:=X++b }::G }:=by
     unfold iX;simp only[q]
    rw[F];exact K
  ·rw[E j d9,List.getElem?_set_ne d9]
  ·by_cases y:j=n
   ·subst y;rw[MS d9,p,Nat.sub_self] at i;simp only[Mq,Option.some.injEq] at i;subst i;rw[E _ d9,show(s+(j:Int)).toNat=s.toNat+j by omega,List.getElem?_set_self d9]
   ·have z:j<b.length:=by
     have:=(Lx.1 i).1;simp at this;omega
    rw[Mh z] at i;exact M j u i
theorem CP {a:Cf} {G:List j3} (l:a.err=0) (x:∀g,cE g->Wk w (qF w S) { a with fs:=g::G }) {b:Int} (F:0<=b):∀(n k:Nat) (g:j3),0<=g.aJ->(∀r,r<2*n->j4 g.code (g.aJ+r)=(iI b n k)[r]?) ->
  b.toNat+k+n<=g.a8.length->cE g->g.aA.length<=900->∃i,dB w aE (fun _ k s=>l7 w s k) (qF w S) { a with fs:=g::G } { a with fs:={ g with aJ:=g.aJ+(2*n:Nat),a8:=i }::G } /\
   i.length=g.a8.length/\(∀j,j<b.toNat+k\/b.toNat+k+n<=j->i[j]?=g.a8[j]?)/\∀j,j<n->i[b.toNat+k+j]?=some ⟨0,0⟩
 |0,k,g,E,t,hl,c,B=>by
  refine⟨g.a8,?_,rfl,fun _ _=>rfl,fun j h=>d9⟩;have:({ g with aJ:=g.aJ+((2*0:Nat):Int),a8:=g.a8 }:j3)=g:=l8;rw[this];exact .refl _
 |n+1,k,g,E,t,hl,c,B=>by
  have hi:j4 g.code g.aJ=some ⟨6,0,0,0,BY⟩:=by
   have:=t 0 d9;simpa[iI] using this
  have m:j4 g.code (g.aJ+1)=some ⟨11,b+k,0,0,BY⟩:=by
   have:=t 1 d9;simpa[iI] using this
  have I:=fZ hi;have A:=fZ m;have f:=vX (aE:=aE) (a:={ a with fs:=g::G }) l rfl hi bN bN (KS (w:=w)) (fun _ k s=>l7 w s k) (qF w S);have p:cE { g with aJ:=g.aJ+1,aA:=g.aA++[⟨0,0⟩] }:=⟨M3,c.code,fun u o z=>by
   rcases MN.1 o with o|o
   ·exact c.num u o z
   ·rw[MY.1 o] at z;cases z⟩
  have e1:iX { a with fs:=g::G } { g with aJ:=g.aJ+1 } G (a.heap,g.a8,g.aA++[⟨0,0⟩],0)={ a with fs:={ g with aJ:=g.aJ+1,aA:=g.aA++[⟨0,0⟩] }::G }:=by
   unfold iX;simp only[l]
  have d:=vX (aE:=aE) (a:={ a with fs:={ g with aJ:=g.aJ+1,aA:=g.aA++[⟨0,0⟩] }::G }) (g:={ g with aJ:=g.aJ+1,aA:=g.aA++[⟨0,0⟩] }) l rfl m bN bN
   (Bq (w:=w) (X:=g.aA) (v:=⟨0,0⟩) (T:=g.a8) (k:=b+k) d9 d9) (fun _ k s=>l7 w s k) (qF w S)
  have D:iX { a with fs:={ g with aJ:=g.aJ+1,aA:=g.aA++[⟨0,0⟩] }::G } { g with aJ:=g.aJ+1+1,aA:=g.aA++[⟨0,0⟩] } G (a.heap,g.a8.set (b+k).toNat ⟨0,0⟩,g.aA,0)={ a with fs:={ g with aJ:=g.aJ+2,a8:=g.a8.set (b+k).toNat ⟨0,0⟩ }::G }:=by
   unfold iX;simp only[l,Cf.mk.injEq,List.cons.injEq,j3.mk.injEq,true_and,and_true];omega
  have q:cE { g with aJ:=g.aJ+2,a8:=g.a8.set (b+k).toNat ⟨0,0⟩ }:=⟨c.aA,c.code,c.num⟩;obtain⟨i,J,K,C,L⟩:=CP l x F n (k+1) { g with aJ:=g.aJ+2,a8:=g.a8.set (b+k).toNat ⟨0,0⟩ } bN (fun r M=>by
   have:=t (r+2) d9;simp only[iI,Mo] at this;rw[<-this];congr 1;simp only;omega) (by simp only[MU];omega) q B
  refine⟨i,?_,by rw[K];simp,fun j H=>?_,fun j H=>?_⟩
  ·rw[e1] at f;rw[D] at d;refine .trans (nY (a:={ a with fs:=g::G }) l rfl (x g c) f rfl rfl rfl ?_) (.trans (nY (a:={ a with fs:={ g with aJ:=g.aJ+1,aA:=g.aA++[⟨0,0⟩] }::G }) l rfl (x _ p) d rfl rfl rfl ?_) ?_)
   ·unfold Z6;simp only;omega
   ·unfold Z6;simp only;omega
   ·have e:({ g with aJ:=g.aJ+((2*(n+1):Nat):Int),a8:=i }:j3)={ ({ g with aJ:=g.aJ+2,a8:=g.a8.set (b+k).toNat ⟨0,0⟩ }:j3) with aJ:=g.aJ+2+((2*n:Nat):Int),a8:=i }:=by
     simp only[j3.mk.injEq,true_and,and_true];omega
    rw[e];exact J
  ·rw[C j d9,List.getElem?_set_ne d9]
  ·by_cases y:j=0
   ·subst y;rw[C _ d9,show(b+(k:Int)).toNat=b.toNat+k+0 by omega,List.getElem?_set_self d9]
   ·have:=L (j-1) d9;rw[show b.toNat+(k+1)+(j-1)=b.toNat+k+j by omega] at this;exact this
end
section
variable {w:Wd} {S:Int->Int->List Int} {aE:Int}
def yn (W:cf w) (i:eP w) {a b:Cf} (hS:ck a b) {G P:List j3} {p:j3} (h:b.fs=p::P) (e:dv w S G P) (I:dF w aE b) {n:Int} (o:n=a.aH\/n=a.aH+1):∀g,cE g->Wk w (qF w S) { a with fs:=g::G,aH:=n }:=fun g j=>by
 have d:=I.fs;rw[h] at d;have hl:=I.fl;rw[h,MB] at hl;have l:=I.aH;have m:=hS.aH;refine E2 (N:=0) W i I hS.heap bN hS.aO (by simp only[MB,e.len];omega) fun f c=>?_;rcases Ly.1 c with rfl|c
 ·exact j
 ·exact e.wk W (fun q k=>⟨1,d.2 q k⟩) f c
def d31 {y:Me} (h:fU y=true):y.aX=0:=by
 unfold fU at h;simp only[IT,Mz] at h;exact h.1
def IW (W:cf w) (hL:eP w) {a b b':Cf} {g p:j3} {G P:List j3} {m y:Me} {i:Ins} {s c t:Int} {sz:Nat} (hS:ck a b) (Z:a.fs=g::G) (hb:b.fs=p::P) (T:dv w S G P) (h:FF w S g p m) (o:g.aA=p.aA) (h0:0<=p.aJ)
  (ah:g.aJ=(bO (bQ w S p.aK p.aN m).1 p.aJ.toNat:Int)) (he:b.err=0) (I:dF w aE b) (hi:j4 p.code p.aJ=some i) (hcl:dj w (S p.aK p.aN) m.code.length p.aJ.toNat i sz t=some (y,c))
  (N:(bQ w S p.aK p.aN m).1[p.aJ.toNat]?=some (.pc y s c (p.aJ.toNat:Int))) (hms:m.a8<=s) (htot:s+1+y.args+y.a8<=(bQ w S p.aK p.aN m).2) (z:P5 w aE (fun _ k s=>l7 w s k) cM b=some b') :
  ∃Q,dB w aE (fun _ k s=>l7 w s k) (qF w S) a Q/\ck Q b'/\(b'.err=0->CR w S Q b'):=by
 obtain⟨h14,_,_,l,hlf,hargs,_,_⟩:=pM hcl;obtain⟨hy,_⟩:=uu w hL (S p.aK p.aN) m.code.length m.code 0 0 m.a8 y s c _ (MI N);have ya:=hy.args;have yt:=hy.a8;have n:a.err=0:=by rw[hS.err];exact he
 have Ib:=I.fs;rw[hb] at Ib;obtain⟨mp,hh,Fp⟩:=Ib.1;obtain⟨_,_,_,_,_,hplen,_⟩:=Fp.len;have e:cE g:=(FR.aY h o h0 ah).wk W Ib.1;have hpwk:cE p:=⟨d9,by have:=(h.dq W).2;omega,fun v H hk=>(Fp.al v H).num hk⟩;have u:=yn W hL hS hb T I (.inl rfl);have U:=yn W hL hS hb T I (.inr rfl);have hab:({ a with fs:=g::G }:Cf)=a:=by rw[<-Z]
 have V:Wk w (qF w S) a:=by have:=u g e;rw[<-Z] at this;exact this
 have hms0:0<=m.a8:=by have:=h.du;omega
 have hgl:=h.len;have htl:=h.du;have bn:∀r,r<Q9 y->j4 g.code (g.aJ+(r:Nat))=(eN y s c (p.aJ.toNat:Int) (bO (bQ w S p.aK p.aN m).1 p.aJ.toNat))[r]?:=fun r hr=>by
  rw[ah,<-Int.natCast_add];exact h.lT N hr
 have hsz:Q9 y=3+y.args.toNat+2*y.a8.toNat+y.code.length:=by rw[<-ic y s c (p.aJ.toNat:Int) 0];simp only[eN,MB,MD,gm,jW,MP];omega
 have hi0:j4 g.code g.aJ=some ⟨18,c,y.args,(p.aJ.toNat:Int),BY⟩:=by
  have:=bn 0 d9;simpa[eN] using this
 have hi1:j4 g.code (g.aJ+1)=some ⟨21,0,0,0,BY⟩:=by
  have:=bn 1 d9;simpa[eN] using this
 have hl0:=fZ hi0;have hl1:=fZ hi1;have hb0:=z;unfold P5 at z;rw[hb] at z;simp only[hi,A0,Mu h14] at z;obtain⟨x,cl,mm,k0,k1,hx,hcls,hmm,D⟩:=pU z;simp only at k1 hx hcls hmm;have f:P5 w aE (fun _ k s=>l7 w s k) (qF w S) a=if G9 a.heap x=c then some { a with fs:={ g with aJ:=g.aJ+1 }::G } else some { a with fs:=p::G }:=by
  unfold P5;rw[Z];simp only[hi0,A0];rw[Mt d9,Mt d9,Mt d9,Mt d9,Mu trivial];unfold lu;simp only;rw[o,Mu ⟨d9,d9⟩,show p.aA.length-1-y.args.toNat=p.aA.length-i.a.toNat-1 by omega,hx];simp only[A0];by_cases J:G9 a.heap x=c
  ·rw[Mu J,Mu J]
  ·rw[Mt J,Mt J,h.cls,h.iW];obtain⟨x2,e1,e2⟩:=h.aq;rw[e1];simp only[A0];rw[e2];simp only[A0];rw[Mu ⟨hms0,by have:=h.tk;have:=congrArg List.length this;simp only[Mk] at this;omega⟩];have:({ g with aJ:=(p.aJ.toNat:Int),aY:=false,code:=m.code,a8:=g.a8.take m.a8.toNat }:j3)=p:=by
    have e3:g.a8.take m.a8.toNat=p.a8:=by rw[show m.a8.toNat=p.a8.length by omega];exact h.tk
    rw[e3];obtain⟨c1,c2,c3,c4,c5,c6,c7,c8,c9⟩:=p;have q1:=h.cls;have q2:=h.iW;have q3:=h.bp;have q4:=h.bm;have q5:=h.self;have q6:=h.args;simp only at q1 q2 q3 q4 q5 q6 o h0⊢;simp only[q1,q2,q3,q4,q5,q6,o,j3.mk.injEq,true_and,and_true];omega
   simp only[h.cls,h.iW,o] at this⊢;rw[this]
 by_cases J:G9 a.heap x=c
 ·rw[Mu J] at f;have hcb:G9 b.heap x=c:=by rw[<-hS.heap];exact J
  have F:dB w aE (fun _ k s=>l7 w s k) (qF w S) a { a with fs:={ g with aJ:=g.aJ+1 }::G }:=nY n Z V f rfl rfl rfl (Nat.le_of_eq (rT hl0.2));have E:cE { g with aJ:=g.aJ+1 }:=⟨e.aA,e.code,e.num⟩;have d:P5 w aE (fun _ k s=>l7 w s k) (qF w S) { a with fs:={ g with aJ:=g.aJ+1 }::G }=some (iM aE { a with fs:={ g with aJ:=g.aJ+2 }::G }):=by
   unfold P5;simp only[hi1,A0];rw[Mt d9,Mt d9,Mt d9,Mt d9,Mt d9,Mu trivial,show g.aJ+1+1=g.aJ+2 by omega]
  have C:Z6 { g with aJ:=g.aJ+2 }+1<=Z6 { g with aJ:=g.aJ+1 }:=by
   unfold Z6;simp only;omega
  have hlen:=T.len;unfold lV at l;split at l
  ·cases l
  rename_i hf0;obtain⟨x3,e3,e4⟩:=M6 l;rw[hcb] at D;rcases D with⟨h2,_⟩|⟨_,hent⟩
  ·omega
  obtain⟨x4,m4,e5,e6,L⟩:=pH hent;rw[e3] at e5;cases e5;rw[e4] at e6;cases e6;have hdl:(p.aA.drop (p.aA.length-i.a.toNat)).length=i.a.toNat:=by rw[List.length_drop];omega
  rcases L with⟨k2,_⟩|⟨_,O,rfl⟩|⟨_,_,k4,_⟩|⟨_,O,_,k5,rfl⟩|⟨_,O,_,k5,rfl⟩
  ·simp only at k2;omega
  ·have R:iM aE { a with fs:={ g with aJ:=g.aJ+2 }::G }=V3 { a with fs:={ g with aJ:=g.aJ+2 }::G } 13:=by
    unfold iM;simp only at O;rw[Mu (by simp only;rw[hS.aH];exact O)]
   rw[R] at d;exact⟨_,F.trans (nY (a:={ a with fs:={ g with aJ:=g.aJ+1 }::G }) n rfl (u _ E) d rfl rfl rfl C),⟨hS.heap,hS.aH,hS.aO,hS.back,rfl⟩,fun hz=>by cases hz⟩
  ·exact absurd (d31 hlf) k4
  ·have R:iM aE { a with fs:={ g with aJ:=g.aJ+2 }::G }=V3 { a with fs:={ g with aJ:=g.aJ+2 }::G } 14:=by
    unfold iM;simp only[MB] at O k5;rw[Mt (by simp only;rw[hS.aH];omega),Mu (by simp only[MB];omega)]
   rw[R] at d;exact⟨_,F.trans (nY (a:={ a with fs:={ g with aJ:=g.aJ+1 }::G }) n rfl (u _ E) d rfl rfl rfl C),⟨hS.heap,hS.aH,hS.aO,hS.back,rfl⟩,fun hz=>by cases hz⟩
  ·simp only[MB] at O k5;have R:iM aE { a with fs:={ g with aJ:=g.aJ+2 }::G }={ a with fs:={ g with aJ:=g.aJ+2 }::G,aH:=a.aH+1 }:=by
    unfold iM;rw[Mt (by simp only;rw[hS.aH];omega),Mt (by simp only[MB];omega)]
   rw[R] at d;have st2:dB w aE (fun _ k s=>l7 w s k) (qF w S) { a with fs:={ g with aJ:=g.aJ+1 }::G } { a with fs:={ g with aJ:=g.aJ+2 }::G,aH:=a.aH+1 }:=by
    refine .step n l8 (u _ E) d ?_ (.refl _);have:=hS.aH;simp only[mu,ML,MT];omega
   have Y:p.aA=p.aA.take (p.aA.length-i.a.toNat-1)++(x::p.aA.drop (p.aA.length-i.a.toNat)):=by
    obtain⟨hxl,hxe⟩:=Lx.1 hx;have:=List.drop_eq_getElem_cons hxl;rw[hxe,show p.aA.length-i.a.toNat-1+1=p.aA.length-i.a.toNat by omega] at this;rw[<-this,List.take_append_drop]
   generalize hXd:p.aA.take (p.aA.length-i.a.toNat-1)=X at Y;generalize hAd:p.aA.drop (p.aA.length-i.a.toNat)=A at Y hdl;have hXl:X.length<=12:=by have:=congrArg List.length Y;simp only[MD,MB] at this;omega
   have hwk2:cE { g with aJ:=g.aJ+2 }:=⟨e.aA,e.code,e.num⟩;obtain⟨T1,t1,t2,t3,t4⟩:=DM (w:=w) (S:=S) (aE:=aE) (a:={ a with aH:=a.aH+1 }) (G:=G) n U (s:=s) d9 (X:=X) (y.args.toNat+1) (x::A) { g with aJ:=g.aJ+2 } (by simp only[MB];omega) (by simp only;rw[o];exact Y) bN (fun r hr=>by
    have:=bn (r+2) d9;simp only[eN,Mo,MO] at this;rw[Mh (by rw[gm];exact hr)] at this;rw[<-this];congr 1;simp only;omega) bN hwk2
   have hwk3:cE { g with aJ:=g.aJ+2+((y.args.toNat+1:Nat):Int),a8:=T1,aA:=X }:=⟨bN,e.code,fun v H hk=>e.num v (by rw[o,Y];exact List.mem_append_left _ H) hk⟩;obtain⟨T2,u1,u2,u3,u4⟩:=CP (w:=w) (S:=S) (aE:=aE) (a:={ a with aH:=a.aH+1 }) (G:=G) n U (b:=s+1+y.args) d9 y.a8.toNat 0 { g with aJ:=g.aJ+2+((y.args.toNat+1:Nat):Int),a8:=T1,aA:=X } bN (fun r hr=>by
    have:=bn (y.args.toNat+1+r+2) d9;simp only[eN,Mo,MO] at this;rw[MS (by rw[gm];omega),gm,show y.args.toNat+1+r-(y.args.toNat+1)=r by omega,Mh (by rw[jW];exact hr)] at this;rw[<-this];congr 1;simp only;omega) (by simp only at t2⊢;omega) hwk3 bN
   simp only at t2 t3 t4 u2 u3 u4;have hlo:∀j,j<s.toNat->T2[j]?=g.a8[j]?:=fun j M=>by rw[u3 j d9,t3 j d9]
   have K:∀j,j<s.toNat+1+y.args.toNat->T2[j]?=T1[j]?:=fun j M=>u3 j d9;refine⟨_,F.trans (st2.trans (t1.trans u1)),⟨hS.heap,by simp only;rw[hS.aH],hS.aO,hS.back,hS.err⟩,fun _=>?_⟩;rw[pW (fun _ _=>rfl)];refine .oL (q:=p.aJ.toNat) (m:=m) (y:=y) (s:=s) (c:=c) ⟨hS.heap,by simp only;rw[hS.aH],hS.aO,hS.back,hS.err⟩ rfl rfl T ⟨⟨h.aY,h.bp,h.cls,h.iW,h.self,h.args,h.aq,h.bm,h.codeF,bN,h.du,?_⟩,N,bN,rfl,rfl,MH _,?_,by simp only;rw[List.append_nil],hms,⟨d9,bN,ya.1,yt.1,bN,by simp only[List.length_replicate];omega,?_,fun j v H=>?_,fun j v H=>?_⟩,hlf⟩
   ·simp only;rw[<-h.tk];apply Mf;intro j;rw[Mm,Mm];by_cases M:j<p.a8.length
    ·have B:(List.take p.a8.length g.a8).length=p.a8.length:=(by rw[h.tk]);rw[B,Mu M,Mu M,hlo j d9]
    ·have B:(List.take p.a8.length g.a8).length=p.a8.length:=(by rw[h.tk]);rw[B,Mt M,Mt M]
   ·simp only[hl];omega
   ·simp only;rw[K _ d9];exact t4 0 x rfl
   ·simp only at H⊢;have hjl:=(Lx.1 H).1;rw[K _ d9,Mg,Nat.add_comm 1 j];exact t4 (j+1) v (by simpa using H)
   ·simp only at H⊢;obtain⟨hj1,hj2⟩:=Lx.1 H;rw[List.length_replicate] at hj1;rw[List.getElem_replicate] at hj2;subst hj2;have:=u4 j hj1;rw[<-this];congr 1;omega
 ·rw[Mt J] at f;have F:dB w aE (fun _ k s=>l7 w s k) (qF w S) a { a with fs:=p::G }:=nY n Z V f rfl rfl rfl (by
   have:=(h.dq W).2;unfold Z6;rw[h.bp,h.aY];simp only[Mc,if_false,if_true];omega)
  obtain⟨Q,q1,q2,q3⟩:=C0 (aE:=aE) W hL (a:={ a with fs:=p::G }) (S:=S) ⟨hS.heap,hS.aH,hS.aO,hS.back,hS.err⟩ rfl hb T (Ae W h.bp (by have:=(h.dq W).2;omega) hi (fun M=>d9)) he I (u p hpwk) hi d9 hb0;exact⟨Q,F.trans q1,q2,fun hz=>.out q2 (q3 hz)⟩
end
def Jn {s:Int} {y:Me} {f:Int} {i:Ins} (h:i.op<=13):¬(14<=(bd s y f i).op/\(bd s y f i).op<=18)/\(bd s y f i).op≠21:=by
 unfold bd
 (repeat' split)<;>simp only<;>omega
section
variable {w:Wd} {S:Int->Int->List Int} {aE:Int}
theorem qq.go {g h p:j3} {m y:Me} {q:Nat} {s c:Int} (X:qq w S g h p m y q s c) {T Tp A:List V} {to:Int} (b:0<=to) (d:u0 T s y h.aU h.args Tp) (a:T.length=g.a8.length) (e:∀n:Nat,(n:Int)<=s->T.take n=g.a8.take n) :
  qq w S { g with aJ:=((bO (bQ w S p.aK p.aN m).1 q+hl y:Nat):Int)+to,a8:=T,aA:=p.aA++A } { h with aJ:=to,a8:=Tp,aA:=A } p m y q s c:=by
 have F:=X.ff;have f:=F.du;have i:=X.ms;refine⟨⟨F.aY,F.bp,F.cls,F.iW,F.self,F.args,F.aq,F.bm,F.codeF,by simp only;rw[a];exact F.len,F.du,?_⟩,X.item,X.aJ,X.tb,X.bn,b,rfl,rfl,X.ms,d,X.leaf⟩;simp only;rw[e p.a8.length d9];exact F.tk
def L0 (W:cf w) (hL:eP w) {a b b':Cf} {g h p:j3} {G P:List j3} {m y:Me} {q:Nat} {s c:Int} (hS:ck a b) (x:a.fs=g::G) (hb:b.fs=h::p::P) (L:dv w S G P) (X:qq w S g h p m y q s c) (he:b.err=0) (I:dF w aE b)
  (d:P5 w aE (fun _ k s=>l7 w s k) cM b=some b'):∃K,dB w aE (fun _ k s=>l7 w s k) (qF w S) a K/\ck K b'/\(b'.err=0->CR w S K b'):=by
 have Q:a.err=0:=by rw[hS.err];exact he
 have M:=I.fs;rw[hb] at M;obtain⟨mh,hh,Fh⟩:=M.1;obtain⟨i,_,hi,C,hlt,hslen,_,h17,_,_⟩:=Fh.len;have hmy:mh.code=y.code:=by rw[<-Fh.code];exact X.bn
 rw[hmy] at C;rw[X.bn] at hlt;obtain⟨hy,_⟩:=uu w hL (S p.aK p.aN) m.code.length m.code 0 0 m.a8 y s c _ (MI X.item);have hop:=hy.op i C;have h14:i.op≠14:=d69 X.leaf i C;have ya:=hy.args;have yt:=hy.a8;have hh0:=X.jF;have hsz:Q9 y=hl y+y.code.length:=by rw[<-ic y s c (q:Int) 0];simp only[eN,MB,MD,gm,jW,MP,hl];omega
 generalize O:bO (bQ w S p.aK p.aN m).1 q+hl y=B at *;have hgat:g.aJ=(B:Int)+h.aJ:=by have:=X.ah;rw[O] at this;exact this
 have z:j4 g.code g.aJ=some (bd s y (B:Int) i):=by
  have e1:=X.ff.lT X.item (r:=hl y+h.aJ.toNat) d9;have e2:((bO (bQ w S p.aK p.aN m).1 q+(hl y+h.aJ.toNat):Nat):Int)=g.aJ:=d9;rw[e2,d51 d9,O] at e1;rw[e1];obtain⟨_,e3⟩:=l6 hi;rw[X.bn] at e3;rw[e3];rfl
 have hgl:=fZ z;have hclen:=(X.ff.dq W).1;have hpk:∀u∈p.aA,u.k=3->gM u.n:=fun u hu hk=>by
  obtain⟨mp,hp,Fp⟩:=M.2 p l8;exact(Fp.al u hu).num hk
 have hps:p.aA.length<=12:=by
  obtain⟨mp,hp,Fp⟩:=M.2 p l8;obtain⟨_,_,_,_,_,k,_⟩:=Fp.len;omega
 have R:cE g:=⟨by rw[X.aA,MD];omega,d9,fun v E hk=>by
  rw[X.aA] at E;rcases MN.1 E with E|E
  ·exact hpk v E hk
  ·exact(Fh.al v E).num hk⟩
 have hWa:Wk w (qF w S) a:=by
  have hl:=I.fl;rw[hb,MB,MB] at hl;have h1:=I.aH;have h2:=hS.aH;refine E2 (N:=0) W hL I hS.heap d9 hS.aO (by rw[x];simp only[MB,L.len];omega) fun f hf=>?_;rw[x] at hf;rcases Ly.1 hf with rfl|hf
  ·exact R
  ·exact L.wk W (fun r hr=>⟨1,M.2 r (by simp[hr])⟩) f hf
 have Y:Z6 { g with aJ:=g.aJ+1 }+1=Z6 g:=rT hgl.2;have step:∀K,P5 w aE (fun _ k s=>l7 w s k) (qF w S) a=some K->mu aE K<mu aE a->dB w aE (fun _ k s=>l7 w s k) (qF w S) a K:=fun K h1 h2=>.step Q (by rw[x];simp) hWa h1 h2 (.refl _);unfold P5 at d;rw[hb] at d;simp only[hi,A0] at d;have D:∀n:Nat,(n:Int)<=s->g.a8.take n=g.a8.take n:=fun _ _=>rfl;have Z:∀(A:List V) (to:Int),0<=to ->
   ck (cW a { g with aJ:=g.aJ+1,aA:=p.aA++A } G ((B:Int)+to)) (cW b { h with aJ:=h.aJ+1,aA:=A } (p::P) to)/\CR w S (cW a { g with aJ:=g.aJ+1,aA:=p.aA++A } G ((B:Int)+to)) (cW b { h with aJ:=h.aJ+1,aA:=A } (p::P) to) /\
   mu aE (cW a { g with aJ:=g.aJ+1,aA:=p.aA++A } G ((B:Int)+to))<mu aE a:=by
  intro A to h0;have ht:=I.aO;have j:=X.go (T:=g.a8) (Tp:=h.a8) (A:=A) h0 X.a8 rfl D;rw[O] at j;unfold cW;simp only;by_cases hc:to<h.aJ+1
  ·rw[Mu d9,Mu hc];have l:ck ({ a with aO:=a.aO+1,fs:={ g with aJ:=(B:Int)+to,aA:=p.aA++A }::G,err:=if 300<a.aO+1 then 16 else a.err }:Cf) { b with aO:=b.aO+1,fs:={ h with aJ:=to,aA:=A }::p::P,err:=if 300<b.aO+1 then 16 else b.err }:=⟨hS.heap,hS.aH,by simp only;rw[hS.aO],hS.back,by simp only;rw[hS.aO,hS.err]⟩;refine⟨l,.oL l rfl rfl L j,?_⟩;have:=hS.aO;have e1:Z6 { g with aJ:=(B:Int)+to,aA:=p.aA++A }<=Z6 g+240:=by
    unfold Z6;simp only;omega
   simp only[mu,x,ML,MT];omega
  ·rw[Mt d9,Mt hc];have l:ck ({ a with fs:={ g with aJ:=(B:Int)+to,aA:=p.aA++A }::G }:Cf) { b with fs:={ h with aJ:=to,aA:=A }::p::P }:=⟨hS.heap,hS.aH,hS.aO,hS.back,hS.err⟩;refine⟨l,.oL l rfl rfl L j,?_⟩;have e1:Z6 { g with aJ:=(B:Int)+to,aA:=p.aA++A }+1<=Z6 g:=by
    unfold Z6;simp only;omega
   simp only[mu,x,ML,MT];omega
 rw[Mt h14] at d;by_cases H:i.op=15
 ·rw[Mu H] at d;cases d;have j0:=(hy.jump i C (.inl H)).1;obtain⟨q1,q2,q3⟩:=Z h.aA i.a j0;have ah:P5 w aE (fun _ k s=>l7 w s k) (qF w S) a=some (cW a { g with aJ:=g.aJ+1,aA:=p.aA++h.aA } G ((B:Int)+i.a)):=by
   unfold P5;rw[x];simp only[z,A0];have e:bd s y (B:Int) i=⟨15,(B:Int)+i.a,0,0,BY⟩:=by unfold bd;simp[H]
   simp only[e];rw[Mt d9,Mu trivial];congr 2;rw[<-X.aA]
  exact⟨_,step _ ah q3,q1,fun _=>q2⟩
 rw[Mt H] at d;by_cases J:i.op=16
 ·rw[Mu J,ME] at d;obtain⟨⟨v,f2⟩,E,rfl⟩:=d;obtain⟨o,hv2⟩:=ig E;simp only at o hv2;subst hv2;obtain⟨e1,e2⟩:=sF (a:=p.aA) o;have ah:P5 w aE (fun _ k s=>l7 w s k) (qF w S) a=some (kT a G ⟨16,(B:Int)+i.a,0,0,BY⟩ (v,{ g with aJ:=g.aJ+1,aA:=p.aA++h.aA.dropLast })):=by
   unfold P5;rw[x];simp only[z,A0];have e:bd s y (B:Int) i=⟨16,(B:Int)+i.a,0,0,BY⟩:=by unfold bd;simp[J]
   simp only[e];rw[Mt d9,Mt d9,Mu trivial,yP (f:={ g with aJ:=g.aJ+1 }) (v:=v) (by simp only;rw[X.aA];exact e1)];simp only[MW,X.aA,e2]
  have j0:=(hy.jump i C (.inr J)).1;unfold kT at ah⊢;simp only at ah⊢;by_cases k1:v.k=1
  ·rw[Mu k1] at ah⊢;obtain⟨q1,q2,q3⟩:=Z h.aA.dropLast i.a j0;exact⟨_,step _ ah q3,q1,fun _=>q2⟩
  ·rw[Mt k1] at ah⊢;have hm:mu aE { a with fs:={ g with aJ:=g.aJ+1,aA:=p.aA++h.aA.dropLast }::G }<mu aE a:=by
    have e0:Z6 { g with aJ:=g.aJ+1,aA:=p.aA++h.aA.dropLast }+1=Z6 g:=Y;simp only[mu,x,ML,MT];omega
   by_cases k2:v.k=2
   ·rw[Mu k2] at ah⊢;have l:ck ({ a with fs:={ g with aJ:=g.aJ+1,aA:=p.aA++h.aA.dropLast }::G }:Cf) { b with fs:={ h with aJ:=h.aJ+1,aA:=h.aA.dropLast }::p::P }:=⟨hS.heap,hS.aH,hS.aO,hS.back,hS.err⟩;have j:=X.go (T:=g.a8) (Tp:=h.a8) (A:=h.aA.dropLast) (to:=h.aJ+1) d9 X.a8 rfl D;rw[O,show(B:Int)+(h.aJ+1)=g.aJ+1 by omega] at j;exact⟨_,step _ ah hm,l,fun _=>.oL l rfl rfl L j⟩
   ·rw[Mt k2] at ah⊢;exact⟨_,step _ ah hm,⟨hS.heap,hS.aH,hS.aO,hS.back,rfl⟩,fun e=>by cases e⟩
 rw[Mt J] at d;by_cases t:i.op=17
 ·rw[Mu t,ME] at d;obtain⟨⟨v,f2⟩,E,rfl⟩:=d;obtain⟨o,_⟩:=ig E;simp only at o;have U:h.aA=[v]:=by
   have:=h17 t
   match l:h.aA with
   |[]=>rw[l] at this;simp at this
   |[u]=>rw[l] at o;simp at o;rw[o]
   |_::_::_=>rw[l] at this;simp at this
  have ah:P5 w aE (fun _ k s=>l7 w s k) (qF w S) a=some { a with fs:={ g with aJ:=(B:Int)+y.code.length }::G }:=by
   unfold P5;rw[x];simp only[z,A0];have e:bd s y (B:Int) i=⟨15,(B:Int)+y.code.length,0,0,BY⟩:=by unfold bd;simp[t]
   simp only[e];rw[Mt d9,Mu trivial];unfold cW;simp only;rw[Mt d9]
  have l:ck ({ a with fs:={ g with aJ:=(B:Int)+y.code.length }::G }:Cf) (dL { b with fs:=p::P } v):=⟨hS.heap,hS.aH,hS.aO,hS.back,hS.err⟩;refine⟨_,step _ ah ?_,l,fun _=>.out l ?_⟩
  ·have e0:Z6 { g with aJ:=(B:Int)+y.code.length }+1<=Z6 g:=by
    unfold Z6;simp only;omega
   simp only[mu,x,ML,MT];omega
  ·have F:=X.ff;have hpa:=X.aJ;refine .cons (.aY (m:=m) ⟨F.aY,F.bp,F.cls,F.iW,F.self,F.args,F.aq,F.bm,F.codeF,F.len,F.du,F.tk⟩ ?_ (by simp only[cJ];omega) ?_) L
   ·simp only[cJ];rw[X.aA,U]
   ·simp only[cJ];rw[hpa,show((q:Int)+1).toNat=q+1 by omega,yI X.item];simp only[O0.len];omega
 rw[Mt t,Mt d9,Mt d9,va w b he,ME] at d;obtain⟨r,hr,rfl⟩:=d;simp only at hr;obtain⟨T',t1,t2,t3,t4⟩:=Kh (gs:=g.aU) (gargs:=g.args) (base:=p.aA) (f:=(B:Int)) X.a8 d9 hop.1 hr;obtain⟨o1,o2⟩:=Jn (s:=s) (y:=y) (f:=(B:Int)) (i:=i) d9;rw[<-X.aA,<-hS.heap] at t1;have ah:=vX (aE:=aE) (w:=w) Q x z o1 o2 t1 (fun _ k s=>l7 w s k) (qF w S);have l:ck (iX a { g with aJ:=g.aJ+1 } G (r.1,T',p.aA++r.2.2.1,r.2.2.2)) (iX b { h with aJ:=h.aJ+1 } (p::P) r):=⟨rfl,hS.aH,hS.aO,hS.back,rfl⟩;refine⟨_,step _ ah ?_,l,fun _=>?_⟩
 ·have e0:Z6 { g with aJ:=g.aJ+1,a8:=T',aA:=p.aA++r.2.2.1 }+1=Z6 g:=Y;simp only[mu,iX,x,ML,MT];omega
 ·have j:=X.go (A:=r.2.2.1) (to:=h.aJ+1) d9 t2 t3 t4;rw[O,show(B:Int)+(h.aJ+1)=g.aJ+1 by omega] at j;exact .oL l rfl rfl L j
end
section
variable {w:Wd} {S:Int->Int->List Int} {aE:Int}
def Iz (W:cf w) (v:eP w) {a b q:Cf} (h:CR w S a b) (J:b.err=0) (I:dF w aE b) (d:P5 w aE (fun _ k s=>l7 w s k) cM b=some q) :
  ∃e,dB w aE (fun _ k s=>l7 w s k) (qF w S) a e/\ck e q/\(q.err=0->CR w S e q):=by
 cases h with
 |oL hS u f r X=>exact L0 W v hS u f r X J I d
 |out hS r =>
  cases f:b.fs with
  |nil=>unfold P5 at d;rw[f] at d;cases d
  |cons p P =>
   rw[f] at r;cases u:a.fs with
   |nil=>rw[u] at r;cases r
   |cons g G =>
    rw[u] at r;have B:=I.fs;rw[f] at B;obtain⟨mp,hh,x⟩:=B.1;obtain⟨i,_,hi,K,_,Q,_,_,_,_⟩:=x.len;have Y:=yH (x.me.num i K);have n:i.op=15\/i.op=16->0<=i.a/\i.a<mp.code.length:=fun h=>d9;have z:i.op<=17:=d9;have V:=x.me.len;have hl:=I.fl;rw[f,MB] at hl;cases r with
    |cons U D =>
     have F:∀T,cE T->Wk w (qF w S) { a with fs:=T::G }:=yn W v hS f D I (.inl rfl);have E:Wk w (qF w S) a:=by
      have:=F g (U.wk W B.1);rw[<-u] at this;exact this
     have done:vj w S g p (match j4 g.code g.aJ with|some j=>j|none=>i) i->∃e,dB w aE (fun _ k s=>l7 w s k) (qF w S) a e/\ck e q/\(q.err=0->CR w S e q):=fun R=>by
      obtain⟨e,q1,Z,q3⟩:=C0 W v hS u f D R J I E hi z d;exact⟨e,q1,Z,fun hz=>.out Z (q3 hz)⟩
     cases U with
     |same hs =>
      refine done ?_;rw[hi];exact Ae W hs (by rw[x.code];omega) hi (fun L=>(n L).1)
     |@aY _ m l o C ah =>
      rcases l.item v C hi with O|⟨y,t,c,sz,H,M,N,A⟩
      ·have R:=d78 W v l o C ah hi O (fun L=>by
        have:=n L;rw[<-x.code,l.bm] at this;exact this)
       refine done ?_;rw[R.aJ];exact R
      ·exact IW W v hS u f D l o C ah J I hi H N M A d
def JO (W:cf w) (o:0<w.a7.length) (y:eP w) {b c:Cf} (z:Path w aE (fun _ k s=>l7 w s k) cM b c) (v:c.done):∀{a:Cf},ck a b->(b.err=0->CR w S a b)->(b.err=0->dF w aE b) ->
  ∃i,dB w aE (fun _ k s=>l7 w s k) (qF w S) a i/\ck i c/\i.done:=by
 induction z with
 |refl c =>
  intro a hS n _;refine⟨a,.refl _,hS,?_⟩;by_cases e:c.err=0
  ·have d:c.fs=[]:=v.resolve_left (fun h=>h e);cases n e with
   |out _ l =>
    rw[d] at l;cases t:a.fs with
    |nil=>exact .inr t
    |cons g G=>rw[t] at l;cases l
   |oL _ _ u=>rw[d] at u;cases u
  ·exact .inl (by rw[hS.err];exact e)
 |@step b q c e p j _ ih =>
  intro a hS n r;obtain⟨J,B,C,D⟩:=Iz W y (n e) e (r e) j;have m:q.err=0->dF w aE q:=by
   cases d:b.fs with
   |nil=>exact absurd d p
   |cons f F =>
    obtain⟨K,x,A⟩:=re (Q:=cM) W o (fun _ _=>rfl) (r e) e d;rw[j] at x;cases x;exact A.inv
  obtain⟨i,E,H,I⟩:=ih v C D m;exact⟨i,B.trans E,H,I⟩
def ID (W:cf w) (m:eP w) (c:O8) (d:aE<=400) {i:Cf} (h:gL w aE cM c=some i):∃g,gL w aE (qF w S) c=some g/\ck g i/\dv w S g.fs i.fs/\mu aE g<1048576:=by
 unfold gL at h⊢;by_cases o:(l7 w c.name (G9 w.heap c.aU)).2<0
 ·rw[Mu o] at h⊢;cases h;exact⟨_,rfl,⟨rfl,rfl,rfl,rfl,rfl⟩,.nil,ld d (MH _) (MH _) (by simp[V3,cg])⟩
 ·rw[Mt o] at h⊢;obtain⟨g,q,u,x⟩:=CQ (S:=S) (a:=cg w) W m ⟨rfl,rfl,rfl,rfl,rfl⟩ .nil h;refine⟨g,q,u,x,?_⟩;obtain⟨r,l,f,e,k⟩:=pH q;rcases k with⟨_,rfl⟩|⟨_,_,rfl⟩|⟨_,_,_,v,_,k⟩|⟨_,_,_,_,rfl⟩|⟨_,_,_,_,rfl⟩
  ·exact ld d (MH _) (MH _) (by simp[V3,cg])
  ·exact ld d (MH _) (MH _) (by simp[V3,cg])
  ·rcases k with⟨_,rfl⟩|⟨_,rfl⟩
   ·exact ld d (by simp[V3,cg]) (MH _) (by simp[V3,cg])
   ·rw[su];exact ld d (by simp[cg]) (MH _) (by simp[cg])
  ·exact ld d (MH _) (MH _) (by simp[V3,cg])
  ·refine ld d (by simp[cg]) (MH _) ?_;have b:=yC (S:=S) W m f e (W.a8 r (eJ f) l (eJ e)).1 c.aU c.args;have n:=W.code r (eJ f) l (eJ e);simp only[cg,ML,List.map_nil,MT,List.sum_nil];generalize t:fq (qF w S) (l7 w c.name (G9 w.heap c.aU)).1 (l7 w c.name (G9 w.heap c.aU)).2 l c.aU c.args=p at b⊢;have jF:p.aJ=0:=by rw[<-t];unfold fq;split<;>rfl
   unfold Z6;rw[jF];have s:p.code.length<=240:=by
    cases b with
    |same y=>rw[pW (fun _ _=>rfl)];simp only;omega
    |aY j=>exact(j.dq W).1
   split<;>omega
def KN {N:Nat} {gl:St->Int->ByteArray->Option (Int×Int)} {gq:Int->Int->Option (Fs×Bool)} (e:4194304<=N) (d:D6 w) (b:I5 N w)
  (f:∀s k n,gl s k n=some (l7 w n k)) (o:∀k j x m,j4 w.a7 k=some x->j4 x.aC j=some m->gq k j=some (qF w S k j)) (c:O8):∃r,iL N w c aE gl gq=some r/\iS w c aE cM r:=by
 by_cases a:M4 w c aE=0
 ·have W:=b.oZ e d;have i:=Cx e d b;have l:0<w.a7.length:=by have:=b.many.1;omega
  obtain⟨h1,h2,h3,H,h5,h6⟩:=qz a;obtain⟨D,h,b2,b3,b4,b5,C⟩:=vN (Q:=cM) e d b (fun _ _=>rfl) c a;obtain⟨s,s1,X⟩:=Bn (aE:=aE) (Q:=cM) (gl:=gl) (gq:=fun _ _=>some (cM 0 0)) e d b (fun _ _=>rfl) f (fun k j x m _ _=>rfl) c;rcases X with⟨M,_⟩|⟨_,d1,c',e1,q,t,e4⟩
  ·exact absurd a M
  ·rw[h] at e1;cases e1;obtain⟨B,T,u,U,V⟩:=ID (S:=S) W i c H h;obtain⟨A,v,g,z⟩:=JO W l i q t u (fun _=>.out u U) C;obtain⟨Z,O,P,p3,R⟩:=DZ (L:=fun _ k s=>l7 w s k) (Q:=qF w S) e d b.cy f o (fun x=>∃y,dB w aE (fun _ k s=>l7 w s k) (qF w S) x y/\y.done) (fun x J I p=>by
    obtain⟨y,K,hd⟩:=J;cases K with
    |refl=>rcases hd with hd|hd;exact absurd I hd;exact absurd hd p
    |@step _ Y _ _ _ g1 E F G=>exact⟨g1,Y,E,F,fun _=>⟨y,G,hd⟩⟩) W.a8 (DF (N:=N) W i) c a B T (fun _=>⟨A,v,z⟩) V
   have:=Path.oD O P v.path z;subst this;refine⟨_,R,.inr ⟨a,D,c',h,q,t,?_⟩⟩;unfold hF;rw[g.err,g.heap,g.back,g.aH]
 ·exact⟨_,AX d c a,.inl ⟨a,rfl⟩⟩
end
def d75 (w:Wd) (S:Int->Int->List Int) (l:List Fs):Prop:=∀f∈l,∃(c j:Nat) (x:Cl) (m:Me),w.a7[c]?=some x/\x.aC[j]?=some m/\(qF w S c j).2=true/\f=(qF w S c j).1
def xl {w:Wd} {S:Int->Int->List Int} {k j:Int} {x:Cl} {m:Me} (c:j4 w.a7 k=some x) (b:j4 x.aC j=some m) (h:(qF w S k j).2=true):(qF w S k j).1.cls=k/\(qF w S k j).1.name=m.name/\(qF w S k j).1.aB=w.aB:=by
 rw[vg c b] at h⊢;split at h
 ·rename_i a;rw[Mu a];exact⟨rfl,rfl,rfl⟩
 ·cases h
def Ke {w:Wd} {S:Int->Int->List Int} {k j:Int} {x:Cl} {m:Me} (c:j4 w.a7 k=some x) (b:j4 x.aC j=some m) (h:(qF w S k j).2=false):qF w S k j=(⟨0,BY,0,0,[]⟩,false):=by
 rw[vg c b] at h⊢;split at h
 ·cases h
 ·rename_i a;rw[Mt a]
def Jl {ms:List Me} (h:dP ms) {i j:Nat} {a b:Me} (g:ms[i]?=some a) (k:ms[j]?=some b) (d:a.name=b.name):i=j:=by
 obtain⟨hi,rfl⟩:=Lx.1 g;obtain⟨e,rfl⟩:=Lx.1 k;have f:=List.pairwise_iff_getElem.1 h;rcases Nat.lt_trichotomy i j with c|c|c
 ·have:=f i j hi e c;rw[d,jh] at this;cases this
 ·exact c
 ·have:=f j i e hi c;rw[d,jh] at this;cases this
theorem d75.one {w:Wd} {S:Int->Int->List Int} {l:List Fs} (t:dX w) (h:d75 w S l) {k j:Int} {x:Cl} {m:Me} (e:j4 w.a7 k=some x) (s:j4 x.aC j=some m) {f:Fs} (q:f∈l) (d:f.cls=k) (p:f.name=m.name):qF w S k j=(f,true):=by
 obtain⟨c,i,y,n,e1,a,b,rfl⟩:=h f q;obtain⟨g,o,v⟩:=xl (k:=(c:Int)) (j:=(i:Int)) (by rw[D9];exact e1) (by rw[D9];exact a) b;rw[g] at d;subst d;rw[D9,e1] at e;cases e;obtain⟨z,u⟩:=l6 s;have:=Jl (t x (MI e1)) a u (by rw[<-o,p]);have r:j=(i:Int):=d9;rw[r,<-b]
theorem Cc {N:Nat} {w:Wd} {t:List Tl} {c:Nat}:∀(r:List Me) (k:Nat) (f:Fs),f∈ct N w t c r k↔∃(i:Nat) (m:Me),r[i]?=some m/\(qF w (gK N w t) c ((k+i:Nat):Int)).2=true/\f=(qF w (gK N w t) c ((k+i:Nat):Int)).1
 |[],k,f=>by simp[ct]
 |x::r,k,f=>by
  rw[ct,MN,Cc r (k+1) f];constructor
  ·rintro(h|⟨i,m,d,a,b⟩)
   ·unfold nn at h;split at h
    ·rename_i g;exact⟨0,x,rfl,g,MY.1 h⟩
    ·cases h
   ·exact⟨i+1,m,by simpa using d,by rw[show k+(i+1)=k+1+i by omega];exact a,by rw[show k+(i+1)=k+1+i by omega];exact b⟩
  ·rintro⟨i,m,d,a,b⟩;cases i with
   |zero =>
    left;have e:(jm w (c:Int) (k:Int) (gK N w t c k)).2=true:=a;unfold nn;rw[Mu e];exact MY.2 b
   |succ i=>exact .inr ⟨i,m,by simpa using d,by rw[show k+1+i=k+(i+1) by omega];exact a,by rw[show k+1+i=k+(i+1) by omega];exact b⟩
theorem yA {N:Nat} {w:Wd} {t:List Tl}:∀(r:List Cl) (c:Nat) (f:Fs),f∈hB N w t r c↔∃(k:Nat) (x:Cl) (i:Nat) (m:Me),r[k]?=some x/\x.aC[i]?=some m/\(qF w (gK N w t) ((c+k:Nat):Int) i).2=true/\f=(qF w (gK N w t) ((c+k:Nat):Int) i).1
 |[],c,f=>by simp[hB]
 |x::r,c,f=>by
  rw[hB,MN,Cc,yA r (c+1) f];constructor
  ·rintro(⟨i,m,d,a,b⟩|⟨k,y,i,m,e,d,a,b⟩)
   ·rw[MZ] at a b;exact⟨0,x,i,m,rfl,d,a,b⟩
   ·exact⟨k+1,y,i,m,by simpa using e,d,by rw[show c+(k+1)=c+1+k by omega];exact a,by rw[show c+(k+1)=c+1+k by omega];exact b⟩
  ·rintro⟨k,y,i,m,e,d,a,b⟩;cases k with
   |zero =>
    left;cases e;exact⟨i,m,d,by rw[MZ];exact a,by rw[MZ];exact b⟩
   |succ k=>exact .inr ⟨k,y,i,m,by simpa using e,d,by rw[show c+1+k=c+(k+1) by omega];exact a,by rw[show c+1+k=c+(k+1) by omega];exact b⟩
def IA (N:Nat) (w:Wd) (t:List Tl):d75 w (gK N w t) (hB N w t w.a7 0):=fun f e=>by
 obtain⟨k,x,i,m,c,d,a,b⟩:=(yA w.a7 0 f).1 e;rw[MZ] at a b;exact⟨k,i,x,m,c,d,a,b⟩
theorem za {N:Nat} {w:Wd} {S:Int->Int->List Int} (r:dX w) {k j:Int} {x:Cl} {m:Me} (n:j4 w.a7 k=some x) (d:j4 x.aC j=some m):∀(l:List Fs) (i:Nat),d75 w S l ->
  lE N k j w l i=some (.ret (qF w S k j))\/(lE N k j w l i=some (.next ())/\∀f∈l,¬(f.cls=k/\f.name=m.name))
 |[],i,_=>.inr ⟨rfl,fun f s=>by cases s⟩
 |f::l,i,h=>by
  have ih:=za (N:=N) r n d l (i+1) fun g a=>h g (by simp[a]);rw[lE];by_cases b:f.cls=k
  ·rw[My b];simp only[Mr,n,d,A0];by_cases c:f.name=m.name
   ·have e:=h.one r n d l8 b c;obtain⟨t,u,o⟩:=xl n d (by rw[e]);rw[e] at o;simp only at o;rw[My c,My o];left;rw[e];rfl
   ·rw[Mx c];rcases ih with ih|⟨ih,q⟩
    ·exact .inl ih
    ·exact .inr ⟨ih,fun g a=>by
      rcases Ly.1 a with rfl|a
      ·exact fun p=>c p.2
      ·exact q g a⟩
  ·rw[Mx b];rcases ih with ih|⟨ih,q⟩
   ·exact .inl ih
   ·exact .inr ⟨ih,fun g a=>by
     rcases Ly.1 a with rfl|a
     ·exact fun p=>b p.1
     ·exact q g a⟩
def Gz {N:Nat} {w:Wd} {t:List Tl} (l:dX w) {k j:Int} {x:Cl} {m:Me} (b:j4 w.a7 k=some x) (a:j4 x.aC j=some m):pG N k j (hB N w t w.a7 0) w=some (qF w (gK N w t) k j):=by
 unfold pG;rcases za (N:=N) l b a (hB N w t w.a7 0) 0 (IA N w t) with h|⟨h,i⟩
 ·rw[h];rfl
 ·rw[h];cases c:(qF w (gK N w t) k j).2 with
  |false=>rw[Ke b a c];rfl
  |true =>
   obtain⟨f,g,_⟩:=xl b a c;obtain⟨e,o⟩:=l6 b;obtain⟨d,n⟩:=l6 a;refine absurd ⟨f,g⟩ (i _ ((yA w.a7 0 _).2 ⟨k.toNat,x,j.toNat,m,o,n,?_,?_⟩))
   ·rw[MZ,Int.toNat_of_nonneg e,Int.toNat_of_nonneg d];exact c
   ·rw[MZ,Int.toNat_of_nonneg e,Int.toNat_of_nonneg d]
theorem cj.heap {w:Wd} {H:List Ob} {l:List Ce} (h:cj w l):cj ⟨w.a7,H,w.aB⟩ l:=by
 intro c e f y g;obtain⟨n,a,b,d⟩:=h c e f y g;exact⟨n,a,by rw[Ab];exact b,by rw[Ab];exact d⟩
structure SI (N:Nat) (E:Int) (z:Nat) (s:K7):Prop where
 right:I5 N s.world
 small:D6 s.world
 ep:s.world.aB<=E
 cells:cj s.world s.cells
 jD:∀c∈s.cells,c.aB<=s.world.aB
 sz:jy z ⟨⟨[],[],0⟩,⟨⟨0,0⟩,0,0⟩,s.cells,s.aa,0,0⟩
 saved:s.saved=[]\/∃w0,I5 N w0/\D6 w0/\w0.aB<=E/\s.saved=U (cH w0)
section
variable {N:Nat} {E:Int} {z:Nat} {s:K7}
theorem SI.more (h:SI N E z s) {g:Int} {i:Nat} (k:E<=g) (e:z<=i):SI N g i s :=
 ⟨h.right,h.small,by have:=h.ep;omega,h.cells,h.jD,⟨Nat.le_trans h.sz.1 e,fun x f=>Nat.le_trans (h.sz.2.1 x f) e,Nat.le_trans h.sz.2.2.1 e,fun x f=>Nat.le_trans (h.sz.2.2.2 x f) e⟩,
  h.saved.imp id fun⟨j,a,b,c,d⟩=>⟨j,a,b,d9,d⟩⟩
theorem SI.len (c:4194304<=N) (h:SI N E z s):s.saved.length<=1000000:=by
 rcases h.saved with e|⟨d,a,b,_,e⟩
 ·rw[e];simp
 ·rw[e,fH];exact(Bm c b a).2
def Ku (a:4194304<=N) (h:SI N E z s) (d:z<=1099511627000):pC N s=some s:=by
 have hl:=h.len a;unfold pC wU;rw[ib N _ h.small,wg N ⟨by have:=h.sz.1;simp only at this;omega,fun x c=>by have:=h.sz.2.1 x c;omega⟩,BO N (fun t b=>by have:=h.sz.2.2.2 t b;omega) (by have:=h.sz.2.2.1;simp only at this;omega),
  show IN (s.saved.length*1) 140737488355328=true from Nat.ble_eq_true_of_le d9]
 rfl
def C3 {w:Wd} (f:4194304<=N) (e:D6 w) (a:I5 N w) {c:O8} {q:Wd×e8} (h:iS w c 400 cM q):I5 N q.1/\D6 q.1/\(∀l,cj w l->cj q.1 l)/\q.1.aB=w.aB/\(q.2.err≠0->q.1=w):=by
 obtain⟨f1,g⟩:=Ia f e a h;by_cases b:q.2.err=0
 ·obtain⟨_,_,_,_,i,e1,_⟩:=f1 b;have:=a.other f e i a.aB;rw[e1];exact⟨this.1,this.2,fun l hl=>hl.heap,rfl,fun d=>absurd b d⟩
 ·rw[(g b).1];exact⟨a,e,fun l hl=>hl,rfl,fun _=>rfl⟩
theorem CZ {w:Wd}:∀{ev:List (St×Int)} {sb:D5},(∀c∈sb.cells,c.aB<=w.aB)->∀c∈(ev.foldl (iP w) sb).cells,c.aB<=w.aB
 |[],_,h=>h
 |e::ev,sb,h=>by
  rw[List.foldl_cons];refine CZ fun c a=>?_;simp only[iP,iH] at a;split at a
  ·exact h c a
  split at a
  ·exact h c a
  ·rcases vL a with a|⟨y,_,_,rfl⟩
   ·exact h c a
   ·rw[(CA _ _ _ _).2];exact MH _
def KB (o:4194304<=N) (h:SI N E z s) (R:z<=1099511627000) {k:Int} (O:k=4\/k=5\/k=6) (c:O8):∃t q,ri N s k c=some (⟨q.2.err,q.2.aH,q.2.value⟩,t)/\iS s.world c 400 cM q/\t.world=q.1/\t.saved=s.saved/\SI N E (z+401) t/\(k≠5->t.cells=s.cells/\t.aa=s.aa):=by
 have a:=h.right;have i:=h.small;have d:∀{q:Wd×e8} {l:List Ce} {ts:List Tl},iS s.world c 400 cM q->cj s.world l->(∀c∈l,c.aB<=s.world.aB)->jy (z+401) ⟨⟨[],[],0⟩,⟨⟨0,0⟩,0,0⟩,l,ts,0,0⟩->SI N E (z+401) ⟨q.1,l,ts,s.saved⟩:=fun {q l ts} y J K L=>by
  obtain⟨G,H,I,C,_⟩:=C3 o i a y;exact⟨G,H,by simp only;rw[C];exact h.ep,I _ J,fun c M=>by simp only;rw[C];exact K c M,L,h.saved⟩
 have p:=(h.more (MH _) (Nat.le_add_right z 401)).sz;unfold ri;rcases O with rfl|rfl|rfl
 ·obtain⟨q,u,b⟩:=H2 o i a c 400;refine⟨⟨q.1,s.cells,s.aa,s.saved⟩,q,?_,b,rfl,rfl,d b h.cells h.jD p,fun _=>⟨rfl,rfl⟩⟩;simp only[Mv,Mr,u,A0]
 ·obtain⟨q,ev,sb,u,b,A,Q,T⟩:=IE o i a c (aE:=400) s.cells s.aa _ h.sz d9 h.cells;obtain⟨v,D⟩:=xn a.cy Q h.sz h.cells;have F:=CZ (w:=s.world) (ev:=ev) (sb:=⟨⟨[],[],0⟩,⟨⟨0,0⟩,0,0⟩,s.cells,s.aa,0,0⟩) h.jD;rw[<-A] at v D F;refine⟨⟨q.1,sb.cells,sb.aa,s.saved⟩,q,?_,b.ez,rfl,rfl,d b.ez D F ⟨by have:=v.1;simp only;omega,fun x r=>by have:=v.2.1 x r;omega,by have:=v.2.2.1;simp only;omega,fun x r=>by have:=v.2.2.2 x r;omega⟩,fun e=>absurd rfl e⟩;rw[Mx (show¬(5:Int)=4 by decide)];simp only[Mv,Mr,Ms,u,A0]
 ·obtain⟨q,u,b⟩:=KN (aE:=400) (S:=gK N s.world s.aa) (gl:=fun f g B=>pO N f g B s.world) (gq:=fun f g=>pG N f g (hB N s.world s.aa s.world.a7 0) s.world) o i a (fun st k n=>by
   show pO N st k n s.world=_;unfold pO;rw[lI N s.world k n d9 a.cy i];rfl) (fun k j x m r P=>Gz a.cy r P) c
  have y:rU N s.world c 400 (hB N s.world s.aa s.world.a7 0)=some q:=by
   unfold rU;rw[u];rfl
  refine⟨⟨q.1,s.cells,s.aa,s.saved⟩,q,?_,b,rfl,rfl,d b h.cells h.jD p,fun _=>⟨rfl,rfl⟩⟩;rw[Mx (show¬(6:Int)=4 by decide),Mx (show¬(6:Int)=5 by decide)];simp only[Ms,Hb N o s.world i a s.aa,y,A0]
end
def IV {w w':Wd} (l:∀(j:Nat) x,w.a7[j]?=some x->w'.a7[j]?=some x) (d:∀(j:Nat) x,w.a7[j]?=some x->x.aV<j) (s:ByteArray):∀(c:Nat),c<w.a7.length->∀n a,c<n->c<a->X5 w' s a (c:Int)=X5 w s n (c:Int):=by
 intro c
 induction c using Nat.strongRecOn with
 |ind c ih =>
  intro o n a t p;obtain⟨n,rfl⟩:∃m,n=m+1:=⟨n-1,d9⟩;obtain⟨a,rfl⟩:∃m,a=m+1:=⟨a - 1,d9⟩;have f:=IS o;have r:=d c _ f;rw[X5,X5,Mu (Int.natCast_nonneg c),Mu (Int.natCast_nonneg c),MX,l _ _ f,f];simp only;cases bM s (w.a7[c]).aC with
  |some i=>rfl
  |none =>
   simp only;rcases Int.lt_or_le (w.a7[c]).aV 0 with g|b
   ·have h:∀(v:Wd) (k:Nat),X5 v s k (w.a7[c]).aV=none:=fun v k=>by
     cases k with
     |zero=>rfl
     |succ k=>rw[X5,Mt d9]
    rw[h,h]
   ·obtain⟨q,e⟩:=Int.eq_ofNat_of_zero_le b;rw[e] at r⊢;exact ih q d9 d9 n a d9 d9
theorem cj.more {w w':Wd} (p:∀(j:Nat) x,w.a7[j]?=some x->w'.a7[j]?=some x) (hl:w.a7.length<=w'.a7.length) (b:∀(j:Nat) x,w.a7[j]?=some x->x.aV<j) (F:w'.aB=w.aB) {l:List Ce} (h:cj w l):cj w' l:=by
 intro c D e y G;obtain⟨n,⟨x,m,i,j,t,u,v,A,B⟩,a,C⟩:=h c D (by rw[<-F];exact e) y G;have g:∀{k:Int} {x:Cl},j4 w.a7 k=some x->j4 w'.a7 k=some x:=fun {k x} d=>by
  obtain⟨H,I⟩:=l6 d;obtain⟨q,rfl⟩:=Int.eq_ofNat_of_zero_le H;rw[D9] at d⊢;exact p _ _ d
 have r:l7 w' n y.cls=l7 w n y.cls:=by
  rcases Int.lt_or_le y.cls 0 with o|o
  ·unfold l7 at a;rw[X5,Mt d9] at a;exact absurd (show(0:Int)<=-1 from a) E5
  ·obtain⟨q,e⟩:=Int.eq_ofNat_of_zero_le o;rcases Nat.lt_or_ge q w.a7.length with f|f
   ·rw[e];unfold l7;rw[IV p b n q f (w.a7.length+1) (w'.a7.length+1) d9 d9]
   ·unfold l7 at a;rw[e,X5,Mu (Int.natCast_nonneg q),MX,MV f] at a;exact absurd (show(0:Int)<=-1 from a) E5
 exact⟨n,⟨x,m,i,j,g t,u,v,A,B⟩,by rw[r];exact a,by rw[r];exact C⟩
theorem cj.later {w w':Wd} {l:List Ce} (h:∀c∈l,c.aB<=w.aB) (b:w.aB<w'.aB):cj w' l:=fun c a e=>by
 have:=h c a;omega
def fM : V:=⟨0,0⟩
def sr (N:Nat) (w:Wd) (a:List Int) (x:cK):Wd×List Int×fG :=
 if x.kind=1 then(if(gy w x.name x.aK x.aI).2.2=0 then((gy w x.name x.aK x.aI).1,a,⟨0,(gy w x.name x.aK x.aI).2.1,fM⟩) else(w,a,⟨(gy w x.name x.aK x.aI).2.2,0,fM⟩))
 else if x.kind=2 then(match ao N w x.aK x.aN with
  |none=>(w,a,⟨0,0,fM⟩)
  |some f=>if f.err=0 then(if(iN w x.aK x.aN).2=0 then((iN w x.aK x.aN).1,a,⟨0,0,fM⟩) else(w,a,⟨(iN w x.aK x.aN).2,0,fM⟩)) else(w,a,⟨f.err,f.aJ,fM⟩))
 else if x.kind=3 then(if x.aK≠0/\(x.aK<4\/(w.a7.length:Int)<=x.aK) then(w,a,⟨6,0,fM⟩) else if 60<=w.heap.length then(w,a,⟨15,0,fM⟩)
  else(⟨w.a7,w.heap++[⟨x.aK,MC (p8 w x.aK).toNat ⟨0,0⟩⟩],w.aB⟩,a,⟨0,(w.heap.length:Int),⟨4,(w.heap.length:Int)⟩⟩))
 else if x.kind=7 then(w,U (cH w),⟨0,((U (cH w)).length:Int),fM⟩)
 else if x.kind=8 then(if a.length=0 then(w,a,⟨6,0,fM⟩) else match kK N a with
  |none=>(w,a,⟨0,0,fM⟩)
  |some p=>if p.2=0 then(⟨p.1.a7,p.1.heap,max p.1.aB w.aB+1⟩,a,⟨0,0,fM⟩) else(w,a,⟨p.2,0,fM⟩))
 else(w,a,⟨1,0,fM⟩)
def gN (k:Int):Prop:=k=4\/k=5\/k=6
instance (k : Int):Decidable (gN k):=by unfold gN;infer_instance
def DR (N:Nat) (w:Wd) (b:List Int) (x:cK) (w':Wd) (a:List Int) (r:fG):Prop :=
 if gN x.kind then∃q,iS w x.call 400 cM q/\r=⟨q.2.err,q.2.aH,q.2.value⟩/\w'=q.1/\a=b else(w',a,r)=sr N w b x
section
variable {N:Nat} {E:Int} {z:Nat} {s:K7} {x:cK}
def K4 (e:4194304<=N) (h:SI N E z s) (c:Int) (l:¬(c≠0/\(c<4\/(s.world.a7.length:Int)<=c))) (m:¬60<=s.world.heap.length) :
  jY N s.world.heap c (p8 s.world c)=some (s.world.heap++[⟨c,MC (p8 s.world c).toNat ⟨0,0⟩⟩],⟨4,(s.world.heap.length:Int)⟩,0)/\SI N E z ⟨⟨s.world.a7,s.world.heap++[⟨c,MC (p8 s.world c).toNat ⟨0,0⟩⟩],s.world.aB⟩,s.cells,s.aa,s.saved⟩:=by
 have b:=h.right;have d:=h.small;have n:=b.many;have W:=b.oZ e d;have k:=W.aI c;have j:=d86 W (xK b) d9 (a:=c) d9 d9;have f:=b.other e d j b.aB;refine⟨?_,f.1,f.2,h.ep,h.cells.heap,h.jD,h.sz,h.saved⟩;unfold jY;have e1:max (p8 s.world c) 0=p8 s.world c:=d9;rw[Mx (show¬(60:Int)<=(s.world.heap.length:Int) by omega),rh N d.2.2.2 d.2.1,e1];have g:(decide (0<=p8 s.world c) && decide (p8 s.world c<=140737488355328) && decide (p8 s.world c*16<=140737488355328))=true:=by
  simp only[IT,Mz];omega
 have i:IN ((s.world.heap.length+[(⟨c,MC (p8 s.world c).toNat (⟨0,0⟩:V)⟩:Ob)].length)*32) 140737488355328=true:=Nat.ble_eq_true_of_le (by simp only[Mp];omega);simp only[Ms,A0,g,Mr,i]
def vp (b:4194304<=N) (h:SI N E z s) (hE:E<=1000000) (hz:z<=1099511000000) (u:x.aN.code.length<=1048576):∃t r,jX N s x=some (t,r)/\SI N (E+1) (z+401) t/\DR N s.world s.saved x t.world t.saved r:=by
 have a:=h.right;have d:=h.small;have hm:=a.many;have R:=h.ep;have L:=a.aB;have H:=h.more (show E<=E+1 by omega) (Nat.le_add_right z 401);unfold jX DR;rw[Ku b h d9];simp only[A0];by_cases i:gN x.kind
 ·obtain⟨t,q,T,U,V,W,X,_⟩:=KB b h d9 i x.call;have m:¬x.kind=1:=by unfold gN at i;omega
  have n:¬x.kind=2:=by unfold gN at i;omega
  have o:¬x.kind=3:=by unfold gN at i;omega
  refine⟨t,⟨q.2.err,q.2.aH,q.2.value⟩,?_,X.more d9 (It _),by rw[Mu i];exact⟨q,U,rfl,V,W⟩⟩;rw[Mx m,Mx n,Mx o];simp only[Ms,T,A0];rcases i with e|e|e<;>simp[e]
 simp only[Mt i];unfold sr;unfold gN at i;by_cases m:x.kind=1
 ·rw[My m,Mu m,Gu N s.world _ _ _ d9 d (pB a)];simp only[Mr,A0];by_cases e:(gy s.world x.name x.aK x.aI).2.2=0
  ·obtain⟨F,G,k,Y⟩:=AU b d a e;rw[My e,Mu e];simp only[M1,Ms];refine⟨_,_,rfl,⟨F,G,?_,?_,?_,H.sz,H.saved⟩,rfl⟩
   ·simp only[k];omega
   ·refine cj.more (w:=s.world) (fun j y O=>?_) Y.len a.sup (by simp only[k]) h.cells;simp only[k];rw[Mh (Lx.1 O).1];exact O
   ·simp only[k];exact h.jD
  ·rw[Mx e,Mt e];simp only[MJ,Mr];exact⟨_,_,rfl,H,rfl⟩
 rw[Mx m,Mt m];by_cases n:x.kind=2
 ·rw[My n,Mu n];unfold ua;obtain⟨f,M⟩:=x5 N s.world x.aK x.aN b;rw[B3 N s.world _ _ d9 d.1,M];simp only[Ms,Mr,A0];by_cases e:f.err=0
  ·rw[My e,Mu e,G4 N s.world _ _ d9 d a.cy u];simp only[M1,Ms,A0];by_cases l:(iN s.world x.aK x.aN).2=0
   ·obtain⟨F,G,k⟩:=Ag b d a M e d9 l;rw[My l,Mu l];simp only[Mr,A0,l];exact⟨_,_,rfl,⟨F,G,by simp only[k];omega,cj.later h.jD (by simp only[k];omega),fun c u=>by have:=h.jD c u;simp only[k];omega,H.sz,H.saved⟩,rfl⟩
   ·rw[Mx l,Mt l];simp only[Ms,A0];exact⟨_,_,rfl,H,rfl⟩
  ·rw[Mx e,Mt e];simp only[MJ,Mr,A0];exact⟨_,_,rfl,H,rfl⟩
 rw[Mx n,Mt n];by_cases o:x.kind=3
 ·rw[My o,Mu o];unfold ug;have e1:((bif (!decide (x.aK=(0:Int))) then(bif decide (x.aK<(4:Int)) then some (true) else some (decide ((s.world.a7.length:Int)<=x.aK))) else some (false)):Option Bool)=some (decide (x.aK≠0/\(x.aK<4\/(s.world.a7.length:Int)<=x.aK))):=by
   by_cases g1:x.aK=0
   ·simp[g1]
   ·by_cases p:x.aK<4<;>simp[g1,p]
  rw[e1];simp only[Ms,Mr,A0];by_cases g:x.aK≠0/\(x.aK<4\/(s.world.a7.length:Int)<=x.aK)
  ·rw[My g,Mu g];simp only[Mr,A0];exact⟨_,_,rfl,H,rfl⟩
  rw[Mx g,Mt g];simp only[Ms,oh N s.world _ d9 d.1,A0];by_cases p:60<=s.world.heap.length
  ·rw[Mu p];have:jY N s.world.heap x.aK (p8 s.world x.aK)=some ([],⟨0,0⟩,15):=by
    unfold jY;rw[My (show(60:Int)<=(s.world.heap.length:Int) by omega)];rfl
   rw[this];exact⟨_,_,rfl,H,rfl⟩
  ·rw[Mt p];obtain⟨Z,v2⟩:=K4 b h x.aK g p;rw[Z];exact⟨_,_,rfl,v2.more d9 (Nat.le_add_right z 401),rfl⟩
 rw[Mx o,Mt o,Mx (show¬x.kind=4 by omega),Mx (show¬x.kind=5 by omega),Mx (show¬x.kind=6 by omega)];simp only[Ms,A0];by_cases B:x.kind=7
 ·obtain⟨s1,P⟩:=xp b d a;rw[My B,Mu B,s1];simp only[Mr,A0];exact⟨_,_,rfl,⟨a,d,H.ep,h.cells,h.jD,H.sz,.inr ⟨s.world,a,d,H.ep,rfl⟩⟩,rfl⟩
 rw[Mx B,Mt B];by_cases C:x.kind=8
 ·rw[My C,Mu C];unfold uo;simp only[Ms,Mr];rcases h.saved with e|⟨v,A,I,a3,e⟩
  ·rw[e];exact⟨_,_,rfl,H,by simp only[Mj,if_true];rw[e];rfl⟩
  ·have D:¬s.saved.length=0:=fun J=>by
    rw[e,fH] at J;exact yk v (Ma J)
   obtain⟨_,P⟩:=xp b I A;have Q:=A.aB;have S:wr (max v.aB s.world.aB+1)=max v.aB s.world.aB+1:=u7 ino;have K:=A.other b I (xK A) (e:=max v.aB s.world.aB+1) d9;rw[Mx (show¬(s.saved.length:Int)=0 by omega),Mt D];rw[show kK N s.saved=some (v,0) by rw[e];exact P];simp only[Ms,A0,Mv,M1,S,if_true];exact⟨_,_,rfl,⟨K.1,K.2,bN,cj.later h.jD bN,fun c u=>by have:=h.jD c u;simp only;omega,H.sz,H.saved⟩,rfl⟩
 rw[Mx C,Mt C];exact⟨_,_,rfl,H,rfl⟩
end
def Ho (x y:cK):Prop:=y=x\/(gN x.kind/\∃k,gN k/\y=⟨k,x.name,x.aK,x.aI,x.aN,x.call⟩)
theorem DR.oD {N:Nat} {w:Wd} {sv:List Int} {x y:cK} {i j:Wd} {s1 h:List Int} {f g:fG} (l:Ho x y) (d:DR N w sv x i s1 f) (a:DR N w sv y j h g):i=j/\s1=h/\f=g:=by
 have call:gN x.kind->gN y.kind->y.call=x.call->i=j/\s1=h/\f=g:=fun b c e=>by
  unfold DR at d a;rw[Mu b] at d;rw[Mu c,e] at a;obtain⟨q,t,u,v,z⟩:=d;obtain⟨p,m,n,o,s⟩:=a;have:=t.oD m;subst this;exact⟨by rw[v,o],by rw[z,s],by rw[u,n]⟩
 rcases l with rfl|⟨b,k,c,rfl⟩
 ·by_cases b:gN y.kind
  ·exact call b b rfl
  ·unfold DR at d a;rw[Mt b] at d a;rw[<-d] at a;simp only[Prod.mk.injEq] at a;exact⟨a.1.symm,a.2.1.symm,a.2.2.symm⟩
 ·exact call b c rfl
section
variable {N:Nat} {w:Wd} {sv:List Int} {x:cK} {w':Wd} {sv':List Int} {r:fG}
theorem DR.ez (h:DR N w sv x w' sv' r) (c:4194304<=N) (b:I5 N w) (d:D6 w):w.aB<=w'.aB/\(r.err≠0->w'=w)/\(x.kind≠7->sv'=sv):=by
 unfold DR at h;by_cases i:gN x.kind
 ·rw[Mu i] at h;obtain⟨q,m,rfl,rfl,rfl⟩:=h;obtain⟨_,_,_,o,j⟩:=C3 c d b m;exact⟨d9,j,fun _=>rfl⟩
 ·rw[Mt i] at h;have p:=b.aB;unfold sr at h;split at h
  ·split at h
   ·rename_i e;obtain⟨_,_,n,_⟩:=AU c d b e;cases h;exact⟨by rw[n];exact MH _,fun e=>absurd rfl e,fun _=>rfl⟩
   ·cases h;exact⟨MH _,fun _=>rfl,fun _=>rfl⟩
  split at h
  ·split at h
   ·cases h;exact⟨MH _,fun _=>rfl,fun _=>rfl⟩
   ·rename_i f k;split at h
    ·rename_i e;split at h
     ·rename_i a;cases h;refine⟨?_,fun e=>absurd rfl e,fun _=>rfl⟩;rcases Int.lt_or_le w.aB 1073741824 with g|g
      ·have:=(Ag c d b k e g a).2.2;omega
      ·unfold iN at a⊢;split
       ·split
        ·simp[*] at a
        ·split
         ·simp[*] at a
         ·simp only;rw[u7 ino];omega
       ·simp[*] at a
     ·cases h;exact⟨MH _,fun _=>rfl,fun _=>rfl⟩
    ·cases h;exact⟨MH _,fun _=>rfl,fun _=>rfl⟩
  split at h
  ·split at h
   ·cases h;exact⟨MH _,fun _=>rfl,fun _=>rfl⟩
   split at h
   ·cases h;exact⟨MH _,fun _=>rfl,fun _=>rfl⟩
   ·cases h;exact⟨MH _,fun e=>absurd rfl e,fun _=>rfl⟩
  split at h
  ·rename_i l;cases h;exact⟨MH _,fun _=>rfl,fun e=>absurd l e⟩
  split at h
  ·split at h
   ·cases h;exact⟨MH _,fun _=>rfl,fun _=>rfl⟩
   split at h
   ·cases h;exact⟨MH _,fun _=>rfl,fun _=>rfl⟩
   split at h
   ·cases h;exact⟨bN,fun e=>absurd rfl e,fun _=>rfl⟩
   ·cases h;exact⟨MH _,fun _=>rfl,fun _=>rfl⟩
  ·cases h;exact⟨MH _,fun _=>rfl,fun _=>rfl⟩
end
def zG : K7:=⟨N8,[],[],[]⟩
def Kw (N:Nat) (e:4194304<=N):p5 N=some zG/\SI N 0 0 zG:=by
 refine⟨rfl,?_⟩;have f:nA N N8=some 0:=by rw[Bf N N8 e uO];exact Ii N
 obtain⟨r,d,g⟩:=d49 N N8 e uO;rw[f] at d;cases d;exact⟨g rfl,uO,MH _,(fun c a=>by cases a),(fun c a=>by cases a),⟨It _,(fun x b=>by cases b),It _,(fun x b=>by cases b)⟩,.inl rfl⟩
def CJ {l:List cK} {b:Nat} (h:dp fb l<=b):∀x∈l,x.aN.code.length<=b:=fun x c=>by
 have d:=KQ (bk:=fb) c;have f:=yU (bk:=lU) (fun a=>IQ a) x.aN.code;have e:dp lU x.aN.code<=fb x:=by unfold fb d57;omega
 omega
theorem Dj {N:Nat} (b:4194304<=N):∀(l:List cK) (k:Nat) (s:K7) (E:Int) (z:Nat),(∀x∈l,x.aN.code.length<=1048576)->SI N E z s->E+l.length<=1000->z+401*l.length<=1000000 ->
  ∃t,X7 N l k s=some t/\SI N (E+l.length) (z+401*l.length) t
 |[],_,s,E,z,_,a,_,_=>⟨s,rfl,by simpa using a⟩
 |x::l,k,s,E,z,hc,a,hE,hz=>by
  simp only[MB] at hE hz;obtain⟨t,r,c,d,_⟩:=vp (x:=x) b a d9 d9 (hc x l8);obtain⟨q,e,f⟩:=Dj b l (k+1) t (E+1) (z+401) (fun x g=>hc x (Mi _ g)) d d9 d9;refine⟨q,by rw[X7,c];exact e,f.more ?_ ?_⟩
  ·simp only[MB];omega
  ·simp only[MB];omega
theorem d15 {N:Nat} (c:4194304<=N):∀(l:List cK) (k:Nat) (s:K7) (E:Int) (z:Nat),(∀x∈l,x.aN.code.length<=1048576)->SI N E z s->E+l.length<=1000->z+401*l.length<=1000000 ->
  ∃t,U0 N l k s=some t/\SI N (E+l.length) (z+401*l.length) t/\t.saved=s.saved
 |[],_,s,E,z,_,a,_,_=>⟨s,rfl,by simpa using a,rfl⟩
 |x::l,k,s,E,z,hc,a,hE,hz=>by
  simp only[MB] at hE hz;have b:∀{t:K7},SI N (E+1) (z+401) t->t.saved=s.saved->∃q,U0 N l (k+1) t=some q/\SI N (E+((x::l).length:Nat)) (z+401*(x::l).length) q/\q.saved=s.saved:=fun {t} n o=>by
   obtain⟨q,h,i,j⟩:=d15 c l (k+1) t (E+1) (z+401) (fun x p=>hc x (Mi _ p)) n d9 d9;refine⟨q,h,i.more ?_ ?_,by rw[j,o]⟩
   ·simp only[MB];omega
   ·simp only[MB];omega
  rw[U0];by_cases d:x.kind=7
  ·rw[My d];exact b (a.more d9 d9) rfl
  ·obtain⟨t,r,e,f,g⟩:=vp (x:=x) c a d9 d9 (hc x l8);obtain⟨_,_,m⟩:=g.ez c a.right a.small;rw[Mx d,e];exact b f (m d)
def Fy : qy 4194304=some true:=y7
def GG (c:(List cK)) (d:(List cK)) (h:(mP vU) c) (K:(mP vU) d) (L:(dp fb) c+(dp fb) d<=1048576):∃N,uC N c d=some true:=by
 obtain⟨N,i⟩:∃N:Nat,N=4194304:=⟨_,rfl⟩;have j:qy N=some true:=by rw[i];exact Fy
 have e:4194304<=N:=d9;refine⟨N,?_⟩;have w:=yU (bk:=fb) (fun a=>Bh a) c;have y:=yU (bk:=fb) (fun a=>Bh a) d;unfold uC;rw[j];simp only[A0,M1,Ms];rw[u7 (show I1 ((c.length:Int)+(d.length:Int)) by unfold I1;omega)];by_cases b:(100:Int)<(c.length:Int)+(d.length:Int)
 ·rw[My b];rfl
 obtain⟨z,A⟩:=Kw N e;rw[Mx b,z];obtain⟨s,B,m⟩:=Dj e c 0 zG 0 0 (CJ d9) A d9 d9;simp only[Ms,A0,B];obtain⟨t,r,C,D,g⟩:=vp (x:=⟨7,BY,0,0,⟨BY,0,0,0,[]⟩,⟨⟨0,0⟩,BY,[]⟩⟩) e m d9 d9 l8;have g:(t.world,t.saved,r)=(s.world,U (cH s.world),(⟨0,((U (cH s.world)).length:Int),fM⟩:fG)):=g;simp only[Prod.mk.injEq] at g;obtain⟨e1,n,rfl⟩:=g;simp only[C,A0,Mv,M1,Ms];obtain⟨u,F,G,H⟩:=d15 e d 0 t _ _ (CJ d9) D d9 d9;simp only[F,A0];obtain⟨v,E,I,M,f⟩:=vp (x:=⟨8,BY,0,0,⟨BY,0,0,0,[]⟩,⟨⟨0,0⟩,BY,[]⟩⟩) e G d9 d9 l8;have l:u.saved=U (cH s.world):=by rw[H,n]
 have k:¬(U (cH s.world)).length=0:=fun h=>by
  rw[fH] at h;exact yk s.world (Ma h)
 have f:(v.world,v.saved,E)=sr N u.world u.saved ⟨8,BY,0,0,⟨BY,0,0,0,[]⟩,⟨⟨0,0⟩,BY,[]⟩⟩:=f;rw[l] at f;have q:sr N u.world (U (cH s.world)) ⟨8,BY,0,0,⟨BY,0,0,0,[]⟩,⟨⟨0,0⟩,BY,[]⟩⟩=(⟨s.world.a7,s.world.heap,max s.world.aB u.world.aB+1⟩,U (cH s.world),⟨0,0,fM⟩):=by
  show(if(U (cH s.world)).length=0 then _ else match kK N (U (cH s.world)) with
   |none=>_
   |some p=>_)=_
  rw[Mt k,(xp e m.small m.right).2];rfl
 rw[q] at f;simp only[Prod.mk.injEq] at f;obtain⟨o,J,rfl⟩:=f;simp only[I,A0,Mv,Mr,o];rw[My (show s.world.aB<max s.world.aB u.world.aB+1 by omega)];simp only[Mr,HC,A0,Mv]
end Go.Proofs.YtibjcppjfkamhaaGreatDoor
