import Derived.Orders
import Derived.Still
import Derived.Test.YtibjcppjfkamhaaGreatDoorProg
import Derived.KernelRfl
import Derived.Test.YtibjcppjfkamhaaGreatDoorRows
import Derived.Deep.Slices
import Derived.JoinedCond
import Derived.Test.YtibjcppjfkamhaaGreatDoorA
set_option linter.unusedVariables false
set_option linter.defProp false
set_option linter.unusedSimpArgs false
namespace Go.Proofs.YtibjcppjfkamhaaGreatDoor
open Go.RowKit Go.Proofs.Tryz
open _root_.And renaming intro->AN
open _root_.Bool renaming and_eq_true->IT,not_true->M1
open _root_.ByteArray renaming empty->BY
open _root_.List renaming getElem?_eq_getElem->IS,getElem?_eq_some_iff->Lx,mem_cons->Ly,length_cons->MB,replicate->MC,length_append->MD,map->MF,mem_of_getElem?->MI,all_eq_true->MK,map_cons->ML,mem_map->MM,mem_append->MN,append_assoc->MO,length_map->MP,getElem?_set->MQ,getElem?_append_right->MS,sum_cons->MT,length_set->MU,getElem?_eq_none->MV,mem_singleton->MY,getElem?_map->Mb,getElem?_drop->Md,ext_getElem?->Mf,getElem?_append_left->Mh,mem_cons_of_mem->Mi,length_take->Mk,getElem?_take->Mm,length_singleton->Mp,getElem?_cons_zero->Mq
open _root_.Nat renaming beq->AT,ble->IN,le_refl->It,eq_of_beq_eq_true->MG,le_of_ble_eq_true->MR,zero_add->MZ,add_assoc->Mg,mul_le_mul_right->Ml
open _root_.Option renaming map_eq_some_iff->ME,map_some->MW
open _root_.Or renaming inl->MA
abbrev cG := List (Nat×Nat×TypeId)
abbrev Hs := List (Nat×Nat×Nat)
theorem aW.mk' {c c':Ctx} {w w':World} {need upd:Os} {news:List Nat} (aS:T9 c w need) (d:c'.Φ=c.Φ) (cq:w'.os=w.os) (tape:w'.tape=w.tape) (output:w'.output=w.output) (size:w.heap.size<=w'.heap.size)
  (af:∀b,b<w.heap.size->¬Touch c need upd b->w'.heap[b]?=w.heap[b]?) (ctx:∀id,id ∉ news->c'.μ id=c.μ id/\c'.hd id=c.hd id) (rep:∀id o,lk upd id=some o->dN c' w' id o)
  (bA:∀id o b,lk upd id=some o->aZ c' id o b->(w.heap.size<=b/\b<w'.heap.size)\/Touch c need upd b)
  (sep:∀id e o f b,id≠e->lk upd id=some o->lk upd e=some f->aZ c' id o b->¬aZ c' e f b):aW c w c' w' need upd news:=by
 refine⟨cq,tape,output,size,fun b a=>by rw[d];exact a,fun b a=>.inl (by rw[d] at a;exact a),af,ctx,⟨rep,fun id o b hl g=>?_,sep,fun b a=>?_⟩,fun id o b hl g=>(bA id o b hl g).imp (·.1) (fun h=>h)⟩
 ·rw[d];rcases bA id o b hl g with h|⟨i,f,j,_,k⟩
  ·exact⟨h.2,fun a=>by have:=aS.aw b a;omega⟩
  ·have:=aS.lt i f b j k;exact⟨d9,this.2⟩
 ·rw[d] at a;have:=aS.aw b a;omega
def fv : Hs->Nat->Option (Nat×Nat)
 |[],_=>none
 |(i,o,x)::r,off=>bif AT o off then some (i,x) else fv r off
def eE : Hs->Nat->Hs
 |[],_=>[]
 |(i,o,x)::r,off=>bif AT o off then eE r off else(i,o,x)::eE r off
def nq : Hs->Bool
 |[]=>true
 |(_,o,_)::r=>(fv r o).isNone && nq r
def DI {d:Hs} {off:Nat} (h:fv d off=none):∀i,¬eZ d i off:=by
 rintro i ⟨x,b⟩
 induction d with
 |nil=>cases b
 |cons p r ih =>
  obtain⟨a,o,y⟩:=p;rw[fv] at h;cases c:AT o off with
  |true=>rw[c] at h;cases h
  |false =>
   rw[c] at h;rcases Ly.1 b with e|b
   ·cases e;simp at c
   ·exact ih h b
def xr {c:Hs} {off i x:Nat} (h:fv c off=some (i,x)):(i,off,x)∈c:=by
 induction c with
 |nil=>cases h
 |cons p r ih =>
  obtain⟨a,o,y⟩:=p;rw[fv] at h;cases b:AT o off with
  |true=>rw[b] at h;cases h;rw[MG b];simp
  |false=>rw[b] at h;exact Mi _ (ih h)
def nU {g:Hs} {off i o x:Nat}:(i,o,x)∈eE g off↔(i,o,x)∈g/\o≠off:=by
 induction g with
 |nil=>simp[eE]
 |cons p r ih =>
  obtain⟨a,h,y⟩:=p;rw[eE];cases d:AT h off with
  |true =>
   have:=MG d;subst this;simp only[Mr,ih,Ly,Prod.mk.injEq];constructor
   ·exact fun⟨b,c⟩=>⟨.inr b,c⟩
   ·rintro⟨⟨_,b,_⟩|b,c⟩
    ·exact absurd b c
    ·exact⟨b,c⟩
  |false =>
   have f:h≠off:=fun e=>by rw[e] at d;simp at d
   simp only[Ms,Ly,ih,Prod.mk.injEq];constructor
   ·rintro(⟨rfl,rfl,rfl⟩|⟨b,c⟩)
    ·exact⟨.inl ⟨rfl,rfl,rfl⟩,f⟩
    ·exact⟨.inr b,c⟩
   ·rintro⟨b|b,c⟩
    ·exact .inl b
    ·exact .inr ⟨b,c⟩
def CU {d:Hs} (f:nq d=true) {off i x g j:Nat} (h:fv d off=some (i,x)) (b:(g,off,j)∈d):g=i/\j=x:=by
 induction d with
 |nil=>cases b
 |cons p r ih =>
  obtain⟨a,o,y⟩:=p;simp only[nq,IT] at f;rw[fv] at h;cases c:AT o off with
  |true =>
   rw[c] at h;cases h;have:=MG c;subst this;rcases Ly.1 b with e|b
   ·cases e;exact⟨rfl,rfl⟩
   ·have:=DI (by simpa using f.1) g ⟨j,b⟩;exact this.elim
  |false =>
   rw[c] at h;rcases Ly.1 b with e|b
   ·cases e;simp at c
   ·exact ih f.2 h b
def xo (css:List (List Value)) (a:cG) (b:Hs):∃L:List Value,∀v,v∈L↔∃i off,bR css a b i off v:=by
 classical
 refine⟨css.flatten.filter fun v=>decide (∃i off,bR css a b i off v),fun v=>?_⟩;rw[List.mem_filter,Mz];refine⟨fun h=>h.2,fun h=>⟨?_,h⟩⟩;obtain⟨i,off,us,p,c,_,d,_⟩:=h;exact List.mem_flatten.2 ⟨us,MI c,MI d⟩
def nW (L:List Value):ec (.tuple L.toArray)=L:=by simp[ec]
def dC (b:cG):List AV->Nat->List AV
 |[],_=>[]
 |a::l,o=>(match lk b o with|some _=>AV.any|none=>a)::dC b l (o+1)
theorem Dm {Φ:Nat->Prop} {w:World} {b:cG}:∀{c:List AV} {us:List Value} (o:Nat),us.length=c.length->(∀off u a,us[off]?=some u->c[off]?=some a->lk b (o+off)=none->Rf Φ w u a)->H6 Φ w us (dC b c o)
 |[],[],_,_,_=>.nil
 |a::c,u::us,o,hl,h=>by
  rw[dC];refine .cons ?_ (Dm (o+1) (by simpa using hl) fun off u a d e f=>h (off+1) u a (by simpa using d) (by simpa using e) (by rw[<-f];congr 1;omega));split
  ·exact .any u
  ·rename_i g;exact h 0 u a rfl rfl (by simpa using g)
 |[],_::_,_,h,_=>by cases h
 |_::_,[],_,h,_=>by cases h
theorem dh.ju {Φ:Nat->Prop} {hd:Nat->Value} {w:World} {b:cG} {k:Hs} {l:List (List AV)} {css:List (List Value)} (h:dh Φ hd w b k l css) {i:Nat} {us:List Value} {c:List AV} (d:css[i]?=some us) (e:l[i]?=some c):H6 Φ w us (dC b c 0) :=
 Dm 0 (h.cell i us c d e).1 fun off u a f g j=>(h.cell i us c d e).2 off u a f g (by simpa using j)
section
variable {P:Program} {tab:U2} {o:Oper} {ev:Ev} {os:Os} {K:Kt}
def yp (os:Os) (x:AV) (K:Kt):Prop :=
 match x with
 |.aL id=>match lk os id with
  |some (.deep _ _ _ l _ _)=>∀n:Nat,n=l.length->n<=maxLen->K (.int n) [id] [] []
  |_=>False
 |_=>False
def pX {c:Ctx} {w:World} {id sz e sh:Nat} {a:cG} {l:List (List AV)} {k:Hs} {v:Value} (b:dN c w id (.deep sz e a l k sh)) (r:Rd c w v (.aL id)):∃A cap,v=.slice A l.length cap/\c.hd id=.slice A l.length cap/\l.length<=cap/\cap<=maxLen:=by
 obtain⟨A,n,cap,e1,f,i,j⟩:=r.bJ;obtain⟨css,m,p,y,z⟩:=b;obtain⟨q,d,g,u,x⟩:=m.head;rw[f] at g;injection g with s h t
 have:n=l.length:=by rw[h,p.len]
 subst this;exact⟨A,cap,e1,f,i,j⟩
def Kd (k:M5 P tab) {x:Operand} {t:TypeId} {ti:TI} (hl:lk tab t=some ti) (m:ti.kind=2) (j:o.op=.call { callee:=.builtin .len,args:=#[x],argTypes:=#[t] }) (h:yp os (ev x) K):Y8 P o ev os K:=by
 unfold yp at h;split at h
 ·rename_i id s;split at h
  ·rename_i sz e d l n sh f;have q:=(k t ti hl).aj m;have get:∀(c:Ctx) (w:World) (b:Operand->Value),dN c w id (.deep sz e d l n sh)->(∀z∈o.op.operands.toList,Rd c w (b z) (ev z))->∃A cap,b x=.slice A l.length cap/\l.length<=maxLen:=fun c w b a g=>by
    have r:=g x (by simp[j,Op.operands,Go.Call.operands]);rw[s] at r;obtain⟨A,cap,e1,_,u,v⟩:=pX a r;exact⟨A,cap,e1,d9⟩
   refine .have (p:=l.length<=maxLen) (fun c w b aS g=>?_) fun i=>.read f (fun c w b a g=>?_) (h _ rfl i)
   ·obtain⟨A,cap,_,i⟩:=get c w b (aS.rep id _ f) g;exact i
   ·obtain⟨A,cap,e1,_⟩:=get c w b a g;exact⟨_,by simp[execOp,j,resolve,invoke,builtin,Builtin.len_,run_underlying q,e1,goInt],.fz (.int (pa i))⟩
  ·exact h.elim
 ·exact h.elim
def wK (tab:U2) (os:Os) (t:TypeId) (x i:AV) (K:Kt):Prop :=
 match lk tab t,x,i with
 |some ti,.aL id,.int i=>match lk os id,lk tab ti.elem with
  |some (.deep sz _ _ l _ _),some te=>ti.kind=2/\te.size=sz/\0<=i/\i<(l.length:Int)/\K (.ep id i.toNat sz 0) [id] [] []
  |_,_=>False
 |_,_,_=>False
def Gi (q:M5 P tab) {t:TypeId} {x m:Operand} (f:o.op=.indexAddr t x m) (h:wK tab os t (ev x) (ev m) K):Y8 P o ev os K:=by
 unfold wK at h;split at h
 ·rename_i ti id i k H hi;split at h
  ·rename_i sz e p l Q sh te b j;obtain⟨F,rfl,C,D,h⟩:=h;have G:=(q t ti k).aj F;have E:=q _ te j;refine .read b (fun c w U a s=>?_) h;have v:=s x (by simp[f,Op.operands]);have y:=s m (by simp[f,Op.operands]);rw[H] at v;rw[hi] at y;obtain⟨A,cap,e1,r,M,N⟩:=pX a v;obtain⟨css,I,J,R,S⟩:=a;have d:0<css.length:=by rw[J.len];omega
   obtain⟨g,T,n,u,O,_⟩:=I.cells (IS d);rw[r] at u;injection u with z L B
   subst z B;refine⟨_,by simp only[execOp,f];rw[e1,y.ak.1,Sem.run_bind,run_indexAt_slice G E C D];rfl,.ep (off:=0) r⟩
  ·exact h.elim
 ·exact h.elim
def wx (tab:U2) (os:Os) (t:TypeId) (x:AV) (K:Kt):Prop :=
 match lk tab t,x with
 |some ti,.ep id i sz off=>match lk os id with
  |some (.deep b _ a l d sh)=>match AT sz b with
   |true=>match lk a off with
    |none=>i<l.length/\∀c,l[i]?=some c->match kS ti (dC a c 0) off with
     |some av=>K av [id] [] []
     |none=>False
    |some (isz,ie)=>match fv d off with
     |some (j,y)=>ti.kind=2/\j=i/\i<l.length/\off<sz/\ti.size=1/\K (.aL y) [id] [] []
     |none=>False
   |false=>False
  |_=>False
 |_,_=>False
theorem Bo {c:Type}:∀{off:Nat} {l:List c} {a:c},l[off]?=some a->bG off 1 l=some [a]
 |0,b::l,a,h=>by simp at h;subst h;simp[bG]
 |off+1,b::l,a,h=>by rw[bG];exact Bo (by simpa using h)
 |_,[],a,h=>by simp at h
theorem yV {Φ:Nat->Prop} {w:World}:∀us:List Value,H6 Φ w us (us.map .ad)
 |[]=>.nil
 |u::us=>.cons (.ad u) (yV us)
def JI (hT:M5 P tab) {t:TypeId} {x:Operand} (J:o.op=.load t x) (h:wx tab os t (ev x) K):Y8 P o ev os K:=by
 have run:∀(k:Operand->Value) (w:World),(execOp k o).run P w=((Instr.loadAt t (k x)).run P w).andThen fun v w'=>.ok (.value v) w':=fun k w=>by simp[execOp,J]
 unfold wx at h;split at h
 ·rename_i ti id i sz off N W;have C:=hT t ti N;split at h
  ·rename_i sz' e B l hs sh G;split at h
   ·rename_i M;obtain rfl:=MG M;have get:∀(c:Ctx) (w:World) (k:Operand->Value) (us:List Value),dN c w id (.deep sz e B l hs sh)->Rd c w (k x) (.ep id i sz off)->(∃css,J9 w (c.hd id) sz e css/\css[i]?=some us) ->
      ∃g p,k x=.pointer (some ⟨g,p+off,none⟩)/\∀j u,us[j]?=some u->w.cell? ⟨g,p+j,none⟩=some u:=fun c w k us d q ⟨css,s,a⟩=>by
     obtain⟨g,x0,m,cap,e1,hh⟩:=q.oG;obtain⟨T,X,R,V,hg,D⟩:=s.cells a;have e2:T=g/\X=x0:=by rw[hh] at V;injection V with e _ _;injection e with e;injection e with e e' _;exact⟨e.symm,e'.symm⟩
     obtain⟨rfl,rfl⟩:=e2;exact⟨T,X+i*sz,e1,D⟩
    split at h
    ·rename_i E;obtain⟨hi,h⟩:=h;have F:l[i]?=some l[i]:=IS hi;have h:=h _ F;split at h
     ·rename_i av r;refine .read G (fun c w k d L=>?_) h;have q:=L x (by simp[J,Op.operands]);rw[W] at q;have f:=d;obtain⟨css,s,z,h4,h5⟩:=d;have a:css[i]?=some (css[i]'(by rw[z.len];exact hi)):=IS _;obtain⟨g,p,e1,D⟩:=get c w k _ f q ⟨css,s,a⟩;obtain⟨v,H,I⟩:=pF (b:=g) (p:=p) C r (.bH (z.ju a F)) D;exact⟨v,by rw[run,e1,H];rfl,I⟩
     ·exact h.elim
    ·rename_i isz ie E;split at h
     ·rename_i j y ah;obtain⟨hk,rfl,hi,U,hs1,h⟩:=h;refine .read G (fun c w k d L=>?_) h;have q:=L x (by simp[J,Op.operands]);rw[W] at q;have f:=d;obtain⟨css,s,z,h4,h5⟩:=d;have a:css[j]?=some (css[j]'(by rw[z.len];exact hi)):=IS _;generalize css[j]'(by rw[z.len];exact hi)=us at a;have hul:=s.len us (MI a);have O:us[off]?=some (us[off]' d9):=IS _;generalize us[off]' d9=u at O;obtain⟨g,p,e1,D⟩:=get c w k _ f q ⟨css,s,a⟩;have r:kS ti (us.map AV.ad) off=some (.ad u):=by
       have ha:ti.agg=false:=(by simp[TI.agg,hk]);have:(us.map AV.ad)[off]?=some (.ad u):=by rw[Mb,O];rfl
       unfold kS;rw[ha,Bo this]
      obtain⟨v,H,I⟩:=pF (b:=g) (p:=p) C r (.bH (yV (Φ:=c.Φ) (w:=w) us)) D;have Q:=I.oC;subst Q;obtain⟨e3,A,n,cap,S,Y,Z⟩:=z.hole j off y us v (xr ah) a O;refine⟨v,by rw[run,e1,H];rfl,?_⟩;rw[S];exact .aL (by rw[<-e3,S]) Y Z
     ·exact h.elim
   ·exact h.elim
  ·exact h.elim
 ·exact h.elim
theorem J9.write {t:TypeId} {ti:TI} (Y:X4 P t ti) {w:World} {hdv:Value} {sz e i off:Nat} {css:List (List Value)} {us A:List Value} (n:J9 w hdv sz e css) {g I m cap:Nat} (O:hdv=.slice (some ⟨g,I,none⟩) m cap)
  (l:css[i]?=some us) {v:Value} (G:v.cells.toList.length=ti.size) (N:∀u∈v.cells.toList,u.oneCell'=true) (E:X6 off v.cells.toList us=some A) :
  ∃w',(Instr.storeAt t (.pointer (some ⟨g,I+i*sz+off,none⟩)) v).run P w=.ok () w'/\J9 w' hdv sz e (css.set i A)/\(∀k,k≠g->w'.heap[k]?=w.heap[k]?)/\w'.heap.size=w.heap.size/\w'.os=w.os/\w'.tape=w.tape/\w'.output=w.output:=by
 have Q:i<css.length:=(Lx.1 l).1;rcases n.bg with⟨F,hn⟩|⟨g',x',p,J,a,F,D,U,V,W,L,X⟩
 ·omega
 ·rw[O] at F;injection F with q S T
  injection q with q
  injection q with q B
  subst q B T;have H:=L d9;have r:=xG css i off us v.cells.toList A n.len l E;have C:=fD sz css n.len;have s:a.toList.length=(p+cap)*sz:=by rw[<-W];simp
  have R:p*sz<=a.toList.length:=by rw[s];exact Ml _ d9
  have y:(a.toList.take (p*sz)).length=p*sz:=by rw[Mk];omega
  have c:a.toList=a.toList.take (p*sz)++(css.flatten++(a.toList.drop (p*sz)).drop (css.length*sz)):=by
   rw[<-X,List.take_append_drop,List.take_append_drop]
  have j:=wH (a.toList.take (p*sz)) (Bd ((a.toList.drop (p*sz)).drop (css.length*sz)) r);rw[<-c,y] at j;have x:w.heap[g]?=some (.cells a.toList.toArray e):=by simpa using D
  obtain⟨w',Z,q2,q3,q4,q5,q6,q7⟩:=wP (P:=P) Y G x N j;have f:us∈css:=MI l;have b:∀us∈css.set i A,us.length=sz:=fun us' z=>by
   rcases List.mem_or_eq_of_mem_set z with h|h
   ·exact n.len us' h
   ·rw[h,(fX E).1];exact n.len _ f
  have d:=fD sz (css.set i A) b;refine⟨w',by rw[H,Mg];exact Z,⟨.inr ⟨g,I,p,cap,_,by rw[O,MU,S],q2,by rw[MU];exact U,V,?_,L,?_⟩,b,fun us' z=>?_⟩,q3,q4,q5,q6,q7⟩
  ·have M:a.toList.length=(p+cap)*sz:=s;rw[c,MD,MD,C] at M;rw[List.size_toArray,MD,MD,d,MU];exact M
  ·rw[List.toList_toArray,List.drop_left' y,List.take_left' (by rw[d])]
  ·rcases List.mem_or_eq_of_mem_set z with h|h
   ·exact n.one us' h
   ·rw[h];intro u z;rcases vG E u z with h|h
    ·exact N u h
    ·exact n.one _ f u h
theorem bR.set {css:List (List Value)} {a:cG} {s c:Hs} {i:Nat} {us r:List Value} (k:css[i]?=some us) (b:∀off p,lk a off=some p->¬eZ c i off->r[off]?=us[off]?) (q:∀j off,eZ c j off↔eZ s j off) {j off:Nat} {v:Value} :
  bR (css.set i r) a c j off v↔bR css a s j off v:=by
 have n:i<css.length:=(Lx.1 k).1;constructor
 ·rintro⟨us',p,d,f,l,m⟩;rw[MQ] at d;split at d
  ·rename_i e;subst e;cases d;exact⟨us,p,k,f,by rw[<-b off p f m];exact l,fun h=>m ((q _ _).2 h)⟩
  ·exact⟨us',p,d,f,l,fun h=>m ((q _ _).2 h)⟩
 ·rintro⟨us',p,d,f,l,m⟩;have g:¬eZ c j off:=fun h=>m ((q _ _).1 h);by_cases e:i=j
  ·subst e;rw[k] at d;cases d;exact⟨r,p,by rw[MQ,Mu rfl,Mu n],f,by rw[b off p f g];exact l,g⟩
  ·exact⟨us',p,by rw[MQ,Mt e];exact d,f,l,g⟩
theorem aW.eD {c:Ctx} {w w':World} {id sz e sh i g:Nat} {a:cG} {l l':List (List AV)} {f d:Hs} {css:List (List Value)} {us q:List Value} (aS:T9 c w [(id,.deep sz e a l f sh)]) (T:dh c.Φ c.hd w a f l css)
  (R:∀v,v∈ec (c.hd sh)↔∃i off,bR css a f i off v) (G:∀i off v b,bR css a f i off v->(c.hd id).ownBlock=some b->v.ownBlock=some b->False) (s:(c.hd id).ownBlock=some g) (u:css[i]?=some us)
  (L:J9 w' (c.hd id) sz e (css.set i q)) (C:∀k,k≠g->w'.heap[k]?=w.heap[k]?) (O:w'.heap.size=w.heap.size) (H:w'.os=w.os) (I:w'.tape=w.tape) (J:w'.output=w.output)
  (m:∀off p,lk a off=some p->¬eZ d i off->q[off]?=us[off]?) (M:∀j off,eZ d j off↔eZ f j off)
  (hD:(∀v j off,bR (css.set i q) a d j off v↔bR css a f j off v)->dh c.Φ c.hd w a d l' (css.set i q)) :
  aW c w c w' [(id,.deep sz e a l f sh)] [(id,.deep sz e a l' d sh)] []:=by
 have A:=aS.lt id _ g (j5 _ _ _) (.inl s);have n:∀v j off,bR (css.set i q) a d j off v↔bR css a f j off v:=fun v j off=>bR.set u m M;have y:∀b,c.Φ b->w'.heap[b]?=w.heap[b]?:=fun b t=>C b fun e=>A.2 (e▸t);have r:∀b,aZ c id (.deep sz e a l f sh) b->Touch c [(id,.deep sz e a l f sh)] [(id,.deep sz e a l' d sh)] b:=fun b x=>⟨id,_,j5 _ _ _,by rw[j5];rfl,x⟩;refine aW.mk' aS rfl H I J d9 (fun b _ N=>C b fun e=>N (r b (.inl (by rw[s,e])))) (fun _ _=>⟨rfl,rfl⟩) (fun F o hl=>?_) (fun F o b hl x=>?_) (fun F Q o S b B hl z=>?_)
 ·obtain⟨rfl,rfl⟩:=fF hl;refine⟨_,L,(hD n).af y (fun _ h=>h) (fun _ _ _ _=>rfl) (fun j off v b D E=>C b fun e=>?_),fun v=>?_,fun j off v b D=>G j off v b ((n v j off).1 D)⟩
  ·exact G j off v b ((n v j off).1 D) (by rw[s,e]) E
  ·rw[R v];exact⟨fun⟨j,off,h⟩=>⟨j,off,(n v j off).2 h⟩,fun⟨j,off,h⟩=>⟨j,off,(n v j off).1 h⟩⟩
 ·obtain⟨rfl,rfl⟩:=fF hl;exact .inr (r b x)
 ·obtain⟨rfl,rfl⟩:=fF hl;obtain⟨e,_⟩:=fF z;exact absurd e.symm B
def xa (tab:U2) (os:Os) (t:TypeId) (x y:AV) (K:Kt):Prop :=
 match lk tab t,y.cells?,x with
 |some ti,some vs,.ep id i sz off=>match lk os id with
  |some (.deep b e a l c sh)=>match AT sz b,AT vs.length ti.size with
   |true,true=>match lk a off with
    |none=>AV.au vs=[]/\(a.all fun p=>Nat.blt p.1 off || IN (off+vs.length) p.1)=true/\(c.all fun p=>(lk a p.2.1).isSome)=true/\i<l.length/\∀f,l[i]?=some f->match X6 off vs f with
     |some d=>∃q,q=l.set i d/\K .any [id] [] [(id,.deep b e a q c sh)]
     |none=>False
    |some _=>match vs,fv c off with
     |[.aL y],some (j,_)=>nq c=true/\j=i/\i<l.length/\off<b/\K .any [id] [] [(id,.deep b e a l ((i,off,y)::eE c off) sh)]
     |_,_=>False
   |_,_=>False
  |_=>False
 |_,_,_=>False
def IG (hT:M5 P tab) {t:TypeId} {x y:Operand} (ho:o.op=.store t x y) (h:xa tab os t (ev x) (ev y) K):Y8 P o ev os K:=by
 have run:∀(H:Operand->Value) (w w':World),(Instr.storeAt t (H x) (H y)).run P w=.ok () w'->(execOp H o).run P w=.ok .skip w':=fun H w w' h=>by simp[execOp,ho,h]
 unfold xa at h;split at h
 ·rename_i ti vs id i sz off hti hvs hx;have hTi:=hT t ti hti;split at h
  ·rename_i sz' e D l X sh hid;split at h
   ·rename_i hsz Z;obtain rfl:=MG hsz;have Z:=MG Z;have base:∀(c:Ctx) (w:World) (H:Operand->Value),T9 c w [(id,.deep sz e D l X sh)]->(∀z∈o.op.operands.toList,Rd c w (H z) (ev z))->i<l.length->off+ti.size<=sz ->
      ∃css us rs g w',dh c.Φ c.hd w D X l css/\J9 w (c.hd id) sz e css/\(∀v,v∈ec (c.hd sh)↔∃i off,bR css D X i off v)/\(∀i off v b,bR css D X i off v->(c.hd id).ownBlock=some b->v.ownBlock=some b->False)/\(c.hd id).ownBlock=some g/\css[i]?=some us /\
       X6 off (H y).cells.toList us=some rs/\(execOp H o).run P w=.ok .skip w'/\J9 w' (c.hd id) sz e (css.set i rs)/\(∀k,k≠g->w'.heap[k]?=w.heap[k]?)/\w'.heap.size=w.heap.size/\w'.os=w.os/\w'.tape=w.tape/\w'.output=w.output/\us.length=sz:=fun c w H aS hr hi hoff=>by
     have r1:=hr x (by simp[ho,Op.operands]);have r2:=hr y (by simp[ho,Op.operands]);rw[hx] at r1;obtain⟨css,p1,C,p3,p4⟩:=aS.rep id _ (j5 _ _ _);obtain⟨g,x0,m,cap,e1,hh⟩:=r1.oG;obtain⟨rv,h1⟩:=kN r2 hvs;have f:css[i]?=some (css[i]'(by rw[C.len];exact hi)):=IS _;generalize css[i]'(by rw[C.len];exact hi)=us at f;have Y:=p1.len us (MI f);have E:(H y).cells.toList.length=ti.size:=by rw[rv.length];exact Z
     obtain⟨rs,s⟩:=ir off (H y).cells.toList us (by rw[E,Y];exact hoff);obtain⟨w',q1,q2,q3,q4,q5,q6,q7⟩:=J9.write (P:=P) hTi p1 hh f E h1 s;exact⟨css,us,rs,g,w',C,p1,p3,p4,by rw[hh];rfl,f,s,run H w w' (by rw[e1];exact q1),q2,q3,q4,q5,q6,q7,Y⟩
    split at h
    ·obtain⟨hids,hcols,hhc,hi,h⟩:=h;have S:l[i]?=some l[i]:=IS hi;have h:=h _ S;generalize l[i]=cs at S h;split at h
     ·rename_i cs' O;obtain⟨q,rfl,h⟩:=h;refine fun _=>⟨_,[(id,.deep sz e D l X sh)],_,[],fun c w H aS hr=>?_,fun i ob h=>fh h hid,fun _ h=>(by cases h),h⟩;have hlen:off+ti.size<=sz:=by
       obtain⟨css,p1,C,_⟩:=aS.rep id _ (j5 _ _ _);have f:css[i]?=some (css[i]'(by rw[C.len];exact hi)):=IS _;have h1:=(C.cell i _ _ f S).1;have h2:=p1.len _ (MI f);have h3:=(fX O).2;omega
      obtain⟨css,us,rs,g,w',C,p1,p3,p4,hb,f,s,V,hR,ho',hs',k1,k2,k3,Y⟩:=base c w H aS hr hi hlen;rw[V];obtain⟨rv,h1⟩:=kN (hr y (by simp[ho,Op.operands])) hvs;have rf:=rv.ju hids;have E:(H y).cells.toList.length=vs.length:=rv.length;have Q:∀d p,lk D d=some p->¬(off<=d/\d<off+vs.length):=fun d p hp=>by
       have:=MK.1 hcols _ (dW hp);simp only[Bool.or_eq_true] at this;rcases this with h|h
       ·have:=MR h;omega
       ·have:=MR h;omega
      refine⟨c,aW.eD aS C p3 p4 hb f hR ho' hs' k1 k2 k3 (fun d p hp _=>?_) (fun _ _=>Iff.rfl) (fun hI=>⟨by simp[C.len],fun k us' F G J=>?_,fun k us' F d isz ie u G J L B N=>?_,fun k d x us' u R G B=>?_,fun a1 a2 a3 a4 a5 a6 b i1 i2=>C.apart a1 a2 a3 a4 a5 a6 b ((hI _ _ _).1 i1) ((hI _ _ _).1 i2)⟩),Rd.dS _⟩
      ·rw[Y1 s,Mt (by rw[E];exact Q d p hp)]
      ·rw[MQ] at G J;by_cases I:i=k
       ·subst I;rw[Mu rfl,Mu (Lx.1 f).1] at G;rw[Mu rfl,Mu hi] at J;cases G;cases J;have W:=C.cell i us cs f S;refine⟨by rw[(fX s).1,(fX O).1];exact W.1,fun d u a B M hn=>?_⟩;rw[Y1 s,E] at B;rw[Y1 O] at M;by_cases hin:off<=d/\d<off+vs.length
        ·rw[Mu hin] at B M;obtain⟨v,hv,hva⟩:=rf.get M;rw[B] at hv;cases hv;exact hva
        ·rw[Mt hin] at B M;exact W.2 d u a B M hn
       ·rw[Mt I] at G J;exact C.cell k us' F G J
      ·rw[MQ] at G J;by_cases I:i=k
       ·subst I;rw[Mu rfl,Mu (Lx.1 f).1] at G;rw[Mu rfl,Mu hi] at J;cases G;cases J;rw[Y1 s,E,Mt (Q d _ L)] at B;rw[Y1 O,Mt (Q d _ L)];exact C.inner i us cs d isz ie u f S L B N
       ·rw[Mt I] at G J;exact C.inner k us' F d isz ie u G J L B N
      ·rw[MQ] at G;by_cases I:i=k
       ·subst I;rw[Mu rfl,Mu (Lx.1 f).1] at G;cases G;have L:=MK.1 hhc _ R;obtain⟨p,hp⟩:=Option.isSome_iff_exists.1 L;rw[Y1 s,E,Mt (Q d p hp)] at B;exact C.hole i d x us u R f B
       ·rw[Mt I] at G;exact C.hole k d x us' u R G B
     ·exact h.elim
    ·rename_i p L;split at h
     ·rename_i y' j x' ah hvb;obtain⟨G,rfl,hi,hoff,h⟩:=h;refine fun _=>⟨_,[(id,.deep sz e D l X sh)],_,[],fun c w H aS hr=>?_,fun i ob h=>fh h hid,fun _ h=>(by cases h),h⟩;have h1s:ti.size=1:=by rw[<-Z];rfl
      obtain⟨css,us,rs,g,w',C,p1,p3,p4,hb,f,s,V,hR,ho',hs',k1,k2,k3,Y⟩:=base c w H aS hr hi d9;rw[V];obtain⟨rv,h1⟩:=kN (hr y (by simp[ho,Op.operands])) hvs;have T:∀k d,eZ ((j,off,y')::eE X off) k d↔eZ X k d:=fun k d=>by
       constructor
       ·rintro⟨z,hz⟩;rcases Ly.1 hz with e|hz
        ·cases e;exact⟨_,xr ah⟩
        ·exact⟨z,(nU.1 hz).1⟩
       ·rintro⟨z,hz⟩;by_cases e:d=off
        ·subst e;obtain⟨rfl,rfl⟩:=CU G ah hz;exact⟨y',l8⟩
        ·exact⟨z,Mi _ (nU.2 ⟨hz,e⟩)⟩
      obtain⟨v,hvv,hrv⟩:∃v,(H y).cells.toList=[v]/\Rd c w v (.aL y'):=by
       revert rv;generalize (H y).cells.toList=vl;intro rv;cases rv with|cons a b=>cases b;exact⟨_,rfl,a⟩
      rw[hvv] at s;obtain⟨A,n,cap,e1,e2,e3,e4⟩:=hrv.bJ;have hjo:eZ ((j,off,y')::eE X off) j off:=⟨y',l8⟩;refine⟨c,aW.eD aS C p3 p4 hb f hR ho' hs' k1 k2 k3 (fun d p hp N=>?_) T (fun hI=>⟨by simp[C.len],fun k us' F r J=>?_,fun k us' F d isz ie u r J hcl' B N=>?_,fun k d x us' u R r B=>?_,fun a1 a2 a3 a4 a5 a6 b i1 i2=>C.apart a1 a2 a3 a4 a5 a6 b ((hI _ _ _).1 i1) ((hI _ _ _).1 i2)⟩),Rd.dS _⟩
      ·have U:¬(off<=d/\d<off+[v].length):=by
        simp only[Mp];intro h';have:d=off:=d9;subst this;exact N hjo
       rw[Y1 s,Mt U]
      ·rw[MQ] at r;by_cases I:j=k
       ·subst I;rw[Mu rfl,Mu (Lx.1 f).1] at r;cases r;have W:=C.cell j us F f J;refine⟨by rw[(fX s).1];exact W.1,fun d u a B M hn=>?_⟩;have U:¬(off<=d/\d<off+[v].length):=by
         simp only[Mp];intro h';have:d=off:=d9;subst this;rw[L] at hn;cases hn
        rw[Y1 s,Mt U] at B;exact W.2 d u a B M hn
       ·rw[Mt I] at r;exact C.cell k us' F r J
      ·have hno':¬eZ X k d:=fun h'=>N ((T _ _).2 h');rw[MQ] at r;by_cases I:j=k
       ·subst I;rw[Mu rfl,Mu (Lx.1 f).1] at r;cases r;have U:¬(off<=d/\d<off+[v].length):=by
         simp only[Mp];intro h';have:d=off:=d9;subst this;exact N hjo
        rw[Y1 s,Mt U] at B;exact C.inner j us F d isz ie u f J hcl' B hno'
       ·rw[Mt I] at r;exact C.inner k us' F d isz ie u r J hcl' B hno'
      ·rw[MQ] at r;by_cases I:j=k
       ·subst I;rw[Mu rfl,Mu (Lx.1 f).1] at r;cases r;rw[Y1 s] at B;by_cases e:d=off
        ·subst e;rw[Mu l8] at B;simp only[Nat.sub_self,Mq,Option.some.injEq] at B;subst B;have hx':x=y':=by
          rcases Ly.1 R with e'|R
          ·cases e';rfl
          ·exact absurd rfl (nU.1 R).2
         subst hx';exact⟨by rw[e1,e2],A,n,cap,e1,e3,e4⟩
        ·rw[Mt (by simp only[Mp];omega)] at B;rcases Ly.1 R with e'|R
         ·cases e';exact absurd rfl e
         ·exact C.hole j d x us u (nU.1 R).1 f B
       ·rw[Mt I] at r;rcases Ly.1 R with e'|R
        ·cases e';exact absurd rfl I
        ·exact C.hole k d x us' u (nU.1 R).1 r B
     ·exact h.elim
   ·exact h.elim
  ·exact h.elim
 ·exact h.elim
theorem aW.deep {c:Ctx} {w w':World} {need:Os} {d sh sz e:Nat} {a:cG} {l:List (List AV)} {css:List (List Value)} {n:Value} (aS:T9 c w need) (E:d≠sh) (t:lk need d=none) (y:lk need sh=none)
  (cq:w'.os=w.os) (tape:w'.tape=w.tape) (output:w'.output=w.output) (size:w.heap.size<=w'.heap.size) (f:Nat->Prop) (m:∀b,f b↔∃id o,lk need id=some o/\aZ c id o b)
  (af:∀b,b<w.heap.size->¬f b->w'.heap[b]?=w.heap[b]?) (O:J9 w' n sz e css)
  (hD:dh c.Φ c.hd w' a [] l css) (k:∀b,n.ownBlock=some b->w.heap.size<=b\/f b) (R:∀i off v b,bR css a [] i off v->v.ownBlock=some b->(w.heap.size<=b/\b<w'.heap.size)\/f b)
  (S:∀i off v b,bR css a [] i off v->n.ownBlock=some b->v.ownBlock=some b->False) :
  ∃L:List Value,aW c w ((c.aQ d n).aQ sh (.tuple L.toArray)) w' need ((d,.deep sz e a l [] sh)::(sh,.aF)::I6 need) [d,sh]:=by
 obtain⟨L,N⟩:=xo css a [];refine⟨L,?_⟩;have C:((c.aQ d n).aQ sh (.tuple L.toArray)).hd d=n:=by simp[Ctx.aQ,E]
 have M:((c.aQ d n).aQ sh (.tuple L.toArray)).hd sh=.tuple L.toArray:=by simp[Ctx.aQ]
 have Y:∀id,(lk (I6 need) id).isSome=(lk need id).isSome:=sH need;have T:∀b,f b->Touch c need ((d,.deep sz e a l [] sh)::(sh,.aF)::I6 need) b:=fun b k=>by
  obtain⟨id,o,s,A⟩:=(m b).1 k;refine⟨id,o,s,?_,A⟩;have n1:d≠id:=fun e=>by rw[e,s] at t;cases t
  have n2:sh≠id:=fun e=>by rw[e,s] at y;cases y
  rw[F7 _ _ n1,F7 _ _ n2,Y,s];rfl
 have j:∀id o,lk ((d,Obj.deep sz e a l [] sh)::(sh,.aF)::I6 need) id=some o->(id=d/\o=.deep sz e a l [] sh)\/(id≠d/\o=.aF):=fun id o hl=>by
  rw[l9] at hl;split at hl
  ·rename_i e1;cases hl;exact .inl ⟨e1.symm,rfl⟩
  ·rename_i e1;rw[l9] at hl;split at hl
   ·cases hl;exact .inr ⟨fun h=>e1 h.symm,rfl⟩
   ·exact .inr ⟨fun h=>e1 h.symm,lh hl⟩
 have U:∀b,c.Φ b->w'.heap[b]?=w.heap[b]?:=fun b k=>af b (aS.aw b k) fun Z=>by
  obtain⟨id,o,s,A⟩:=(m b).1 Z;exact(aS.lt id o b s A).2 k
 have vb:∀b,n.ownBlock=some b->(w.heap.size<=b/\b<w'.heap.size)\/f b:=fun b h=>by
  rcases k b h with B|B
  ·refine .inl ⟨B,?_⟩;rcases O.bg with⟨e1,_⟩|⟨g,x,p,cp,Q,e1,V,_⟩
   ·rw[e1] at h;cases h
   ·rw[e1] at h;injection h with h
    subst h;exact(Array.getElem?_eq_some_iff.1 V).1
  ·exact .inr B
 refine aW.mk' aS rfl cq tape output size (fun b k X=>af b k fun h=>X (T b h)) (fun id r=>⟨rfl,?_⟩) (fun id o hl=>?_) (fun id o b hl q=>?_) (fun id J o o' b H hl G q F=>?_)
 ·simp only[Ly,List.not_mem_nil,or_false,not_or] at r;simp[Ctx.aQ,r.1,r.2]
 ·rcases j id o hl with⟨rfl,rfl⟩|⟨_,rfl⟩
  ·refine⟨css,by rw[C];exact O,⟨hD.len,hD.cell,hD.inner,fun i off x us u W=>(by cases W),hD.apart⟩,fun v=>by rw[M,nW];exact N v,fun i off v b z D=>S i off v b z (by rwa [C] at D)⟩
  ·trivial
 ·rcases j id o hl with⟨rfl,rfl⟩|⟨_,rfl⟩
  ·rcases q with q|⟨v,z,I⟩
   ·rw[C] at q;exact(vb b q).imp (fun h=>h) (T b)
   ·rw[M,nW] at z;obtain⟨i,off,hi⟩:=(N v).1 z;exact(R i off v b hi I).imp (fun h=>h) (T b)
  ·exact q.elim
 ·rcases j id o hl with⟨rfl,rfl⟩|⟨_,rfl⟩<;>rcases j J o' G with⟨rfl,rfl⟩|⟨_,rfl⟩<;>first|exact H rfl|exact q.elim|exact F.elim
def ux {c:Ctx} {w:World} {need:Os} {id sz e sh:Nat} {a:cG} {l:List (List AV)} (aS:T9 c w need) (d:lk need id=some (.deep sz e a l [] sh)):∃css,J9 w (c.hd id) sz e css/\dh c.Φ c.hd w a [] l css /\
  (∀i off v b,bR css a [] i off v->(c.hd id).ownBlock=some b->v.ownBlock=some b->False)/\(∀i off v b,bR css a [] i off v->v.ownBlock=some b->aZ c id (.deep sz e a l [] sh) b):=by
 obtain⟨css,f,g,h,j⟩:=aS.rep id _ d;exact⟨css,f,g,j,fun i off v b m k=>.inr ⟨v,(h v).2 ⟨i,off,m⟩,k⟩⟩
def nN {i off:Nat}:¬eZ [] i off:=fun⟨_,h⟩=>by cases h
theorem bR.take {css:List (List Value)} {a:cG} {n i off:Nat} {v:Value} (h:bR (css.take n) a [] i off v):bR css a [] i off v:=by
 obtain⟨us,p,b,c,d,e⟩:=h;rw[Mm] at b;split at b
 ·exact⟨us,p,b,c,d,nN⟩
 ·cases b
theorem dh.take {Φ:Nat->Prop} {hd:Nat->Value} {w:World} {e:cG} {l:List (List AV)} {css:List (List Value)} (h:dh Φ hd w e [] l css) (n:Nat):dh Φ hd w e [] (l.take n) (css.take n):=by
 have g1:∀(i:Nat) us,(css.take n)[i]?=some us->css[i]?=some us:=fun i us c=>by
  rw[Mm] at c;split at c
  ·exact c
  ·cases c
 have k:∀(i:Nat) f,(l.take n)[i]?=some f->l[i]?=some f:=fun i us c=>by
  rw[Mm] at c;split at c
  ·exact c
  ·cases c
 exact⟨by simp[h.len],fun i us f c j=>h.cell i us f (g1 i us c) (k i f j),fun i us f off isz ie u c j a b d=>h.inner i us f off isz ie u (g1 i us c) (k i f j) a b d,fun i off x us u q=>(by cases q),
  fun i off v r g s b m p=>h.apart i off v r g s b m.take p.take⟩
def xj (tab:U2) (os:Os) (d:Nat) (t:TypeId) (x:AV) (c hi:Option AV) (K:Kt):Prop :=
 match lk tab t,x,c,hi with
 |some ti,.aL id,none,some (.int b)=>match lk os id,lk tab ti.elem with
  |some (.deep sz e a l [] _),some te=>match AT id d,AT id (d+700) with
   |false,false=>ti.kind=2/\te.size=sz/\0<=b/\b<=(l.length:Int)/\∀q,q=l.take b.toNat->K (.aL d) [id] [d,d+700] [(d,.deep sz e a q [] (d+700)),(d+700,.aF),(id,.aF)]
   |_,_=>False
  |_,_=>False
 |_,_,_,_=>False
def IF (D:M5 P tab) (d:Nat) {t:TypeId} {x:Operand} {q hi:Option Operand} (u:o.op=.slice t x q hi none) (h:xj tab os d t (ev x) (cI ev q) (cI ev hi) K):Y8 P o ev os K:=by
 have run:∀(j:Operand->Value) (w:World) (v:Value),(Instr.sliceAt t (j x) (q.map j) (hi.map j) none).run P w=.ok v w->(execOp j o).run P w=.ok (.value v) w:=fun j w v h=>by simp[execOp,u,h]
 unfold xj at h;split at h
 ·rename_i ti id b B S O m;split at h
  ·rename_i sz e g l sh te s y;split at h
   ·rename_i k f;obtain⟨N,rfl,J,Y,h⟩:=h;have k:id≠d:=fun e=>by subst e;simp at k
    have f:id≠d+700:=fun e=>by rw[<-e] at f;simp at f
    have R:=(D t ti B).aj N;obtain⟨rfl⟩:q=none:=by cases q<;>simp_all [cI]
    cases hi with
    |none=>simp[cI] at m
    |some z =>
     simp only[cI,Option.some.injEq] at m;refine fun _=>⟨_,[(id,.deep te.size e g l [] sh)],_,[d,d+700],fun c w j aS F=>?_,fun i ob h=>fh h s,fun i hi=>?_,h _ rfl⟩
     ·have G:=F x (by simp[u,Op.operands]);have H:=F z (by simp[u,Op.operands]);rw[S] at G;rw[m] at H;obtain⟨A,cap,e1,E,X,I⟩:=pX (aS.rep id _ (j5 _ _ _)) G;obtain⟨css,T,U,V,W⟩:=ux aS (j5 _ _ _);have p:(execOp j o).run P w=.ok (.value (.slice A b.toNat cap)) w:=by
       refine run j w _ ?_;rw[e1];simp only[Option.map_none,MW,H.ak.1];exact um R (D _ te y) J d9
      have M:J9 w (.slice A b.toNat cap) te.size e (css.take b.toNat):=J9.take (by rw[<-E];exact T) d9;have n:(Value.slice A b.toNat cap).ownBlock=(c.hd id).ownBlock:=by rw[E];cases A<;>rfl
      obtain⟨L,Q⟩:=aW.deep (w':=w) (l:=l.take b.toNat) (sh:=d+700) aS (by omega:d≠d+700) (by rw[F7 _ _ k];rfl) (by rw[F7 _ _ f];rfl) rfl rfl rfl (It _) (aZ c id (.deep te.size e g l [] sh)) (fun b=>by rw[tL]) (fun _ _ _=>rfl) M (U.take b.toNat)
       (fun r a=>.inr (.inl (by rw[<-n];exact a))) (fun i off v r C a=>.inr (W i off v r C.take a)) (fun i off v r C a=>V i off v r C.take (by rw[<-n];exact a))
      rw[p];exact⟨_,Q,.aL (by simp[Ctx.aQ]) d9 I⟩
     ·simp only[Ly,List.not_mem_nil,or_false] at hi;rcases hi with rfl|rfl
      ·rw[j5];rfl
      ·rw[F7 _ _ d9,j5];rfl
   ·exact h.elim
  ·exact h.elim
 ·exact h.elim
theorem bR.app {css b:List (List Value)} {a:cG} {i off:Nat} {v:Value} (h:bR (css++b) a [] i off v):(i<css.length/\bR css a [] i off v)\/(css.length<=i/\bR b a [] (i-css.length) off v):=by
 obtain⟨us,p,c,d,e,f⟩:=h;by_cases hi:i<css.length
 ·rw[Mh hi] at c;exact .inl ⟨hi,us,p,c,d,e,nN⟩
 ·rw[MS d9] at c;exact .inr ⟨d9,us,p,c,d,e,nN⟩
theorem dh.append {Φ:Nat->Prop} {hd:Nat->Value} {w:World} {c:cG} {l l2:List (List AV)} {css e:List (List Value)} (h:dh Φ hd w c [] l css) (z:dh Φ hd w c [] l2 e)
  (B:∀i off v A f r b,bR css c [] i off v->bR e c [] A f r->v.ownBlock=some b->r.ownBlock=some b->False):dh Φ hd w c [] (l++l2) (css++e):=by
 have s:∀(i:Nat) us g,(css++e)[i]?=some us->(l++l2)[i]?=some g->(css[i]?=some us/\l[i]?=some g)\/(e[i-css.length]?=some us/\l2[i-css.length]?=some g):=fun i us g k j=>by
  by_cases hi:i<css.length
  ·rw[Mh hi] at k;rw[Mh (by rw[<-h.len];exact hi)] at j;exact .inl ⟨k,j⟩
  ·rw[MS d9] at k;rw[MS (by rw[<-h.len];omega),<-h.len] at j;exact .inr ⟨k,j⟩
 refine⟨by simp[h.len,z.len],fun i us g k j=>?_,fun i us g off isz ie u k j a b d=>?_,fun i off x us u G=>(by cases G),fun i off v A f r b C D t y=>?_⟩
 ·rcases s i us g k j with⟨m,n⟩|⟨m,n⟩
  ·exact h.cell i us g m n
  ·exact z.cell _ us g m n
 ·rcases s i us g k j with⟨m,n⟩|⟨m,n⟩
  ·exact h.inner i us g off isz ie u m n a b nN
  ·exact z.inner _ us g off isz ie u m n a b nN
 ·rcases C.app with⟨E,p⟩|⟨E,p⟩<;>rcases D.app with⟨F,q⟩|⟨F,q⟩
  ·exact h.apart i off v A f r b p q t y
  ·exact(B _ _ _ _ _ _ b p q t y).elim
  ·exact(B _ _ _ _ _ _ b q p y t).elim
  ·have:=z.apart _ off v _ f r b p q t y;exact⟨d9,this.2⟩
def xQ (tab:U2) (os:Os) (d:Nat) (t g:TypeId) (x y:AV) (K:Kt):Prop :=
 match lk tab t,AT t g,x,y with
 |some ti,true,.aL id,.aL a=>match lk os id,lk os a,lk tab ti.elem with
  |some (.deep sz e b l [] _),some (.deep f h c l2 [] _),some te=>match AT id a,AT id d,AT a d,AT id (d+700),AT a (d+700) with
   |false,false,false,false,false=>ti.kind=2/\te.size=sz/\f=sz/\e=ti.elem/\c=b/\0<sz/\1<=te.bytes/\(l.length+l2.length)*te.bytes<=140737488355328/\∀q,q=l++l2->K (.aL d) [id,a] [d,d+700] [(d,.deep sz e b q [] (d+700)),(d+700,.aF),(id,.aF),(a,.aF)]
   |_,_,_,_,_=>False
  |_,_,_=>False
 |_,_,_,_=>False
def d47 (hT:M5 P tab) (d:Nat) {t t':TypeId} {x y:Operand} (ho:o.op=.call { callee:=.builtin .append,args:=#[x,y],argTypes:=#[t,t'] }) (h:xQ tab os d t t' (ev x) (ev y) K):Y8 P o ev os K:=by
 unfold xQ at h;split at h
 ·rename_i ti id g hti htt hx hy;obtain rfl:=MG htt;split at h
  ·rename_i sz e cols1 l sh sz2 B f l2 n te hid N hte;split at h
   ·rename_i U n2 n3 V W;have U:id≠g:=fun e=>by subst e;simp at U
    have n2:id≠d:=fun e=>by subst e;simp at n2
    have n3:g≠d:=fun e=>by subst e;simp at n3
    have V:id≠d+700:=fun e=>by rw[<-e] at V;simp at V
    have W:g≠d+700:=fun e=>by rw[<-e] at W;simp at W
    obtain⟨hk,rfl,rfl,rfl,rfl,O,hpb,p,h⟩:=h;refine fun _=>⟨_,[(id,.deep te.size ti.elem f l [] sh),(g,.deep te.size B f l2 [] n)],_,[d,d+700],fun c w ρ aS hr=>?_,fun i ob h=>?_,fun i hi=>?_,h _ rfl⟩
    ·have g1:lk [(id,Obj.deep te.size ti.elem f l [] sh),(g,.deep te.size B f l2 [] n)] id=some (.deep te.size ti.elem f l [] sh):=j5 _ _ _;have I:lk [(id,Obj.deep te.size ti.elem f l [] sh),(g,.deep te.size B f l2 [] n)] g=some (.deep te.size B f l2 [] n):=by rw[F7 _ _ U,j5]
     have r1:=hr x (by simp[ho,Op.operands,Go.Call.operands]);have r2:=hr y (by simp[ho,Op.operands,Go.Call.operands]);rw[hx] at r1;rw[hy] at r2;obtain⟨A,cap,e1,hh,b1,b2⟩:=pX (aS.rep id _ g1) r1;obtain⟨A2,cap2,e1',hh',b1',b2'⟩:=pX (aS.rep g _ I) r2;obtain⟨css,p1,p2,p3,Y⟩:=ux aS g1;obtain⟨j,s1,s2,s3,H⟩:=ux aS I;have R:Src c.Φ w te.size (c.hd g) (j.map fun us=>us.map AV.ad):=Src.jL (e:=B) ⟨j,s1,l8,fun i us cs hu hc=>by
      rw[Mb,hu] at hc;cases hc;exact yV us⟩
     have hl:css.length+(j.map fun us=>us.map AV.ad).length<=maxLen:=by
      have:(l.length+l2.length)*1<=(l.length+l2.length)*te.bytes:=Nat.mul_le_mul_left _ hpb;rw[MP,p2.len,s2.len];simp only[maxLen];omega
     obtain⟨v',w',q,Q,q1,q2,E,q4,q5⟩:=Au (P:=P) (hT t ti hti) hk (hT _ te hte) O o.type p1 R (by rw[MP,p2.len,s2.len];exact p) hl;have hcc:q=j:=by
      have F:∀(a b:List Value),H6 c.Φ w a (b.map AV.ad)->a=b:=by
       intro a b
       induction b generalizing a with
       |nil=>intro h;cases h;rfl
       |cons x b ih =>
        intro h;cases h with|cons r s =>
        cases r;rw[ih _ s]
      apply Mf;intro i;rw[MP] at q1;by_cases hi:i<j.length
      ·have r:j[i]?=some j[i]:=IS hi;have h3:q[i]?=some (q[i]' d9):=IS d9;rw[r,h3,F _ j[i] (q5 i _ _ h3 (by rw[Mb,r];rfl))]
      ·rw[MV d9,MV d9]
     subst hcc;have G:(execOp ρ o).run P w=.ok (.value v') w':=by
      simp[execOp,ho,resolve,invoke,builtin,e1,e1',<-hh,<-hh',Q]
     have z:∀b,aZ c id (.deep te.size ti.elem f l [] sh) b->aZ c g (.deep te.size B f l2 [] n) b->False:=fun b r s=>aS.sep id g _ _ b U g1 I r s;have k:∀b,(c.hd id).ownBlock=some b->aZ c id (.deep te.size ti.elem f l [] sh) b:=fun b p=>.inl p;have X:∀b,(c.hd g).ownBlock=some b->aZ c g (.deep te.size B f l2 [] n) b:=fun b p=>.inl p;have S:∀b,aZ c id (.deep te.size ti.elem f l [] sh) b->b<w.heap.size:=fun b h=>(aS.lt id _ b g1 h).1;have D:∀b,aZ c g (.deep te.size B f l2 [] n) b->b<w.heap.size:=fun b h=>(aS.lt g _ b I h).1;have M:∀b,c.Φ b->w'.heap[b]?=w.heap[b]?:=fun b p=>E.block b (aS.aw b p) fun e=>(aS.lt id _ b g1 (k b e.symm)).2 p;have k1:dh c.Φ c.hd w' f [] l css:=p2.af M (fun _ h=>h) (fun _ _ _ h=>(by cases h)) fun i off v b C m=>E.block b (S b (Y i off v b C m)) fun e=>p3 i off v b C e.symm m;have k2:dh c.Φ c.hd w' f [] l2 q:=s2.af M (fun _ h=>h) (fun _ _ _ h=>(by cases h)) fun i off v b C m=>E.block b (D b (H i off v b C m)) fun e=>z b (k b e.symm) (H i off v b C m);have u:∀b,v'.ownBlock=some b->w.heap.size<=b\/(c.hd id).ownBlock=some b:=fun b p=>by
      rcases q4 with h|h
      ·exact .inr (h▸p)
      ·exact .inl (h b p)
     obtain⟨L,hp⟩:=aW.deep (w':=w') (l:=l++l2) (sh:=d+700) (d:=d) aS (by omega:d≠d+700) (by rw[F7 _ _ n2,F7 _ _ n3];rfl) (by rw[F7 _ _ V,F7 _ _ W];rfl) E.os E.tape E.output E.size
      (fun b=>aZ c id (.deep te.size ti.elem f l [] sh) b\/aZ c g (.deep te.size B f l2 [] n) b) (fun b=>⟨fun h=>by
       rcases h with h|h
       ·exact⟨id,_,g1,h⟩
       ·exact⟨g,_,I,h⟩,fun⟨i,o',r,s⟩=>by
       rw[l9] at r;split at r
       ·rename_i e;subst e;cases r;exact .inl s
       ·obtain⟨rfl,rfl⟩:=fF r;exact .inr s⟩) (fun b p hn=>E.block b p fun e=>hn (.inl (k b e.symm))) q2
      (k1.append k2 fun i off v i' T v2 b a1 a2 Z c2=>z b (Y i off v b a1 Z) (H i' T v2 b a2 c2))
      (fun b p=>(u b p).imp (fun h=>h) fun h=>.inl (k b h)) (fun i off v b C m=>by
       rcases C.app with⟨_,h⟩|⟨_,h⟩
       ·exact .inr (.inl (Y i off v b h m))
       ·exact .inr (.inr (H _ off v b h m))) (fun i off v b C r s=>by
       rcases C.app with⟨_,h⟩|⟨_,h⟩
       ·rcases u b r with J|J
        ·have:=S b (Y i off v b h s);omega
        ·exact p3 i off v b h J s
       ·rcases u b r with J|J
        ·have:=D b (H _ off v b h s);omega
        ·exact z b (k b J) (H _ off v b h s))
     rw[G];refine⟨_,hp,?_⟩;obtain⟨A3,cap3,hv3,Z,c2⟩:=q2.head;rw[hv3];exact .aL (by simp[Ctx.aQ]) Z c2
    ·rw[l9] at h;split at h
     ·rename_i e;subst e;cases h;exact hid
     ·obtain⟨rfl,rfl⟩:=fF h;exact N
    ·simp only[Ly,List.not_mem_nil,or_false] at hi;rcases hi with rfl|rfl
     ·rw[j5];rfl
     ·rw[F7 _ _ d9,j5];rfl
   ·exact h.elim
  ·exact h.elim
 ·exact h.elim
def qK (os:Os) (b:cG):List AV->Nat->Option (List AV×Os)
 |[],_=>some ([],[])
 |a::r,o=>match qK os b r (o+1) with
  |some (e,g)=>match lk b o with
   |none=>match a.ids with
    |[]=>some (a::e,g)
    |_=>none
   |some (isz,ie)=>match a with
    |.aP=>some (.sl isz []::e,g)
    |.aL y=>match lk os y with
     |some (.row c ls d)=>match AT isz c,AT ie d,lk g y with
      |true,true,none=>some (.sl isz ls::e,(y,.row c ls d)::g)
      |_,_,_=>none
     |_=>none
    |_=>none
  |none=>none
structure Ju (os:Os) (cols:cG) (a_ cs:List AV) (o:Nat) (g:Os):Prop where
 len:cs.length=a_.length
 sub:∀id ob,lk g id=some ob->lk os id=some ob
 cell:∀off a,cs[off]?=some a->lk cols (o+off)=none->a_[off]?=some a/\a.ids=[]
 tO:∀off isz ie,off<cs.length->lk cols (o+off)=some (isz,ie)->(a_[off]?=some .aP/\cs[off]?=some (.sl isz []))\/∃y ls,a_[off]?=some (.aL y)/\lk g y=some (.row isz ls ie)/\cs[off]?=some (.sl isz ls)
 one:∀off off' y p p',lk cols (o+off)=some p->lk cols (o+off')=some p'->a_[off]?=some (.aL y)->a_[off']?=some (.aL y)->off=off'
 from_:∀id ob,lk g id=some ob->∃off p isz ls ie,lk cols (o+off)=some p/\a_[off]?=some (.aL id)/\ob=.row isz ls ie
theorem DB {os:Os} {n:cG}:∀{a_ C:List AV} {o:Nat} {g:Os},qK os n a_ o=some (C,g)->Ju os n a_ C o g
 |[],C,o,g,h=>by
  simp only[qK,Option.some.injEq,Prod.mk.injEq] at h;obtain⟨rfl,rfl⟩:=h;exact⟨rfl,fun _ _ h=>(by cases h),fun off a h=>by simp at h,fun off isz ie h=>by simp at h,fun off c y p A _ _ h=>by simp at h,fun _ _ h=>(by cases h)⟩
 |a::r,C,o,g,h=>by
  rw[qK] at h;cases E:qK os n r (o+1) with
  |none=>rw[E] at h;cases h
  |some q =>
   obtain⟨D,g1⟩:=q;rw[E] at h;have ih:=DB E;have sh:∀off,o+(off+1)=o+1+off:=fun off=>d9;simp only at h;split at h
   ·rename_i d;split at h
    ·rename_i B;simp only[Option.some.injEq,Prod.mk.injEq] at h;obtain⟨rfl,rfl⟩:=h;refine⟨by simp[ih.len],ih.sub,fun off b w t=>?_,fun off isz ie hl l=>?_,fun off c y p A k i j s=>?_,fun id ob u=>?_⟩
     ·cases off with
      |zero=>simp at w;subst w;exact⟨rfl,B⟩
      |succ off=>rw[sh] at t;simpa using ih.cell off b (by simpa using w) t
     ·cases off with
      |zero=>simp only[Nat.add_zero] at l;rw[d] at l;cases l
      |succ off=>rw[sh] at l;simpa using ih.tO off isz ie (by simpa using hl) l
     ·cases off with
      |zero=>simp only[Nat.add_zero] at k;rw[d] at k;cases k
      |succ off=>cases c with
       |zero=>simp only[Nat.add_zero] at i;rw[d] at i;cases i
       |succ c=>rw[sh] at k i;rw[ih.one off c y p A k i (by simpa using j) (by simpa using s)]
     ·obtain⟨off,p,isz,ls,ie,k,i,j⟩:=ih.from_ id ob u;exact⟨off+1,p,isz,ls,ie,by rw[sh];exact k,by simpa using i,j⟩
    ·cases h
   ·rename_i isz ie d;split at h
    ·simp only[Option.some.injEq,Prod.mk.injEq] at h;obtain⟨rfl,rfl⟩:=h;refine⟨by simp[ih.len],ih.sub,fun off b w t=>?_,fun off f m hl l=>?_,fun off c y p A k i j s=>?_,fun id ob u=>?_⟩
     ·cases off with
      |zero=>simp only[Nat.add_zero] at t;rw[d] at t;cases t
      |succ off=>rw[sh] at t;simpa using ih.cell off b (by simpa using w) t
     ·cases off with
      |zero=>simp only[Nat.add_zero] at l;rw[d] at l;cases l;exact .inl ⟨rfl,rfl⟩
      |succ off=>rw[sh] at l;simpa using ih.tO off f m (by simpa using hl) l
     ·cases off with
      |zero=>simp at j
      |succ off=>cases c with
       |zero=>simp at s
       |succ c=>rw[sh] at k i;rw[ih.one off c y p A k i (by simpa using j) (by simpa using s)]
     ·obtain⟨off,p,f,ls,m,k,i,j⟩:=ih.from_ id ob u;exact⟨off+1,p,f,ls,m,by rw[sh];exact k,by simpa using i,j⟩
    ·rename_i y;split at h
     ·rename_i f ls m L;split at h
      ·rename_i H I x;obtain rfl:=MG H;obtain rfl:=MG I;simp only[Option.some.injEq,Prod.mk.injEq] at h;obtain⟨rfl,rfl⟩:=h;have M:∀z ob,lk g1 z=some ob->lk ((y,Obj.row isz ls ie)::g1) z=some ob:=fun z ob F=>by
        rw[F7 _ _ (fun e=>by rw[e,F] at x;cases x)];exact F
       have other:∀off p,lk n (o+1+off)=some p->r[off]?=some (.aL y)->False:=fun off p k i=>by
        have hl:off<D.length:=by rw[ih.len];exact(Lx.1 i).1
        rcases ih.tO off p.1 p.2 hl k with⟨j,_⟩|⟨G,v,j,s,_⟩
        ·rw[i] at j;cases j
        ·rw[i] at j;cases j;rw[x] at s;cases s
       refine⟨by simp[ih.len],fun id ob u=>?_,fun off b w t=>?_,fun off f m hl l=>?_,fun off c z p A k i j s=>?_,fun id ob u=>?_⟩
       ·rw[l9] at u;split at u
        ·rename_i e;subst e;cases u;exact L
        ·exact ih.sub id ob u
       ·cases off with
        |zero=>simp only[Nat.add_zero] at t;rw[d] at t;cases t
        |succ off=>rw[sh] at t;simpa using ih.cell off b (by simpa using w) t
       ·cases off with
        |zero=>simp only[Nat.add_zero] at l;rw[d] at l;cases l;exact .inr ⟨y,ls,rfl,j5 _ _ _,rfl⟩
        |succ off =>
         rw[sh] at l;rcases ih.tO off f m (by simpa using hl) l with h|⟨G,v,j,s,J⟩
         ·exact .inl (by simpa using h)
         ·exact .inr ⟨G,v,by simpa using j,M _ _ s,by simpa using J⟩
       ·cases off with
        |zero=>cases c with
         |zero=>rfl
         |succ c =>
          simp only[Mq,Option.some.injEq,AV.aL.injEq] at j;subst j;rw[sh] at i;exact(other c A i (by simpa using s)).elim
        |succ off=>cases c with
         |zero =>
          simp only[Mq,Option.some.injEq,AV.aL.injEq] at s;subst s;rw[sh] at k;exact(other off p k (by simpa using j)).elim
         |succ c=>rw[sh] at k i;rw[ih.one off c z p A k i (by simpa using j) (by simpa using s)]
       ·rw[l9] at u;split at u
        ·rename_i e;subst e;cases u;exact⟨0,(isz,ie),isz,ls,ie,by simpa using d,rfl,rfl⟩
        ·obtain⟨off,p,f,v,m,k,i,j⟩:=ih.from_ id ob u;exact⟨off+1,p,f,v,m,by rw[sh];exact k,by simpa using i,j⟩
      ·cases h
     ·cases h
    ·cases h
def xd (tab:U2) (os:Os) (ev:Ev) (d:Nat) (t:TypeId) (n:Nat) (b:Array (Nat×Operand)) (K:Kt):Prop :=
 match lk tab t,n,b.toList with
 |some ti,1,[(0,x)]=>match lk tab ti.elem,(ev x).cells? with
  |some te,some a_=>∃a c g,qK os a a_ 0=some (c,g)/\ti.kind=2/\te.size=a_.length/\te.size<=16777216/\0<te.size/\lk g d=none/\lk g (d+700)=none/\K (.aL d) (g.map (·.1)) [d,d+700] ((d,.deep te.size ti.elem a [c] [] (d+700))::(d+700,.aF)::I6 g)
  |_,_=>False
 |_,_,_=>False
def na {c:Type} {a b:c} {i:Nat} (h:[a][i]?=some b):i=0/\b=a:=by
 cases i with
 |zero=>simp at h;exact⟨rfl,h.symm⟩
 |succ i=>simp at h
def I3 (hT:M5 P tab) (d:Nat) {t:TypeId} {n:Nat} {q:Array (Nat×Operand)} (ho:o.op=.buildSlice t n q) (h:xd tab os ev d t n q K):Y8 P o ev os K:=by
 unfold xd at h;split at h
 ·rename_i ti x hti J;split at h
  ·rename_i te a_ hte hcs;obtain⟨r,M,g,hdc,hk,V,hmax,hpos,hgd,hgs,h⟩:=h;have D:=DB hdc;have ht:=(hT t ti hti).aj hk;have hE:=hT _ te hte;have hpa:q=#[(0,x)]:=by simpa using congrArg List.toArray J
   subst hpa;refine fun _=>⟨_,g,_,[d,d+700],fun c w R aS hr=>?_,D.sub,fun i hi=>?_,h⟩
   ·have r1:=hr x (by simp[ho,Op.operands]);obtain⟨rv,h1⟩:=kN r1 hcs;obtain⟨z,hz,hzo,hza⟩:=hE.bo w;have hzr:=lR c.Φ w _ _ hzo;have hzl:z.cells.toList.length=te.size:=by rw[hzr.1.length,hE.zl]
    have G:(R x).cells.toList.length=te.size:=(by rw[rv.length,V]);generalize hus:(R x).cells.toList=us at rv h1 G;have hrun:(execOp R o).run P w=.ok (.value (.slice (some ⟨w.heap.size,0,none⟩) 1 1)) (w.alloc (.cells us.toArray ti.elem)):=by
     have Z:¬(1*te.size > 2 ^ 24):=d9;have h0:¬(1*te.size=0):=d9;have H:(Array.range (1*te.size)).map (z.cells[· % z.cells.size]!)=z.cells.toList.toArray:=by
      have:=wi z.cells.toList 1;rw[hzl] at this;apply Array.toList_inj.1;simpa[madeCells] using this
     obtain⟨rs,hrs⟩:=ir 0 us z.cells.toList d9;have hrs':rs=us:=by
      apply Mf;intro j;rw[Y1 hrs];by_cases hj:j<us.length
      ·rw[Mu d9];simp
      ·rw[Mt d9,MV d9,MV d9]
     have U:=bq 0 us 0 z.cells.toList rs (by simpa using hrs);have I:(R x).cells.zipIdx.foldl (fun(M:Array Value) (c,j)=>M.setIfInBounds (0+j) c) z.cells.toList.toArray=us.toArray:=by
      rw[<-hrs',<-U,<-hus,<-Array.foldl_toList];simp
     have hsz1:(R x).cells.size=te.size:=by rw[<-G,<-hus];simp
     have hsz2:z.cells.toList.toArray.size=te.size:=(by simpa using hzl);simp only[execOp,ho,Instr.buildSlice,Sem.run_bind,run_underlying ht,hE.b8,Result.andThen_ok,Mt Z,Mt h0,hz,Sem.run_pure,H];have T:Instr.fill (fun i=>some (i*te.size,te.size)) z.cells.toList.toArray [(0,R x)]=some us.toArray:=by
      simp only[Instr.fill,Nat.zero_mul];rw[Mt (by rw[hsz1,hsz2];simp)];exact congrArg some I
     have hpl:(Array.map (fun(p:Nat×Operand)=>(p.1,R p.2)) #[(0,x)]).toList=[(0,R x)]:=l8;simp[hpl,T,newRow]
    have s:∀b,b<w.heap.size->(w.alloc (.cells us.toArray ti.elem)).heap[b]?=w.heap[b]?:=fun b f=>alloc_old w _ f;have hR:J9 (w.alloc (.cells us.toArray ti.elem)) (.slice (some ⟨w.heap.size,0,none⟩) 1 1) te.size ti.elem [us]:=by
     have:=J9.made (w:=w) (sz:=te.size) (e:=ti.elem) (css:=[us]) (fun v k=>by rw[MY.1 k];exact G) (fun v k u E=>by rw[MY.1 k] at E;exact h1 u E) (by simp[maxLen]);simpa using this
    have N:∀off isz ie u,us[off]?=some u->lk r off=some (isz,ie)->(M[off]?=some (.sl isz [])/\u=.slice none 0 0)\/∃y ls,a_[off]?=some (.aL y)/\lk g y=some (.row isz ls ie)/\M[off]?=some (.sl isz ls)/\u=c.hd y:=fun off isz ie u E S=>by
     have hlt:off<M.length:=by rw[D.len,<-V,<-G];exact(Lx.1 E).1
     rcases D.tO off isz ie hlt (by simpa using S) with⟨B,C⟩|⟨y,ls,B,C,X⟩
     ·obtain⟨v,k,hr⟩:=rv.get B;rw[E] at k;cases k;exact .inl ⟨C,hr.bL⟩
     ·obtain⟨v,k,hr⟩:=rv.get B;rw[E] at k;cases k;obtain⟨A,m,cap,e1,e2,_⟩:=hr.bJ;exact .inr ⟨y,ls,B,C,X,by rw[e1,e2]⟩
    have F:∀off p u b,us[off]?=some u->lk r off=some p->u.ownBlock=some b->∃y ob,a_[off]?=some (.aL y)/\lk g y=some ob/\aZ c y ob b:=fun off p u b E S f=>by
     rcases N off p.1 p.2 u E S with⟨_,rfl⟩|⟨y,ls,B,C,_,rfl⟩
     ·cases f
     ·exact⟨y,_,B,C,f⟩
    have hD:dh c.Φ c.hd (w.alloc (.cells us.toArray ti.elem)) r [] [M] [us]:=by
     refine⟨rfl,fun i us' cs' E S=>?_,fun i us' cs' off isz ie u E S a b _=>?_,fun i off x us u hm=>(by cases hm),fun i off v i' Q v' b Y W h4 h5=>?_⟩
     ·obtain⟨rfl,rfl⟩:=na E;obtain⟨_,rfl⟩:=na S;refine⟨by rw[G,D.len,V],fun off u a hu' ha hn=>?_⟩;obtain⟨B,C⟩:=D.cell off a ha (by simpa using hn);obtain⟨v,k,hr'⟩:=rv.get B;rw[hu'] at k;cases k;exact(Rd.rf C hr').mono (fun b f=>s b (aS.aw b f)) fun _ h=>h
     ·obtain⟨rfl,rfl⟩:=na E;obtain⟨_,rfl⟩:=na S;rcases N off isz ie u b a with⟨Y,rfl⟩|⟨y,ls,_,W,h4,rfl⟩
      ·exact⟨[],Y,[],⟨.inl ⟨rfl,rfl⟩,l8,l8⟩,rfl,fun i us M h=>by simp at h⟩
      ·exact⟨ls,h4,O5.af (aS.rep y _ W) (fun b f=>s b (aS.aw b f)) (fun _ h=>h) fun b f=>s b (aS.lt y _ b W f).1⟩
     ·obtain⟨us1,p1,B,C,X,_⟩:=Y;obtain⟨us2,p2,b1,b2,b3,_⟩:=W;obtain⟨rfl,rfl⟩:=na B;obtain⟨rfl,rfl⟩:=na b1;obtain⟨y1,o1,c1,c2,c3⟩:=F off p1 v b X C h4;obtain⟨y2,o2,d1,d2,d3⟩:=F Q p2 v' b b3 b2 h5;refine⟨rfl,?_⟩;by_cases hy:y1=y2
      ·subst hy;exact D.one off Q y1 p1 p2 (by simpa using C) (by simpa using b2) c1 d1
      ·exact(aS.sep y1 y2 o1 o2 b hy c2 d2 c3 d3).elim
    have O:∀i off v b,bR [us] r [] i off v->v.ownBlock=some b->∃y ob,lk g y=some ob/\aZ c y ob b:=fun i off v b k f=>by
     obtain⟨us1,p1,B,C,X,_⟩:=k;obtain⟨rfl,rfl⟩:=na B;obtain⟨y1,o1,_,c2,c3⟩:=F off p1 v b X C f;exact⟨y1,o1,c2,c3⟩
    obtain⟨L,hp⟩:=aW.deep (w':=w.alloc (.cells us.toArray ti.elem)) (l:=[M]) (d:=d) (sh:=d+700) aS d9 hgd hgs rfl rfl rfl (by rw[mU];omega) (fun b=>∃id o,lk g id=some o/\aZ c id o b) (fun b=>Iff.rfl) (fun b f _=>s b f) hR hD
     (fun b f=>.inl (by have f:some w.heap.size=some b:=f;cases f;exact It _)) (fun i off v b k f=>.inr (O i off v b k f)) (fun i off v b k f hb'=>by
      have f:some w.heap.size=some b:=f;cases f;obtain⟨y,ob,Y,W⟩:=O i off v _ k hb';have:=(aS.lt y ob _ Y W).1;omega)
    rw[hrun];exact⟨_,hp,.aL (by simp[Ctx.aQ]) (It _) (by simp[maxLen])⟩
   ·simp only[Ly,List.not_mem_nil,or_false] at hi;rcases hi with rfl|rfl
    ·rw[j5];rfl
    ·rw[F7 _ _ d9,j5];rfl
  ·exact h.elim
 ·exact h.elim
def vV {c:Ctx} {w:World} {g:Os} {id sz e sh:Nat} {f:cG} {l:List (List AV)} {v:Value} (aS:T9 c w g) (r:lk g id=some (.deep sz e f l [] sh)) (D:Rd c w v (.aL id)):Rd (c.fz g) w v (.sl sz l):=by
 obtain⟨A,cap,e1,C,J,L⟩:=pX (aS.rep id _ r) D;obtain⟨css,E,t,M,F⟩:=ux aS r;have n:∀b,aZ c id (.deep sz e f l [] sh) b->cu c g b:=fun b k=>.inr ⟨id,_,r,k⟩;refine .fz ?_;rw[e1,<-C];refine E.rf (Φ:=cu c g) t.len (fun i us d s y=>?_) (fun _ h=>h) fun b k=>n b (.inl k);obtain⟨G,H⟩:=t.cell i us d s y;have key:∀(us:List Value) (d:List AV),us.length=d.length->(∀(off:Nat) (u:Value) (a:AV),us[off]?=some u->d[off]?=some a->Rf (cu c g) w u a)->H6 (cu c g) w us d:=by
  intro us
  induction us with
  |nil=>intro d hl _;cases d with
   |nil=>exact .nil
   |cons a d=>cases hl
  |cons u us ih=>intro d hl h;cases d with
   |nil=>cases hl
   |cons a d=>exact .cons (h 0 u a rfl rfl) (ih d (by simpa using hl) fun off I z m q=>h (off+1) I z (by simpa using m) (by simpa using q))
 refine key us d G fun off u a m q=>?_;cases j:lk f off with
 |none=>exact(H off u a m q j).mono (fun _ _=>rfl) fun b k=>.inl k
 |some p =>
  obtain⟨isz,ie⟩:=p;obtain⟨ls,x,B⟩:=t.inner i us d off isz ie u s y j m nN;rw[q] at x;cases x;exact B.rf (fun b k=>.inl k) fun b k=>n b (F i off u b ⟨us,_,s,j,m,nN⟩ k)
structure gv (os:Os) (a_ r:List AV) (g:Os):Prop where
 sub:∀id o,lk g id=some o->lk os id=some o
 run:∀(c:Ctx) (w:World) (us:List Value),T9 c w g->y9 c w us a_->y9 (c.fz g) w us r
theorem gQ.hZ {a_ r:List AV} {g:Os} (h:gQ os a_ r g):gv os a_ r g:=⟨h.sub,h.run⟩
theorem gv.cL {id:Nat} {a b:AV} {o:Obj} {l r:List AV} {g:Os} (e:lk os id=some o) (f:∀(c:Ctx) (w:World) (v:Value) (g:Os),T9 c w g->lk g id=some o->Rd c w v a->Rd (c.fz g) w v b) (H:gv os l r g):gv os (a::l) (b::r) ((id,o)::g):=by
 have j:∀i x,lk ((id,o)::g) i=some x->lk os i=some x:=fun i x h=>by
  rw[l9] at h;split at h
  ·rename_i e1;subst e1;cases h;exact e
  ·exact H.sub i x h
 refine⟨j,fun c w us aS h=>?_⟩;cases h with|cons h t =>
  have d:∀i x,lk g i=some x->lk ((id,o)::g) i=some x:=fun i x hi=>by
   rw[l9];split
   ·rename_i e1;subst e1;rw[<-e,H.sub _ _ hi]
   ·exact hi
  exact .cons (f c w _ _ aS (j5 _ _ _) h) ((H.run c w _ (aS.sub d) t).cB d)
theorem gv.skip {a:AV} {l r:List AV} {g:Os} (H:gv os l r g):gv os (a::l) (a::r) g :=
 ⟨H.sub,fun c w us aS h=>by cases h with|cons h t=>exact .cons (h.EU g) (H.run c w _ aS t)⟩
def hO (os:Os):List AV->List AV×Os
 |[]=>([],[])
 |.aL id::l=>match lk os id with
  |some (.row sz ls e)=>(.sl sz ls::(hO os l).1,(id,.row sz ls e)::(hO os l).2)
  |some (.deep sz e b z [] sh)=>(.sl sz z::(hO os l).1,(id,.deep sz e b z [] sh)::(hO os l).2)
  |_=>(.aL id::(hO os l).1,(hO os l).2)
 |a::l=>(a::(hO os l).1,(hO os l).2)
def cZ (os:Os):List AV->List AV×Os
 |[]=>([],[])
 |.aL id::l=>match lk os id with
  |some (.row sz ls e)=>(.sl sz ls::(cZ os l).1,(id,.row sz ls e)::(cZ os l).2)
  |some (.deep sz e b z [] sh)=>(.sl sz z::(cZ os l).1,(id,.deep sz e b z [] sh)::(cZ os l).2)
  |_=>(.aL id::(cZ os l).1,(cZ os l).2)
 |.agg cs::l=>(.agg (hO os cs).1::(cZ os l).1,(hO os cs).2++(cZ os l).2)
 |.dV id n sz'::l=>match lk os id with
  |some (.row sz ls e)=>match AT sz' sz with
   |true=>(.sl sz (ls.drop n)::(cZ os l).1,(id,.row sz ls e)::(cZ os l).2)
   |false=>(.dV id n sz'::(cZ os l).1,(cZ os l).2)
  |_=>(.dV id n sz'::(cZ os l).1,(cZ os l).2)
 |a::l=>(a::(cZ os l).1,(cZ os l).2)
def LM {c:Ctx} {w:World} {g:Os} {id sz e n:Nat} {ls:List (List AV)} {v:Value} (aS:T9 c w g) (q:lk g id=some (.row sz ls e)) (s:Rd c w v (.dV id n sz)):Rd (c.fz g) w v (.sl sz (ls.drop n)):=by
 obtain⟨A,m,cap,rfl,j,x,l,p⟩:=s.oR;have h:=nP aS q (Rd.aL (w:=w) j l p);have r:ls.length=m:=by
  obtain⟨i,k,us,b,o,e,_⟩:=h.jv;injection e with _ e _
  exact e.symm
 obtain⟨i,f,e,y,d⟩:=h.off (a:=n) d9;injection e with t z u
 subst t u;rw[r] at d;exact d
def KR : ∀a_:List AV,gv os a_ (hO os a_).1 (hO os a_).2:=by
 intro a_
 fun_induction hO os a_ with
 |case1=>exact⟨fun _ _ h=>(by cases h),fun c w us _ h=>by cases h;exact .nil⟩
 |case2 id l sz ls e b ih=>exact .cL b (fun c w v g aS d h=>nP aS d h) ih
 |case3 id l sz e f z sh b ih=>exact .cL b (fun c w v g aS d h=>vV aS d h) ih
 |case4 id l _ _ ih=>exact .skip ih
 |case5 a l _ ih=>exact .skip ih
def Dv : ∀a_:List AV,gv os a_ (cZ os a_).1 (cZ os a_).2:=by
 intro a_
 fun_induction cZ os a_ with
 |case1=>exact⟨fun _ _ h=>(by cases h),fun c w us _ h=>by cases h;exact .nil⟩
 |case2 id l sz ls e a ih=>exact .cL a (fun c w v g aS b h=>nP aS b h) ih
 |case3 id l sz e f z sh a ih=>exact .cL a (fun c w v g aS b h=>vV aS b h) ih
 |case4 id l _ _ ih=>exact .skip ih
 |case5 j l ih =>
  have C:=KR (os:=os) j;obtain⟨s1,i,s3⟩:=pL C.sub ih.sub;refine⟨s1,fun c w us aS h=>?_⟩;cases h with|cons h t =>
   obtain⟨vs,rfl,k⟩:=h.cY;exact .cons (.agg ((C.run c w _ (aS.sub s3) k).cB s3)) ((ih.run c w _ (aS.sub i) t).cB i)
 |case6 id n m l sz ls e a d ih =>
  obtain rfl:=MG d;exact .cL a (fun c w v g aS b h=>LM aS b h) ih
 |case7=>rename_i ih;exact .skip ih
 |case8=>rename_i ih;exact .skip ih
 |case9=>rename_i ih;exact .skip ih
end
def top : Nat:=1000
def jc : Os->Os->Prop
 |[],_=>True
 |(k,o)::r,os=>lk os k=some o/\jc r os
theorem sY {os:Os}:∀{need:Os},jc need os->∀id o,lk need id=some o->lk os id=some o
 |(k,x)::r,h,id,o,hl=>by
  rw[l9] at hl;split at hl
  ·rename_i e;subst e;cases hl;exact h.1
  ·exact sY h.2 id o hl
def fV : AV->Bool
 |.int _=>true
 |.ik _ _=>true
 |.bool _=>true
 |.str _=>true
 |.any=>true
 |.ad _=>true
 |.dr _=>true
 |_=>false
def ns : AV->Bool
 |.ab l=>l.all fV
 |.agg l=>l.all fV
 |a=>fV a
def vO {c c':Ctx} {w w':World} {v:Value} {a:AV} (h:fV a=true) (b:Rd c w v a):Rd c' w' v a:=by
 cases a<;>first|cases h|skip
 ·exact Rd.dS v
 ·obtain⟨rfl,h⟩:=b.ak;exact .fz (.int h)
 ·rw[b.kj];exact .fz (.ik _ _)
 ·rw[b.bP];exact .fz (.bool _)
 ·obtain⟨rfl,h⟩:=b.ba;exact .fz (.str h)
 ·rcases b.oK with⟨rfl,rfl⟩|⟨t,p,rfl,rfl⟩
  ·exact .fz .eQ
  ·exact .fz (.ek t p)
 ·rw[b.oC];exact .fz (.ad _)
theorem uR {c c':Ctx} {w w':World}:∀{us:List Value} {a_:List AV},a_.all fV=true->y9 c w us a_->y9 c' w' us a_
 |_,_,_,.nil=>.nil
 |_,_,h,.cons x t=>by
  simp only[List.all_cons,IT] at h;exact .cons (vO h.1 x) (uR h.2 t)
def JC {c c':Ctx} {w w':World} {v:Value} {a:AV} (h:ns a=true) (b:Rd c w v a):Rd c' w' v a:=by
 unfold ns at h;split at h
 ·obtain⟨us,rfl,d⟩:=b.fy;exact .ab (uR h d)
 ·obtain⟨us,rfl,d⟩:=b.cY;exact .agg (uR h d)
 ·exact vO h b
def qL : Obj->Prop
 |.aF=>True
 |.row _ ls _=>∀c∈ls,c.all fV=true
 |.deep _ _ b l _ _=>∀c∈l,∀(off:Nat) (a:AV),c[off]?=some a->match lk b off with
  |none=>fV a=true
  |some _=>∃isz ls,a=.sl isz ls/\∀d∈ls,d.all fV=true
 |_=>False
def ln : Os->Prop
 |[]=>True
 |p::r=>qL p.2/\ln r
theorem ln.at : ∀{l:Os},ln l->∀{id:Nat} {o:Obj},lk l id=some o->qL o
 |(k,x)::r,h,id,o,hl=>by
  rw[l9] at hl;split at hl
  ·cases hl;exact h.1
  ·exact ln.at h.2 hl
def qJ : AV->Bool
 |.ab l=>l.all fun a=>match a with|.aL _=>true|.agg b=>b.all fV|a=>fV a
 |.aL _=>true
 |.agg b=>b.all fV
 |a=>fV a
def Cq {Φ b:Nat->Prop} {w w':World} {v:Value} {a:AV} (h:fV a=true) (c:Rf Φ w v a):Rf b w' v a:=by
 cases c<;>first|cases h|skip
 ·exact .any _
 ·exact .int (by assumption)
 ·exact .ik _ _
 ·exact .bool _
 ·exact .str (by assumption)
 ·exact .eQ
 ·exact .ek _ _
 ·exact .ad _
theorem xS {Φ a:Nat->Prop} {w w':World}:∀{us:List Value} {a_:List AV},a_.all fV=true->H6 Φ w us a_->H6 a w' us a_
 |_,_,_,.nil=>.nil
 |_,_,h,.cons x t=>by
  simp only[List.all_cons,IT] at h;exact .cons (Cq h.1 x) (xS h.2 t)
theorem qL.rep {c c':Ctx} {w:World} {id:Nat} {o:Obj} (r:qL o) (h:dN c w id o) (q:c'.hd=c.hd) (I:c'.μ=c.μ):dN c' w id o:=by
 cases o with
 |aF=>trivial
 |row sz ls e =>
  obtain⟨css,s,f,t⟩:=h;exact⟨css,by rw[q];exact s,f,fun i us b n d=>xS (r b (MI d)) (t i us b n d)⟩
 |deep sz e v l J sh =>
  obtain⟨css,s,f,t,E⟩:=h;refine⟨css,by rw[q];exact s,⟨f.len,fun i us b n d=>⟨(f.cell i us b n d).1,fun off u a g j m=>?_⟩,fun i us b off isz ie u n d g j m=>?_,fun i off x us u g j m=>by rw[q];exact f.hole i off x us u g j m,f.apart⟩,by rw[q];exact t,by rw[q];exact E⟩
  ·have:=r b (MI d) off a j;rw[m] at this;exact Cq this ((f.cell i us b n d).2 off u a g j m)
  ·obtain⟨ls,A,css',F,G,H⟩:=f.inner i us b off isz ie u n d g j m;have:=r b (MI d) off _ A;rw[g] at this;obtain⟨z,D,e1,B⟩:=this;cases e1;exact⟨ls,A,css',F,G,fun k us' p C y=>xS (B p (MI y)) (H k us' p C y)⟩
 |_=>exact r.elim
def Ix {c c':Ctx} {w:World} {v:Value} {a:AV} (b:qJ a=true) (h:Rd c w v a) (j:c'.hd=c.hd):Rd c' w v a:=by
 have aL:∀{v:Value} {id:Nat},Rd c w v (.aL id)->Rd c' w v (.aL id):=fun {v id} h=>by
  obtain⟨A,n,cap,e1,f,g,i⟩:=h.bJ;rw[e1];exact .aL (by rw[j];exact f) g i
 have agg:∀{v:Value} {d:List AV},d.all fV=true->Rd c w v (.agg d)->Rd c' w v (.agg d):=fun {v d} b h=>by
  obtain⟨us,rfl,e⟩:=h.cY;exact .agg (uR b e)
 unfold qJ at b;split at b
 ·rename_i l;obtain⟨us,rfl,e⟩:=h.fy;refine .ab ?_;clear h
  induction l generalizing us with
  |nil=>cases e;exact .nil
  |cons a l ih =>
   cases e with|cons h t =>
   simp only[List.all_cons,IT] at b;refine .cons ?_ (ih b.2 _ t);cases a<;>first|exact aL h|exact agg b.1 h|exact vO b.1 h
 ·exact aL h
 ·exact agg b h
 ·exact vO b h
structure L9 (P:Program) (f:Nat) (ins:List AV) (os:Os) (K:Kt):Prop where
 out:(∃(ins0 ins':List AV) (g need upd:Os) (news:List Nat) (av:AV),Spec P f need ins' av upd news/\gQ os ins ins0 g/\dZ ins0 ins'/\jc need os/\(need.all fun p=>(lk g p.1).isNone)=true/\(need.all fun p=>kO news p.2.ids)=true /\
  K av ((g++need).map (·.1)) news (upd++I6 g)) \/
 (∃(ins0 ins':List AV) (g:Os) (av:AV),Spec P f [] ins' av [] []/\gv os ins ins0 g/\dZ ins0 ins'/\ns av=true/\K av (g.map (·.1)) [] []) \/
 (∃(ins0 ins':List AV) (g upd:Os) (news:List Nat) (av:AV),Spec P f [] ins' av upd news/\gv os ins ins0 g/\dZ ins0 ins'/\qJ av=true/\ln upd/\K av (g.map (·.1)) news upd)
section
variable {P:Program} {tab:U2} {et:eO} {o:Oper} {ev:Ev} {os:Os} {K:Kt}
theorem L9.fz {f:Nat} {ins a:List AV} {need upd:Os} {news:List Nat} {av:AV} (h:Spec P f need a av upd news) (b:dZ (cr os ins).1 a) (e:jc need os) (hd:(need.all fun p=>(lk (cr os ins).2 p.1).isNone)=true)
  (d:(need.all fun p=>kO news p.2.ids)=true) (c:K av (((cr os ins).2++need).map (·.1)) news (upd++I6 (cr os ins).2)):L9 P f ins os K :=
 ⟨.inl ⟨_,a,_,need,upd,news,av,h,C4 ins,b,e,hd,d,c⟩⟩
theorem L9.a_ {f:Nat} {ins a:List AV} {need upd:Os} {news:List Nat} {av:AV} (h:Spec P f need a av upd news) (b:dZ ins a) (g:jc need os)
  (e:(need.all fun p=>kO news p.2.ids)=true) (d:K av (need.map (·.1)) news upd):L9 P f ins os K :=
 ⟨.inl ⟨ins,a,[],need,upd,news,av,h,⟨fun _ _ h=>(by cases h),fun _ _ h=>(by cases h),fun c w us _ h=>y9.mono (c:=c) (c':=c.fz []) (fun _ _=>rfl) (fun _ h=>MA h) (fun _ _=>⟨rfl,rfl⟩) h⟩,b,g,MK.2 fun _ _=>rfl,e,by simpa[I6] using d⟩⟩
theorem L9.hZ {f:Nat} {ins a:List AV} {av:AV} (h:Spec P f [] a av [] []) (b:dZ (cr os ins).1 a) (d:ns av=true) (c:K av ((cr os ins).2.map (·.1)) [] []):L9 P f ins os K :=
 ⟨.inr (.inl ⟨_,a,_,av,h,(C4 ins).hZ,b,d,c⟩)⟩
theorem L9.tf {f:Nat} {ins a:List AV} {av:AV} (h:Spec P f [] a av [] []) (b:dZ (cZ os ins).1 a) (d:ns av=true) (c:K av ((cZ os ins).2.map (·.1)) [] []):L9 P f ins os K :=
 ⟨.inr (.inl ⟨_,a,_,av,h,Dv ins,b,d,c⟩)⟩
theorem L9.tg {f:Nat} {ins a:List AV} {upd:Os} {news:List Nat} {av:AV} (h:Spec P f [] a av upd news) (b:dZ (cZ os ins).1 a) (d:qJ av=true) (e:ln upd) (c:K av ((cZ os ins).2.map (·.1)) news upd):L9 P f ins os K :=
 ⟨.inr (.inr ⟨_,a,_,upd,news,av,h,Dv ins,b,d,e,c⟩)⟩
def xZ {c:Go.Call} {f:Operand} {g:Nat} {d:List Value} {e:Operand->Value} {w:World} (l:o.op=.call c) (j:c.callee=.value f) (a:bl P g=true) (e1:e f=.func (.func g) #[] d.toArray) :
  (execOp e o).run P w=.ok (.enter g (c.args.toList.map e++d).toArray) w:=by
 unfold bl at a;split at a
 ·rename_i fn i;simp only[IT,Bool.not_eq_true',beq_eq_false_iff_ne,ne_eq] at a;have b:fn.body.isNone=false:=by cases m:fn.body<;>simp_all
  have k:c.args.map e++d.toArray=(c.args.toList.map e++d).toArray:=by
   apply Array.toList_inj.1;simp
  simp[execOp,l,resolve,j,e1,Deferred.ofValue,invoke,callFunc,i,a.2,k];intro h;rw[h] at b;cases b
 ·cases a
def KG {c:Go.Call} {f:Operand} {g:Nat} {d:List AV} (D:o.op=.call c) (y:c.callee=.value f) (N:ev f=.fn g d) {l k:List AV} {gz:Os} {av:AV} (a:Spec P g [] k av [] [])
  (J:gv os (c.args.toList.map ev++d) l gz) (B:dZ l k) (z:ns av=true) (L:K av (gz.map (·.1)) [] []):Y8 P o ev os K:=by
 intro _;obtain⟨p,C,a⟩:=a;refine⟨av,gz,[],[],fun q w H aS I=>?_,J.sub,fun id A=>(by cases A),L⟩;have rf:Rd q w (H f) (.fn g d):=by
  have:=I f (by simp[D,Op.operands,Go.Call.operands,y])
  rwa [N] at this
 obtain⟨s,e1,t⟩:=rf.qZ;have n:y9 q w (c.args.toList.map H++s) (c.args.toList.map ev++d):=(tD fun x O=>I x (by simp[D,Op.operands,Go.Call.operands,y];exact .inr (by simpa using O))).append t;have i:=rW B (J.run q w _ aS n);have R:=aW.freeze aS;have m:∀(id:Nat) (o:Obj),lk ([]:Os) id=some o->False:=fun id o h=>(by cases h);have G:T9 (q.fz gz) w []:=⟨fun id o h=>(m id o h).elim,fun id o b h=>(m id o h).elim,fun id F o Q b _ h=>(m id o h).elim,R.aS.aw⟩;have j:=a (q.fz gz) w (c.args.toList.map H++s).toArray G (by simpa using i);rw[xZ D y p e1];refine j.mono fun e w' ⟨v,c',M,r,E⟩=>⟨v,M,q,⟨r.cq,r.tape,r.output,r.size,fun _ h=>h,fun _ h=>.inl h,fun b u _=>r.af b u fun⟨id,o,h,_⟩=>m id o h,fun _ _=>⟨rfl,rfl⟩,
  ⟨fun id o h=>(m id o h).elim,fun id o b h=>(m id o h).elim,fun id F o Q b _ h=>(m id o h).elim,fun b u=>Nat.lt_of_lt_of_le (aS.aw b u) r.size⟩,fun id o b h=>(m id o h).elim⟩,JC z E⟩
def Ja {c:Go.Call} {f:Operand} {g:Nat} {d:List AV} (O:o.op=.call c) (G:c.callee=.value f) (r:ev f=.fn g d) {n m:List AV} {gz upd:Os} {news:List Nat} {av:AV} (a:Spec P g [] m av upd news)
  (U:gv os (c.args.toList.map ev++d) n gz) (M:dZ n m) (J:qJ av=true) (L:ln upd) (W:K av (gz.map (·.1)) news upd):Y8 P o ev os K:=by
 intro _;obtain⟨q,t,a⟩:=a;refine⟨av,gz,upd,news,fun y w S aS T=>?_,U.sub,t,W⟩;have rf:Rd y w (S f) (.fn g d):=by
  have:=T f (by simp[O,Op.operands,Go.Call.operands,G])
  rwa [r] at this
 obtain⟨z,e1,B⟩:=rf.qZ;have p:y9 y w (c.args.toList.map S++z) (c.args.toList.map ev++d):=(tD fun x Y=>T x (by simp[O,Op.operands,Go.Call.operands,G];exact .inr (by simpa using Y))).append B;have k:=rW M (U.run y w _ aS p);have Z:=aW.freeze aS;have D:∀(id:Nat) (o:Obj),lk ([]:Os) id=some o->False:=fun id o h=>(by cases h);have R:T9 (y.fz gz) w []:=⟨fun id o h=>(D id o h).elim,fun id o b h=>(D id o h).elim,fun id u o E b _ h=>(D id o h).elim,Z.aS.aw⟩;have l:=a (y.fz gz) w (c.args.toList.map S++z).toArray R (by simpa using k);rw[xZ O G q e1];refine l.mono fun e w' ⟨v,c',X,j,Q⟩=>⟨v,X,{ c' with Φ:=y.Φ },⟨j.cq,j.tape,j.output,j.size,fun _ h=>h,fun _ h=>.inl h,fun b A _=>j.af b A fun⟨id,o,h,_⟩=>D id o h,fun i hi=>j.ctx i hi,
  ⟨fun id o h=>(L.at h).rep (j.aS.rep id o h) rfl rfl,fun id o b h r=>?_,fun id u o E b N h V r=>?_,fun b A=>Nat.lt_of_lt_of_le (aS.aw b A) j.size⟩,fun id o b h r=>?_⟩,Ix J Q rfl⟩
 ·have s:aZ c' id o b:=by cases o<;>exact r
  have:=j.aS.lt id o b h s;exact⟨this.1,fun A=>this.2 (j.aw b (.inl A))⟩
 ·have H:aZ c' id o b:=by cases o<;>exact r
  intro I;have C:aZ c' u E b:=by cases E<;>exact I
  exact j.aS.sep id u o E b N h V H C
 ·have s:aZ c' id o b:=by cases o<;>exact r
  rcases j.bA id o b h s with F|⟨i,x,F,_⟩
  ·exact .inl F
  ·exact(D i x F).elim
def KF {c:Go.Call} {f:Operand} {g:Nat} {caps:List AV} (ho:o.op=.call c) (hc:c.callee=.value f) (hf:ev f=.fn g caps) (h:L9 P g (c.args.toList.map ev++caps) os K):Y8 P o ev os K:=by
 rcases h.out with⟨ins0,ins',gz,need,upd,news,av,hspec,hz,hle,hs,hd,hfr,hK⟩|⟨ins0,ins',gz,av,hspec,hz,hle,hfl,hK⟩|⟨ins0,ins',gz,upd,news,av,hspec,hz,hle,hfl,hfu,hK⟩
 case inr.inl=>exact KG ho hc hf hspec hz hle hfl hK
 case inr.inr=>exact Ja ho hc hf hspec hz hle hfl hfu hK
 intro _;obtain⟨hcall,hnews,hspec⟩:=hspec;have hsub:=sY hs;obtain⟨s1,s2,s3⟩:=pL hz.sub hsub;have hnone:∀id x,lk need id=some x->lk gz id=none:=fun id x h=>by
  have:=MK.1 hd _ (dW h);simpa using this
 refine⟨av,gz++need,upd++I6 gz,news,fun cx w ρ aS hr=>?_,s1,fun id hid=>?_,hK⟩
 ·have rf:Rd cx w (ρ f) (.fn g caps):=by
   have:=hr f (by simp[ho,Op.operands,Go.Call.operands,hc])
   rwa [hf] at this
  obtain⟨cus,e1,hcus⟩:=rf.qZ;have hargs:y9 cx w (c.args.toList.map ρ++cus) (c.args.toList.map ev++caps):=(tD fun x hx=>hr x (by simp[ho,Op.operands,Go.Call.operands,hc];exact .inr (by simpa using hx))).append hcus;have hargs':=rW hle (hz.run cx w _ (aS.sub s3) hargs);have p1:=(aW.freeze (aS.sub s3)).gi s3;have ok1:T9 (cx.fz gz) w need:=by
   have hfrm:=aS.frame (fun _ _ h=>h) p1 (fun _ h=>(by cases h)) (fun _ _ _ _ _ h=>(by cases h));refine hfrm.sub fun id x hl=>?_;have hg:lk (I6 gz) id=none:=by
    have:=sH gz id;rw[hnone id x hl] at this;cases hq:lk (I6 gz) id with
    |none=>rfl
    |some y=>rw[hq] at this;cases this
   rw[J5,hg];simpa using s2 id x hl
  have hcalls:=hspec (cx.fz gz) w (c.args.toList.map ρ++cus).toArray ok1 (by simpa using hargs');rw[xZ ho hc hcall e1];refine hcalls.mono fun e w' ⟨v,c',he,hp,hrd⟩=>⟨v,he,c',?_,hrd⟩;have:=aW.trans aS p1 hp (fun _ h=>(by cases h)) hnews (fun id x hl=>by
   have hg:lk (I6 gz) id=none:=by
    have:=sH gz id;rw[hnone id x hl] at this;cases hq:lk (I6 gz) id with
    |none=>rfl
    |some y=>rw[hq] at this;cases this
   rw[J5,hg];simpa using s2 id x hl) (fun _ _ _ _ _ h=>(by cases h)) (fun id x hl hu y hy=>by
   rw[J5] at hl;cases hg:lk (I6 gz) id with
   |some z =>
    rw[hg] at hl;simp at hl;subst hl;rw[lh hg];simp[Obj.ids]
   |none =>
    rw[hg] at hl;simp at hl;rw[J5] at hl;cases hgz:lk gz id with
    |some z =>
     rw[hgz] at hl;simp at hl;subst hl;rw[hz.ids id z hgz];simp
    |none =>
     rw[hgz] at hl;simp at hl;exact oy (MK.1 hfr _ (dW hl)) y hy)
  simpa using this
 ·rw[J5];have:=hnews id hid;cases hu:lk upd id with
  |none=>rw[hu] at this;cases this
  |some x=>rfl
def qT (os:Os):AV->Bool
 |.aL id=>match lk os id with
  |some (.deep _ _ _ _ _ _)=>true
  |_=>false
 |.ep id _ _ _=>match lk os id with
  |some (.deep _ _ _ _ _ _)=>true
  |_=>false
 |_=>false
def LW (tab:U2) (t:TypeId):Bool:=match lk tab t with
 |some ti=>match lk tab ti.elem with
  |some te=>AT te.kind 1 && AT te.len 1
  |none=>false
 |none=>false
def kc {b:Bool} {X Y Z:Prop} (h:bif b then X else Y) (a:b=true->X->Z) (c:b=false->Y->Z):Z:=by
 cases b
 ·exact c rfl h
 ·exact a rfl h
def EE (tab:U2) (t:TypeId):Bool:=match lk tab t with
 |some ti=>AT ti.kind 2
 |none=>false
def EH (tab:U2) (t:TypeId) (x:AV):Bool :=
 match lk tab t with
 |some ti=>match x with
  |.str _=>AT ti.kind 4
  |.mp _=>AT ti.kind 8
  |_=>AT ti.kind 2
 |none=>false
def yq (P:Program) (tab:U2) (d:Nat) (c:Go.Call) (ev:Ev) (os:Os) (K:Kt):Prop :=
 match c.callee with
 |.builtin b=>match b,c.args.toList,c.argTypes.toList with
  |.len,[x],[t]=>bif qT os (ev x) then(match EE tab t with
    |true=>yp os (ev x) K
    |false=>False) else match EH tab t (ev x) with
   |true=>d34 os (ev x) K
   |false=>False
  |.append,[x,y],[t,e]=>bif qT os (ev x) then xQ tab os d t e (ev x) (ev y) K else bif L5 (ev y) then xR tab os d t e (ev x) (ev y) K else xm tab os d t e (ev x) (ev y) K
  |.min,[x,y],_=>d56 (ev x) (ev y) K
  |.max,[x,y],_=>d63 (ev x) (ev y) K
  |_,_,_=>False
 |.value f=>match ev f with
  |.fn g a=>L9 P g (c.args.toList.map ev++a) os K
  |_=>False
 |.invoke _ _=>False
def Jj (m:M5 P tab) (d:Nat) {c:Go.Call} (e:o.op=.call c) (h:yq P tab d c ev os K):Y8 P o ev os K:=by
 unfold yq at h;obtain⟨callee,args,argTypes⟩:=c;split at h
 ·rename_i b v;simp only at v;subst v;split at h
  ·rename_i x t i r;have a:args=#[x]:=by simpa using congrArg List.toArray i
   have j:argTypes=#[t]:=(by simpa using congrArg List.toArray r);subst a j;refine kc h (fun _ h=>?_) fun _ h=>?_
   ·split at h
    ·rename_i p;unfold EE at p;split at p
     ·rename_i ti k;exact Kd m k (MG p) e h
     ·cases p
    ·exact h.elim
   split at h
   ·rename_i hl;refine LH m e ?_ h;unfold EH at hl;split at hl
    ·rename_i ti k;rw[k];split at hl
     ·rename_i s l;rw[l];exact MG hl
     ·rename_i s l;rw[l];exact MG hl
     ·rename_i q n;have:=MG hl;cases l:ev x<;>first|exact this|exact absurd l (q _)|exact absurd l (n _)
    ·cases hl
   ·exact h.elim
  ·rename_i x y t A i r;have a:args=#[x,y]:=by simpa using congrArg List.toArray i
   have j:argTypes=#[t,A]:=(by simpa using congrArg List.toArray r);subst a j;exact kc h (fun _ h=>d47 m d e h) fun _ h=>kc h (fun _ h=>d80 m d e h) fun _ h=>IU m d e h
  ·rename_i x y i;have a:args=#[x,y]:=by simpa using congrArg List.toArray i
   subst a;exact LJ e h
  ·rename_i x y i;have a:args=#[x,y]:=by simpa using congrArg List.toArray i
   subst a;exact LG e h
  ·exact h.elim
 ·rename_i f w;split at h
  ·rename_i g u z;exact KF e w z h
  ·exact h.elim
 ·exact h.elim
def iy (P:Program) (tab:U2) (et:eO) (d:Nat) (op:Op) (ev:Ev) (os:Os) (K:Kt):Prop :=
 match op with
 |.move x=>K (ev x) [] [] []
 |.assign x=>K (ev x) [] [] []
 |.pick c a b=>yg ev c a b K
 |.alloc t=>wz tab d t K
 |.box t x=>d35 d t (ev x) K
 |.build t e=>wy tab ev t e K
 |.buildSlice t n e=>bif LW tab t then(xd tab os ev d t n e K\/ui tab os ev d t n e K) else ui tab os ev d t n e K
 |.load t x=>bif qT os (ev x) then wx tab os t (ev x) K else yl tab os t (ev x) (yx os K)
 |.store t x y=>bif qT os (ev x) then xa tab os t (ev x) (ev y) K else xk tab os t (ev x) (ev y) K
 |.nilCheck x=>d54 (ev x) K
 |.binOp op t x y _=>bif yz y then d52 tab op t (ev x) (ev y) K else d41 tab et op t (ev x) (ev y) (fun av=>K av [] [] [])
 |.unOp op _ x=>zB op (ev x) K
 |.convert s t x=>ym tab s t (ev x) K
 |.makeFunc fn f c=>yf ev fn f c K
 |.makeSlice t x y=>yd tab d t (ev x) (ev y) K
 |.slice t x g hi none=>bif qT os (ev x) then xj tab os d t (ev x) (cI ev g) (cI ev hi) K else yS tab os d t (ev x) (cI ev g) (cI ev hi) K
 |.fieldAddr s x f=>wO tab s (ev x) f K
 |.field s x f=>wu tab s (ev x) f K
 |.indexAddr t x i=>bif qT os (ev x) then wK tab os t (ev x) (ev i) K else x8 tab os t (ev x) (ev i) K
 |.index t x i=>wv tab t (ev x) (ev i) K
 |.extract x i=>xT (ev x) i K
 |.makeMap _ none=>CB d K
 |.lookup t x k false=>xu tab os t (ev x) (ev k) K
 |.mapUpdate t x k v=>x9 tab os t (ev x) (ev k) (ev v) K
 |.call c=>yq P tab d c ev os K
 |_=>False
def cQ (hT:M5 P tab) (hE:gJ P et) (d:Nat) (h:iy P tab et d o.op ev os K):Y8 P o ev os K:=by
 cases ho:o.op<;>rw[ho] at h<;>simp only[iy] at h
 case move x=>exact Bl (.inl ho) h
 case assign x=>exact Bl (.inr ho) h
 case pick c a b=>exact Kc ho h
 case alloc t=>exact JA hT d ho h
 case box t x=>exact Kx d ho h
 case build t ps=>exact JD hT ho h
 case buildSlice t n ps=>exact kc h (fun _ h=>h.elim (fun h=>I3 hT d ho h) fun h=>Ay hT d ho h) fun _ h=>Ay hT d ho h
 case load t x=>exact kc h (fun _ h=>JI hT ho h) fun _ h=>(KE hT ho h).res
 case store t x y=>exact kc h (fun _ h=>IG hT ho h) fun _ h=>d96 hT ho h
 case nilCheck x=>exact L4 ho h
 case binOp op t x y ty=>exact kc h (fun hy h=>L7 hT ho hy h) fun _ h=>Ks hT hE ho h
 case unOp op t x=>exact Li ho h
 case convert s t x=>exact Jx hT ho h
 case makeFunc fn f c=>exact KM ho h
 case makeSlice t x y=>exact Km hT d ho h
 case slice t x lo hi mx=>cases mx with
  |none=>exact kc h (fun _ h=>IF hT d ho h) fun _ h=>JV hT d ho h
  |some m=>exact h.elim
 case fieldAddr s x f=>exact HM hT ho h
 case field s x f=>exact JW hT ho h
 case indexAddr t x i=>exact kc h (fun _ h=>Gi hT ho h) fun _ h=>HJ hT ho h
 case index t x i=>exact JR hT ho h
 case extract x i=>exact d36 ho h
 case makeMap t r=>cases r with
  |none=>exact d43 d ho h
  |some r=>exact h.elim
 case lookup t x k b=>cases b with
  |false=>exact Hz hT ho h
  |true=>exact h.elim
 case mapUpdate t x k v=>exact H3 hT ho h
 case call c=>exact Jj hT d ho h
end
def jZ {p:Prop} [Decidable p] {X Y:Prop} (a:p->X) (b:¬p->Y):iw (decide p) X Y:=by
 by_cases h:p
 ·rw[My h];exact a h
 ·rw[Mx h];exact b h
def nO {b:Bool} {X Y:Prop} (a:b=true->X) (d:b=false->Y):iw b X Y:=by
 cases b
 ·exact d rfl
 ·exact a rfl
def F9 (a:List Nat) (ts:Ts):Bool:=match a with
 |[]=>true
 |_=>ts.all fun p=>kO a p.2.ids
def F8 (a:List Nat) (b os:Os):Bool:=match a with
 |[]=>true
 |_=>a.all (fun i=>Nat.blt i top) && os.all fun p=>(lk b p.1).isSome || kO a p.2.ids
def gP (n:Nat):Option Tmp->Bool
 |none=>true
 |some d=>Nat.blt d n
def dR : Option Tmp->AV->Ts->Ts
 |none,_,ts=>ts
 |some d,av,ts=>(d,av)::ts
def force (a:AV) (K:AV->Prop):Prop :=
 match a with
 |.any=>K .any
 |.int n=>K (.int n)
 |.ik k n=>K (.ik k n)
 |.bool b=>K (.bool b)
 |.str s=>K (.str s)
 |.sl sz ls=>K (.sl sz ls)
 |.ptr id off=>K (.ptr id off)
 |.fp d=>K (.fp d)
 |.aL id=>K (.aL id)
 |.db id n=>K (.db id n)
 |.dV id n sz=>K (.dV id n sz)
 |.ep id i sz off=>K (.ep id i sz off)
 |.fn f d=>K (.fn f d)
 |.agg d=>K (.agg d)
 |.ab d=>K (.ab d)
 |.aP=>K .aP
 |.fR b=>K (.fR b)
 |.ae=>K .ae
 |.aR=>K .aR
 |.mp id=>K (.mp id)
 |.cN id=>K (.cN id)
 |.np id=>K (.np id)
 |.dr b=>K (.dr b)
 |.ad v=>K (.ad v)
def force_eq (a:AV) (K:AV->Prop):force a K↔K a:=by cases a<;>exact Iff.rfl
def iT : Os->Os->(Os->Prop)->Prop
 |[],os,K=>K os
 |(k,o)::r,os,K=>iT r os fun x=>K ((k,o)::x)
theorem jg : ∀(a os:Os) (K:Os->Prop),iT a os K↔K (a++os)
 |[],_,_=>Iff.rfl
 |(k,o)::r,os,K=>by rw[iT,jg r os];rfl
def fe : Ts->(Ts->Prop)->Prop
 |[],K=>K []
 |(k,a)::r,K=>fe r fun x=>K ((k,a)::x)
theorem nS : ∀(ts:Ts) (K:Ts->Prop),fe ts K↔K ts
 |[],_=>Iff.rfl
 |(k,a)::r,K=>by rw[fe,nS r]
def pz (ops:List Oper) (ts:Ts) (j:Nat):Option Bool :=
 match ops[j]? with
 |some o=>match o.dst with
  |some d=>match lk ts d with
   |some (.bool b)=>some b
   |_=>none
  |none=>none
 |none=>none
def pr (ops:List Oper) (ts:Ts) (j:Nat):Bool :=
 match ops[j]? with
 |some o=>match o.dst with
  |some d=>match lk ts d with
   |some (.ab [])=>true
   |_=>false
  |none=>false
 |none=>false
def jk (ops:List Oper) (o:Oper) (ts:Ts) (X Y:Prop):Prop :=
 match o.guard with
 |none=>X
 |some (j,true)=>match pr ops ts j with
  |true=>Y
  |false=>match pz ops ts j with
   |some b=>iw b X Y
   |none=>False
 |some (j,false)=>match pr ops ts j with
  |true=>Y
  |false=>match pz ops ts j with
   |some b=>iw b Y X
   |none=>False
def jl (P:Program) (tab:U2) (et:eO) (n:Nat) (ops:List Oper):List Oper->Ts->Os->(Ts->Os->Prop)->Prop
 |[],ts,os,K=>K ts os
 |o::rest,ts,os,K=>match o.dst with
  |some d=>match Nat.blt d n with
   |true=>jk ops o ts
    (iy P tab et d o.op (cT ts) os fun av _ a b=>match F9 a ts && F8 a b os with
     |true=>force av fun av=>iT b os fun os=>jl P tab et n ops rest ((d,av)::ts) os K
     |false=>False)
    (jl P tab et n ops rest ((d,.ab [])::ts) os K)
   |false=>False
  |none=>jk ops o ts
   (iy P tab et 0 o.op (cT ts) os fun av _ a b=>match F9 a ts && F8 a b os with
    |true=>iT b os fun os=>jl P tab et n ops rest ts os K
    |false=>False)
   (jl P tab et n ops rest ts os K)
section
variable {P:Program} {tab:U2} {et:eO} {Γ:bD}
theorem gV.put {c c':Ctx} {w w':World} {ts:Ts} {a:Act} {need upd:Os} {news:List Nat} {v:Value} {av:AV} {dst:Option Tmp} (h:gV c w ts a) (j:T9 c w need) (k:aW c w c' w' need upd news) (i:∀t x,lk ts t=some x->∀id∈news,id ∉ x.ids)
  (l:Rd c' w' v av) (hd:gP a.tmps.size dst=true):gV c' w' (dR dst av ts) (a.put dst v):=by
 cases dst with
 |none =>
  intro t x hl;obtain⟨u,e,f⟩:=h t x hl;exact⟨u,e,f.post k j (i t x hl)⟩
 |some d =>
  intro t x hl;have g:d<a.tmps.size:=MR hd;simp only[dR,l9] at hl;by_cases b:d=t
  ·rw[Mu b] at hl;cases hl;subst b;exact⟨v,by simp[Act.put,g],l⟩
  ·rw[Mt b] at hl;obtain⟨u,e,f⟩:=h t x hl;exact⟨u,by simp[Act.put,Array.getElem?_setIfInBounds_ne b,e],f.post k j (i t x hl)⟩
def rj {b:List Nat} {ts:Ts} (h:F9 b ts=true):∀t x,lk ts t=some x->∀id∈b,id ∉ x.ids:=by
 intro t x hl id a;unfold F9 at h;split at h
 ·cases a
 ·exact oy (MK.1 h _ (dW hl)) id a
def ou {b:List Nat} {d os:Os} (h:F8 b d os=true):(∀id o,lk os id=some o->lk d id=none->∀x∈b,x ∉ o.ids)/\∀x∈b,x<top:=by
 unfold F8 at h;split at h
 ·exact⟨fun _ _ _ _ _ h=>(by cases h),fun _ h=>(by cases h)⟩
 ·simp only[IT] at h;refine⟨fun id o hl e x a=>?_,fun x a=>?_⟩
  ·have:=MK.1 h.2 _ (dW hl);simp only[e,Option.isSome_none,Bool.false_or] at this;exact oy this x a
  ·exact MR (MK.1 h.1 x a)
def w7 (Γ:bD) (c:Ctx):Prop:=∀id,top<=id->c.μ id=Γ.c.μ id/\c.hd id=Γ.c.hd id
structure EO (Γ:bD) (ts:Ts) (os:Os) (c:Ctx) (a:Act) (w:World):Prop where
 rel:Hg Γ ts os c a w
 same:w7 Γ c
def E8 (Γ:bD) (ts:Ts) (os:Os) (a:Act) (w:World):Prop:=∃c,EO Γ ts os c a w
theorem cV.inst {r:Result Next} {R:Value->World->Prop} (h:cV P r R):∃v w,R v w:=by
 unfold cV at h;split at h
 ·exact⟨_,_,h⟩
 ·exact⟨_,_,h⟩
 ·obtain⟨e,w',fr,⟨v,_,a⟩,_⟩:=h [];exact⟨v,w',a⟩
 ·exact h.elim
def wM {c:Ctx} {w:World} {ops:List Oper} {ts:Ts} {a:Act} {j:Nat} {b:Bool} (h:gV c w ts a) (e:pz ops ts j=some b):yielded ops.toArray a.tmps j=some b:=by
 unfold pz at e;split at e
 ·rename_i o k;split at e
  ·rename_i d hd;split at e
   ·rename_i l i;cases e;obtain⟨v,f,g⟩:=h d _ i;rw[g.bP] at f;unfold yielded;simp[k,hd,f]
   ·cases e
  ·cases e
 ·cases e
def wN {c:Ctx} {w:World} {ops:List Oper} {ts:Ts} {a:Act} {j:Nat} (h:gV c w ts a) (b:pr ops ts j=true):yielded ops.toArray a.tmps j=none:=by
 unfold pr at b;split at b
 ·rename_i o i;split at b
  ·rename_i d hd;split at b
   ·rename_i g;obtain⟨v,e,f⟩:=h d _ g;obtain⟨us,rfl,_⟩:=f.fy;unfold yielded;simp[i,hd,e]
   ·cases b
  ·cases b
 ·cases b
def Af {c:Ctx} {w:World} {ops:List Oper} {o:Oper} {ts:Ts} {a:Act} {X Y:Prop} (h:gV c w ts a) (d:jk ops o ts X Y):(Region.wanted o (yielded ops.toArray a.tmps)=true/\X)\/(Region.wanted o (yielded ops.toArray a.tmps)=false/\Y):=by
 unfold jk at d;unfold Region.wanted;split at d
 ·rename_i e;rw[e];exact .inl ⟨rfl,d⟩
 ·rename_i j e;rw[e];split at d
  ·rename_i g;have:=wN h g;exact .inr ⟨by simp[this],d⟩
  split at d
  ·rename_i b f;have:=wM h f;cases b
   ·exact .inr ⟨by simp[this],d⟩
   ·exact .inl ⟨by simp[this],d⟩
  ·exact d.elim
 ·rename_i j e;rw[e];split at d
  ·rename_i g;have:=wN h g;exact .inr ⟨by simp[this],d⟩
  split at d
  ·rename_i b f;have:=wM h f;cases b
   ·exact .inl ⟨by simp[this],d⟩
   ·exact .inr ⟨by simp[this],d⟩
  ·exact d.elim
def rR (a:Act) (dst:Option Tmp) (v:Value):(a.put dst v).tmps.size=a.tmps.size:=by cases dst<;>simp[Act.put]
def put_defers (a:Act) (dst:Option Tmp) (v:Value):(a.put dst v).defers=a.defers:=by cases dst<;>simp[Act.put]
def Cv {o:Oper} {ts:Ts} {os:Os} {a:Act} {w:World} {K:Kt} (h:Y8 P o (cT ts) os K) (G:E8 Γ ts os a w)
  {u:Act->World->Prop} {Q:Exit->Act->World->Prop} (E:∀av rd l p,K av rd l p->(∀v w' c',F9 l ts=true->F8 l p os=true->gP Γ.n o.dst=true->EO Γ (dR o.dst av ts) (p++os) c' (a.put o.dst v) w'->u (a.put o.dst v) w')/\F9 l ts=true/\F8 l p os=true/\gP Γ.n o.dst=true) :
  o.wp P a w u Q:=by
 obtain⟨c,⟨hd,C,k,aS,i⟩,f⟩:=G;have g:∀x∈o.op.operands.toList,Rd c w (a.eval x) (cT ts x):=fun x _=>qC k x;obtain⟨av,need,upd,news,j,b,d,q⟩:=h ⟨c,w,a.eval,aS,g⟩;obtain⟨e,f1,y,z⟩:=E _ _ _ _ q;have r:=j c w a.eval (aS.sub b) g;unfold Oper.wp;refine r.upon fun v w' ⟨c',m,H⟩=>?_;obtain⟨g1,D⟩:=ou y;refine e v w' c' f1 y z ⟨⟨by rw[put_defers];exact hd,by rw[rR];exact C,k.put (aS.sub b) m (rj f1) H (by rw[C];exact z),aS.frame b m d g1,i.post aS b m d g1⟩,fun id s=>?_⟩;have t:id ∉ news:=fun F=>by have:=D id F;omega
 have A:=m.ctx id t;have B:=f id s;exact⟨A.1.trans B.1,A.2.trans B.2⟩
def rZ {o:Oper} {ts:Ts} {os:Os} {a:Act} {w:World} (j:E8 Γ ts os a w) (hd:gP Γ.n o.dst=true):E8 Γ (dR o.dst (.ab []) ts) os (a.put o.dst undef) w:=by
 obtain⟨c,⟨e,d,f,b,g⟩,i⟩:=j;exact⟨c,⟨by rw[put_defers];exact e,by rw[rR];exact d,f.put (need:=[]) (upd:=[]) (news:=[]) (b.sub fun _ _ h=>by cases h) (aW.refl b.aw) (fun _ _ _ _ h=>by cases h) (Rd.ab (us:=[]) .nil) (by rw[d];exact hd),b,g⟩,i⟩
theorem pT (m:M5 P tab) (j:gJ P et) {ops:List Oper} {Q:Exit->Act->World->Prop} {l2:List Oper}:∀(l:List Oper) (ts:Ts) (os:Os) (K:Ts->Os->Prop) (a:Act) (w:World),jl P tab et Γ.n ops l ts os K->E8 Γ ts os a w ->
  (∀s r u w',K s r->E8 Γ s r u w'->wpList P ops.toArray Q l2 u w')->wpList P ops.toArray Q (l++l2) a w
 |[],ts,os,K,a,w,h,t,k=>k ts os a w h t
 |o::rest,ts,os,K,a,w,h,t,k=>by
  obtain⟨c,b⟩:=t;have f:E8 Γ ts os a w:=⟨c,b⟩;rw[List.cons_append];unfold wpList;unfold jl at h;split at h
  ·rename_i d hd;split at h
   ·rename_i q;rcases Af b.rel.ts h with⟨i,h⟩|⟨i,h⟩
    ·rw[Mu i];refine .inl (Cv (cQ m j _ h) f fun av rd x y e=>?_);split at e
     ·rename_i g;simp only[IT] at g;rw[force_eq,jg] at e;refine⟨fun v w' c' _ _ _ p=>pT m j rest _ _ K _ _ e ⟨c',by rw[hd] at p⊢;exact p⟩ k,g.1,g.2,by rw[hd];exact q⟩
     ·exact e.elim
    ·rw[Mt (by rw[i];simp)];have:=rZ (o:=o) f (by rw[hd];exact q);exact pT m j rest _ _ K _ _ h (by rw[hd] at this⊢;exact this) k
   ·exact h.elim
  ·rename_i hd;rcases Af b.rel.ts h with⟨i,h⟩|⟨i,h⟩
   ·rw[Mu i];refine .inl (Cv (cQ m j _ h) f fun av rd x y e=>?_);split at e
    ·rename_i g;simp only[IT] at g;rw[jg] at e;refine⟨fun v w' c' _ _ _ p=>pT m j rest _ _ K _ _ e ⟨c',by rw[hd] at p⊢;exact p⟩ k,g.1,g.2,by rw[hd];rfl⟩
    ·exact e.elim
   ·rw[Mt (by rw[i];simp)];have:=rZ (o:=o) f (by rw[hd];rfl);exact pT m j rest _ _ K _ _ h (by rw[hd] at this⊢;exact this) k
def Is (j:M5 P tab) (g:gJ P et) {ops:List Oper} {Q:Exit->Act->World->Prop} (l:List Oper) (ts:Ts) (os:Os) (K:Ts->Os->Prop) (a:Act) (w:World) (h:jl P tab et Γ.n ops l ts os K) (m:E8 Γ ts os a w)
  (i:∀d b e w',K d b->E8 Γ d b e w'->Q .normal e w'):wpList P ops.toArray Q l a w:=by
 have:=pT j g (l2:=[]) l ts os K a w h m fun d b e w' k f=>i d b e w' k f
 rwa [List.append_nil] at this
inductive Ex : Type where
 |normal
 |exit (id:Nat)
 |ret
def mH : Exit->Ex->Prop
 |.normal,.normal=>True
 |.exit i,.exit j=>i=j
 |.ret,.ret=>True
 |_,_=>False
abbrev Qt := Ex->Ts->Os->Prop
structure j6 (P:Program) (Γ:bD) (c:Code) (ts:Ts) (os:Os) (Q:Qt):Prop where
 run:∀a w,E8 Γ ts os a w->c.wp P (fun e a' w'=>∃ex ts' os',mH e ex/\Q ex ts' os'/\E8 Γ ts' os' a' w') a w
def fS (P:Program) (tab:U2) (et:eO) (Γ:bD) (n:Nat):Code->Ts->Os->Qt->Prop
 |.skip,ts,os,Q=>Q .normal ts os
 |.seq x y,ts,os,Q=>fS P tab et Γ n x ts os fun e d a=>match e with
  |.normal=>j6 P Γ y d a Q
  |.exit id=>Q (.exit id) d a
  |.ret=>Q .ret d a
 |.cond c x y,ts,os,Q=>match cT ts c with
  |.bool b=>iw b (j6 P Γ x ts os Q) (j6 P Γ y ts os Q)
  |_=>False
 |.block id c,ts,os,Q=>fS P tab et Γ n c ts os fun e d a=>match e with
  |.normal=>Q .normal d a
  |.exit f=>match AT f id with
   |true=>Q .normal d a
   |false=>Q (.exit f) d a
  |.ret=>Q .ret d a
 |.loop c,ts,os,Q=>j6 P Γ (.loop c) ts os Q
 |.region id ops false,ts,os,Q=>fe ts fun ts=>jl P tab et n ops.toList ops.toList ts os (Q .normal)
 |.region id ops true,ts,os,Q=>j6 P Γ (.region id ops true) ts os Q
 |.exit id,ts,os,Q=>Q (.exit id) ts os
 |.ret,ts,os,Q=>Q .ret ts os
 |_,_,_,_=>False
theorem j6.mono {c:Code} {ts:Ts} {os:Os} {Q f:Qt} (h:j6 P Γ c ts os Q) (k:∀e ts os,Q e ts os->f e ts os):j6 P Γ c ts os f :=
 ⟨fun a w l=>wp_mono (h.run a w l) fun e m w' ⟨ex,d,b,g,i,j⟩=>⟨ex,d,b,g,k _ _ _ i,j⟩⟩
theorem yh (u:M5 P tab) (t:gJ P et):∀(c:Code) (ts:Ts) (os:Os) (Q:Qt),fS P tab et Γ Γ.n c ts os Q->j6 P Γ c ts os Q
 |.skip,ts,os,Q,h=>⟨fun a w k=>wp_skip ⟨.normal,ts,os,trivial,h,k⟩⟩
 |.seq x y,ts,os,Q,h=>by
  refine⟨fun a w k=>wp_seq (wp_mono ((yh u t x ts os _ h).run a w k) fun e r w' ⟨ex,f,d,o,g,m⟩=>?_)⟩;cases e<;>cases ex<;>simp only[mH] at o<;>first|exact o.elim|skip
  ·exact g.run r w' m
  ·subst o;exact⟨.exit _,f,d,rfl,g,m⟩
  ·exact⟨.ret,f,d,trivial,g,m⟩
 |.cond c x y,ts,os,Q,h=>by
  unfold fS at h;split at h
  ·rename_i b q;refine⟨fun a w k=>?_⟩;obtain⟨A,l⟩:=k;have p:=qC l.rel.ts c;rw[q] at p;cases b
   ·exact wp_cond_false p.bP (h.run a w ⟨A,l⟩)
   ·exact wp_cond_true p.bP (h.run a w ⟨A,l⟩)
  ·exact h.elim
 |.block id c,ts,os,Q,h=>by
  refine⟨fun a w k=>wp_block (wp_mono ((yh u t c ts os _ h).run a w k) fun e r w' ⟨ex,f,d,o,g,m⟩=>?_)⟩
  match e,ex,o,g with
  |.normal,.normal,_,g=>exact⟨.normal,f,d,trivial,g,m⟩
  |.exit i,.exit j,o,g =>
   have s:i=j:=o;subst s;simp only at g;split at g
   ·rename_i q;have B:=MG q;simp only[Exit.inBlock,Mu B];exact⟨.normal,f,d,trivial,g,m⟩
   ·rename_i q;have v:¬i=id:=fun e=>by rw[e] at q;simp at q
    simp only[Exit.inBlock,Mt v];exact⟨.exit i,f,d,rfl,g,m⟩
  |.ret,.ret,_,g=>exact⟨.ret,f,d,trivial,g,m⟩
 |.loop c,ts,os,Q,h=>h
 |.region id ops false,ts,os,Q,h=>⟨fun a w k=>wp_region_list (by
   have:=Is u t (Q:=fun e r w'=>∃ex f d,mH e ex/\Q ex f d/\E8 Γ f d r w') ops.toList ts os (Q .normal) a w ((nS ts _).1 h) k fun f d r w' C z=>⟨.normal,f,d,trivial,C,z⟩;simpa using this)⟩
 |.region id ops true,ts,os,Q,h=>h
 |.exit id,ts,os,Q,h=>⟨fun a w k=>wp_exit ⟨.exit id,ts,os,rfl,h,k⟩⟩
 |.ret,ts,os,Q,h=>⟨fun a w k=>wp_ret ⟨.ret,ts,os,trivial,h,k⟩⟩
 |.rangeFunc _ _ _ _,_,_,_,h=>h.elim
 |.scope _,_,_,_,h=>h.elim
 |.label _,_,_,_,h=>h.elim
 |.goto _,_,_,_,h=>h.elim
 |.refuse _,_,_,_,h=>h.elim
end
section
mutual
def AV.bY (ρ:Nat->Nat):AV->AV
 |.ptr id off=>.ptr (ρ id) off
 |.aL id=>.aL (ρ id)
 |.db id n=>.db (ρ id) n
 |.dV id n sz=>.dV (ρ id) n sz
 |.ep id i sz off=>.ep (ρ id) i sz off
 |.mp id=>.mp (ρ id)
 |.cN id=>.cN (ρ id)
 |.np id=>.np (ρ id)
 |.fn f b=>.fn f (AV.cw ρ b)
 |.agg b=>.agg (AV.cw ρ b)
 |.ab b=>.ab (AV.cw ρ b)
 |a=>a
def AV.cw (ρ:Nat->Nat):List AV->List AV
 |[]=>[]
 |a::l=>a.bY ρ::AV.cw ρ l
end
def Ctx.bt (c:Ctx) (ρ:Nat->Nat):Ctx:={ c with μ:=fun i=>c.μ (ρ i),hd:=fun i=>c.hd (ρ i) }
section
variable {c:Ctx} {w:World} {ρ:Nat->Nat}
mutual
theorem Rd.az : ∀(a:AV) {v:Value},Rd c w v (a.bY ρ)->Rd (c.bt ρ) w v a
 |.ptr id off,_,h=>by rw[h.cv];exact .ptr rfl
 |.aL id,_,h=>by obtain⟨A,n,cap,e1,d,j,l⟩:=h.bJ;rw[e1];exact .aL d j l
 |.db id n,_,h=>by obtain⟨A,m,cap,e1,d,j,l,q⟩:=h.iC;rw[e1];exact .db d j l q
 |.dV id n sz,_,h=>by obtain⟨A,m,cap,e1,d,j,l,q⟩:=h.oR;rw[e1];exact .dV d j l q
 |.ep id i sz off,_,h=>by obtain⟨g,r,m,cap,e1,d⟩:=h.oG;rw[e1];exact .ep d
 |.mp id,_,h=>by rw[h.qb];exact .mp rfl
 |.cN id,_,h=>by obtain⟨A,n,cap,vs,e1,d,j,l⟩:=h.ko;rw[e1];exact .cN d j l
 |.np id,_,h=>by
  rcases h.Ea with e|e
  ·rw[e];exact .qc
  ·rw[e];exact .qd rfl
 |.dr b,_,h=>by cases h with|fz h=>exact .fz h
 |.fn f o,_,h=>by obtain⟨us,e,p⟩:=Rd.qZ h;rw[e];exact .fn (y9.az o p)
 |.agg o,_,h=>by obtain⟨us,e,p⟩:=Rd.cY h;rw[e];exact .agg (y9.az o p)
 |.ab o,_,h=>by obtain⟨us,e,p⟩:=Rd.fy h;rw[e];exact .ab (y9.az o p)
 |.any,_,_=>Rd.dS _
 |.int n,_,h=>by cases h with|fz h=>exact .fz h
 |.ik k n,_,h=>by cases h with|fz h=>exact .fz h
 |.bool b,_,h=>by cases h with|fz h=>exact .fz h
 |.str s,_,h=>by cases h with|fz h=>exact .fz h
 |.sl sz ls,_,h=>by cases h with|fz h=>exact .fz h
 |.fp o,_,h=>by cases h with|fz h=>exact .fz h
 |.aP,_,h=>by cases h with|fz h=>exact .fz h
 |.fR b,_,h=>by cases h with|fz h=>exact .fz h
 |.ae,_,h=>by cases h with|fz h=>exact .fz h
 |.aR,_,h=>by cases h with|fz h=>exact .fz h
 |.ad v,_,h=>by cases h with|fz h=>exact .fz h
theorem y9.az : ∀(a_:List AV) {vs:List Value},y9 c w vs (AV.cw ρ a_)->y9 (c.bt ρ) w vs a_
 |[],_,h=>by cases h;exact .nil
 |a::l,_,h=>by cases h with|cons h t=>exact .cons (Rd.az a h) (y9.az l t)
end
end
def Obj.bY (ρ:Nat->Nat):Obj->Obj
 |.box b e=>.box (AV.cw ρ b) e
 |.eqv j v=>.eqv (ρ j) v
 |.bZ sz ls e i off x=>.bZ sz ls e i off (ρ x)
 |.deep sz e a l d sh=>.deep sz e a l (d.map fun p=>(p.1,p.2.1,ρ p.2.2)) (ρ sh)
 |o=>o
def xC {ρ:Nat->Nat} {f:List (Nat×Nat×Nat)} {i off:Nat}:eZ (f.map fun p=>(p.1,p.2.1,ρ p.2.2)) i off↔eZ f i off:=by
 constructor
 ·rintro⟨x,d⟩;obtain⟨⟨a,b,y⟩,g,e⟩:=MM.1 d;cases e;exact⟨y,g⟩
 ·rintro⟨x,d⟩;exact⟨ρ x,MM.2 ⟨_,d,rfl⟩⟩
def tG {ρ:Nat->Nat} {css:List (List Value)} {f:List (Nat×Nat×TypeId)} {g:List (Nat×Nat×Nat)} {i off:Nat} {v:Value}:bR css f (g.map fun p=>(p.1,p.2.1,ρ p.2.2)) i off v↔bR css f g i off v :=
 ⟨fun⟨us,p,a,b,d,e⟩=>⟨us,p,a,b,d,fun h=>e (xC.2 h)⟩,fun⟨us,p,a,b,d,e⟩=>⟨us,p,a,b,d,fun h=>e (xC.1 h)⟩⟩
theorem tC.az {c:Ctx} {w:World} {ρ:Nat->Nat} {id sz e sh:Nat} {a:List (Nat×Nat×TypeId)} {l:List (List AV)} {m:List (Nat×Nat×Nat)} (h:tC c.Φ c.hd w (ρ id) sz e a l (m.map fun p=>(p.1,p.2.1,ρ p.2.2)) (ρ sh)) :
  tC (c.bt ρ).Φ (c.bt ρ).hd w id sz e a l m sh:=by
 obtain⟨css,r,g,s,t⟩:=h;refine⟨css,r,⟨g.len,g.cell,fun i us q off isz ie u d f k n o=>g.inner i us q off isz ie u d f k n fun h=>o (xC.1 h),fun i off x us u d f k=>g.hole i off (ρ x) us u (MM.2 ⟨_,d,rfl⟩) f k,fun i off v y j z b d f=>g.apart i off v y j z b (tG.2 d) (tG.2 f)⟩,
  fun v=>(s v).trans ⟨fun⟨i,off,h⟩=>⟨i,off,tG.1 h⟩,fun⟨i,off,h⟩=>⟨i,off,tG.2 h⟩⟩,fun i off v b d=>t i off v b (tG.2 d)⟩
theorem dN.az {c:Ctx} {w:World} {ρ:Nat->Nat} {id:Nat} {o:Obj} (h:dN c w (ρ id) (o.bY ρ)):dN (c.bt ρ) w id o:=by
 cases o with
 |aF=>trivial
 |ta g G=>exact h
 |box f e=>obtain⟨us,a,b⟩:=h;exact⟨us,a,y9.az f b⟩
 |bh l=>exact h
 |deep sz e d l k sh=>exact tC.az h
 |row sz ls e=>exact h
 |pins sz l e=>exact h
 |nest sz e isz ie l=>exact h
 |bZ sz ls e i off x=>obtain⟨v,a,b⟩:=h;exact⟨v,Rd.az (.aL x) a,b⟩
 |eqv j v=>exact h
def il {c:Ctx} {ρ:Nat->Nat} {id:Nat} {o:Obj} {b:Nat}:aZ (c.bt ρ) id o b↔aZ c (ρ id) (o.bY ρ) b:=by cases o<;>exact Iff.rfl
def rn (l:List (Nat×Nat)) (i:Nat):Nat:=match lk l i with
 |some j=>j
 |none=>i
def d22 (l:List (Nat×Nat)):Bool:=l.all fun p=>Nat.blt p.1 top
def vB {l:List (Nat×Nat)} (h:d22 l=true) {i:Nat} (hi:top<=i):rn l i=i:=by
 unfold rn;split
 ·rename_i j a;have:=MR (MK.1 h _ (dW a));simp only at this;omega
 ·rfl
def tT (ρ:Nat->Nat) (os:Os):Bool:=os.all fun p=>os.all fun q=>AT p.1 q.1 || !Nat.beq (ρ p.1) (ρ q.1)
def Hw {ρ:Nat->Nat} {os:Os} (h:tT ρ os=true) {i j:Nat} {o f:Obj} (hi:lk os i=some o) (d:lk os j=some f) (b:i≠j):ρ i≠ρ j:=by
 have a:=MK.1 (MK.1 h _ (dW hi)) _ (dW d);simp only[Bool.or_eq_true,Bool.not_eq_true'] at a;rcases a with a|a
 ·exact absurd (MG a) b
 ·intro e;rw[e] at a;simp at a
def E4 : Option AV->AV->Prop
 |some a,b=>mL a b
 |none,b=>b=.any
def d61 (ρ:Nat->Nat) (ts:Ts):Ts->Prop
 |[]=>True
 |(t,a)::r=>E4 (lk ts t) (a.bY ρ)/\d61 ρ ts r
def qQ (ρ:Nat->Nat) (os:Os):Os->Prop
 |[]=>True
 |(id,o)::r=>lk os (ρ id)=some (o.bY ρ)/\qQ ρ os r
theorem uS {ρ:Nat->Nat} {os:Os}:∀{a:Os},qQ ρ os a->∀id o,lk a id=some o->lk os (ρ id)=some (o.bY ρ)
 |(k,x)::r,h,id,o,hl=>by
  rw[l9] at hl;split at hl
  ·rename_i e;subst e;cases hl;exact h.1
  ·exact uS h.2 id o hl
theorem T9.az {c:Ctx} {w:World} {os a:Os} {ρ:Nat->Nat} (h:T9 c w os) (d:qQ ρ os a) (hi:tT ρ a=true):T9 (c.bt ρ) w a:=by
 have d:=uS d;exact⟨fun id o hl=>(h.rep _ _ (d id o hl)).az,fun id o b hl f=>h.lt _ _ b (d id o hl) (il.1 f),fun id j o k b i hl e f g=>h.sep _ _ _ _ b (Hw hi hl e i) (d id o hl) (d j k e) (il.1 f) (il.1 g),h.aw⟩
section
variable {P:Program} {tab:U2} {et:eO} {Γ:bD}
structure da (ts:Ts) (os:Os) (ts2:Ts) (os2:Os) (rl:List (Nat×Nat)):Prop where
 t:d61 (rn rl) ts ts2
 o:qQ (rn rl) os os2
 inj:tT (rn rl) os2=true
 top:d22 rl=true
theorem C7 {ts:Ts} {ρ:Nat->Nat}:∀{a:Ts},d61 ρ ts a->∀t x,lk a t=some x->E4 (lk ts t) (x.bY ρ)
 |(k,y)::r,h,t,x,hl=>by
  rw[l9] at hl;split at hl
  ·rename_i e;subst e;cases hl;exact h.1
  ·exact C7 h.2 t x hl
theorem gV.az {c:Ctx} {w:World} {ts d:Ts} {a:Act} {ρ:Nat->Nat} (h:gV c w ts a) (l:∀t x,lk d t=some x->t<a.tmps.size) (m:d61 ρ ts d):gV (c.bt ρ) w d a:=by
 intro t x hl;have e:=C7 m t x hl;have i:=l t x hl;cases g:lk ts t with
 |some b =>
  rw[g] at e;obtain⟨v,j,k⟩:=h t b g;exact⟨v,j,Rd.az x (yi e k)⟩
 |none =>
  rw[g] at e;refine⟨a.tmps[t],by simp[i],Rd.az x ?_⟩;have f:x.bY ρ=.any:=e;rw[f];exact Rd.dS _
theorem da.rel {ts:Ts} {os:Os} {f:Ts} {g:Os} {k:List (Nat×Nat)} (h:da ts os f g k) (u:(f.all fun p=>Nat.blt p.1 Γ.n)=true) {a:Act} {w:World} (v:E8 Γ ts os a w):E8 Γ f g a w:=by
 obtain⟨c,⟨l,j,m,q,d⟩,r⟩:=v;have i:=uS h.o;refine⟨c.bt (rn k),⟨l,j,m.az (fun t x hl=>by rw[j];exact MR (MK.1 u _ (dW hl))) h.t,q.az h.o h.inj,⟨d.cq,d.tape,d.output,d.size,d.aw,d.ar,d.af,fun id o b hl s=>d.bA _ _ b (i id o hl) (il.1 s)⟩⟩,fun id e=>?_⟩;have:=r id e;rw[<-vB h.top e] at this;simpa[Ctx.bt,vB h.top e] using this
theorem j6.sub {c:Code} {ts b:Ts} {os d:Os} {Q:Qt} (i:List (Nat×Nat)) (h:da ts os b d i) (f:(b.all fun p=>Nat.blt p.1 Γ.n)=true) (e:j6 P Γ c b d Q):j6 P Γ c ts os Q :=
 ⟨fun a w g=>e.run a w (h.rel f g)⟩
def exists_least {p:Nat->Prop} (h:∃n,p n):∃n,p n/\∀m,p m->n<=m:=by
 obtain⟨n,f⟩:=h
 induction n using Nat.strongRecOn with
 |_ n ih =>
  by_cases a:∃m,m<n/\p m
  ·obtain⟨m,b,d⟩:=a;exact ih m b d
  ·exact⟨n,f,fun m e=>by
    rcases Nat.lt_or_ge m n with h|h
    ·exact absurd ⟨m,h,e⟩ a
    ·exact h⟩
theorem j6.loop {ι:Type} (St:ι->Ts) (g:ι->Os) (m:ι->Nat) {c:Code} {ts:Ts} {os:Os} {Q:Qt} (t:ι) (B:List (Nat×Nat)) (G:da ts os (St t) (g t) B) (D:∀i,((St i).all fun p=>Nat.blt p.1 Γ.n)=true)
  (L:∀i,j6 P Γ c (St i) (g i) fun e f d=>match e with
   |.normal=>∃j E,m j<m i/\da f d (St j) (g j) E
   |.exit id=>Q (.exit id) f d
   |.ret=>Q .ret f d):j6 P Γ (.loop c) ts os Q:=by
 refine⟨fun a w q=>?_⟩;let I:Act->World->Prop:=fun a w=>∃i,E8 Γ (St i) (g i) a w;have v:I a w:=⟨t,G.rel (D t) q⟩;have l:∀a w,∃n,I a w->(∃i,m i=n/\E8 Γ (St i) (g i) a w)/\∀i,E8 Γ (St i) (g i) a w->n<=m i:=by
  intro a w;by_cases s:I a w
  ·obtain⟨i,hi⟩:=s;obtain⟨n,⟨j,C,u⟩,H⟩:=exists_least (p:=fun n=>∃i,m i=n/\E8 Γ (St i) (g i) a w) ⟨m i,i,rfl,hi⟩;exact⟨n,fun _=>⟨⟨j,C,u⟩,fun k J=>H (m k) ⟨k,rfl,J⟩⟩⟩
  ·exact⟨0,fun h=>absurd h s⟩
 refine wp_loop I (fun a w=>Classical.choose (l a w)) v fun a w s=>?_;obtain⟨⟨i,C,u⟩,_⟩:=Classical.choose_spec (l a w) s;refine wp_mono ((L i).run a w u) fun e F w' ⟨ex,f,d,A,o,b⟩=>?_
 match e,ex,A,o with
 |.normal,.normal,_,o =>
  obtain⟨j,E,K,r⟩:=o;have z:=r.rel (D j) b;refine⟨⟨j,z⟩,?_⟩;have:=(Classical.choose_spec (l F w') ⟨j,z⟩).2 j z;omega
 |.exit x,.exit y,A,o=>exact⟨.exit y,f,d,A,o,b⟩
 |.ret,.ret,_,o=>exact⟨.ret,f,d,trivial,o,b⟩
theorem j6.cc {c:Code} {ts:Ts} {os:Os} {Q:Qt} (t:Nat) {a:AV} (hl:lk ts t=some a) (h:cc [a]->j6 P Γ c ts os Q):j6 P Γ c ts os Q:=by
 refine⟨fun x w f=>?_⟩;have e:=f;obtain⟨g,b,_⟩:=e;obtain⟨v,_,d⟩:=b.ts t a hl;refine(h ?_).run x w f;cases d with
 |fz d=>exact(H6.cons d .nil).cc
 |_=>trivial
end
end
section
variable {P:Program} {tab:U2} {et:eO} {Γ:bD}
theorem E8.ghost {ts:Ts} {os need upd:Os} {news:List Nat} {a:Act} {w:World} (ex:Ts) (H:E8 Γ ts os a w) (d:jc need os) (o:F9 news ts=true) (p:F8 news upd os=true) (e:(news.all fun i=>(lk upd i).isSome)=true)
  (G:∀c,T9 c w need->∃c',aW c w c' w need upd news/\∀t x,lk ex t=some x->∃y,lk ts t=some y/\∀v,Rd c w v y->Rd c' w v x):E8 Γ (ex++ts) (upd++os) a w:=by
 obtain⟨c,⟨B,C,u,k,D⟩,E⟩:=H;have l:=sY d;have j:∀id∈news,(lk upd id).isSome=true:=fun id h=>by simpa using MK.1 e id h
 obtain⟨c',b,n⟩:=G c (k.sub l);obtain⟨g1,A⟩:=ou p;refine⟨c',⟨B,C,fun t x hl=>?_,k.frame l b j g1,D.post k l b j g1⟩,fun id q=>?_⟩
 ·rw[J5] at hl;cases m:lk ex t with
  |some y =>
   rw[m] at hl;simp at hl;subst hl;obtain⟨z,I,s⟩:=n t y m;obtain⟨v,f,g⟩:=u t z I;exact⟨v,f,s v g⟩
  |none =>
   rw[m] at hl;simp at hl;obtain⟨v,f,g⟩:=u t x hl;exact⟨v,f,g.post b (k.sub l) (rj o t x hl)⟩
 ·have r:id ∉ news:=fun F=>by have:=A id F;omega
  have f:=b.ctx id r;have g:=E id q;exact⟨f.1.trans g.1,f.2.trans g.2⟩
def xP {a t:Nat} {x y:AV} (h:lk [(a,x)] t=some y):t=a/\y=x:=by
 rw[l9] at h;split at h
 ·rename_i e;cases h;exact⟨e.symm,rfl⟩
 ·cases h
theorem E8.bK {ts:Ts} {os:Os} (t id sz e:Nat) (hl:lk ts t=some .aP) (j:F9 [id] ts=true) (k:F8 [id] [(id,.row sz [] e)] os=true) {a:Act} {w:World} (r:E8 Γ ts os a w):E8 Γ ((t,.aL id)::ts) ((id,.row sz [] e)::os) a w:=by
 refine E8.ghost (need:=[]) (upd:=[(id,.row sz [] e)]) (news:=[id]) [(t,.aL id)] r trivial j k (by simp[j5]) fun c aS=>⟨c.aQ id (.slice none 0 0),?_,fun C x u=>?_⟩
 ·have l:(c.aQ id (.slice none 0 0)).hd id=.slice none 0 0:=by simp[Ctx.aQ]
  have d:∀b,¬aZ (c.aQ id (.slice none 0 0)) id (.row sz [] e) b:=fun b m=>by
   have f:((c.aQ id (.slice none 0 0)).hd id).ownBlock=some b:=m;rw[l] at f;cases f
  refine⟨rfl,rfl,rfl,It _,fun _ h=>h,fun _ h=>.inl h,fun _ _ _=>rfl,fun i hi=>⟨rfl,by have:i≠id:=(by simpa using hi);simp[Ctx.aQ,this]⟩,⟨fun i o hl=>?_,fun i o b hl g=>?_,fun i z o B b q hl p g=>?_,aS.aw⟩,fun i o b hl g=>?_⟩<;>rw[l9] at hl<;>split at hl<;>first|(rename_i e1;subst e1;cases hl)|cases hl
  ·exact⟨[],by rw[l];exact⟨.inl ⟨rfl,rfl⟩,l8,l8⟩,rfl,fun i us y h=>by simp at h⟩
  ·exact absurd g (d b)
  ·exact absurd g (d b)
  ·exact absurd g (d b)
 ·obtain⟨rfl,rfl⟩:=xP u;exact⟨_,hl,fun v s=>by rw[s.bL];exact .aL (n:=0) (cap:=0) (A:=none) (by simp[Ctx.aQ]) (It _) (by simp[maxLen])⟩
theorem j6.bK {c:Code} {ts:Ts} {os:Os} {Q:Qt} (t id sz e:Nat) (hl:lk ts t=some .aP) (b:F9 [id] ts=true) (d:F8 [id] [(id,.row sz [] e)] os=true) (h:j6 P Γ c ((t,.aL id)::ts) ((id,.row sz [] e)::os) Q):j6 P Γ c ts os Q :=
 ⟨fun a w f=>h.run a w (E8.bK t id sz e hl b d f)⟩
theorem j6.freeze {c:Code} {ts:Ts} {os:Os} {Q:Qt} (t id:Nat) {sz e:Nat} {ls:List (List AV)} (hl:lk ts t=some (.aL id)) (b:lk os id=some (.row sz ls e)) (h:j6 P Γ c ((t,.sl sz ls)::ts) ((id,.aF)::os) Q):j6 P Γ c ts os Q:=by
 refine⟨fun a w d=>h.run a w (E8.ghost (need:=[(id,.row sz ls e)]) (upd:=[(id,.aF)]) (news:=[]) [(t,.sl sz ls)] d ⟨b,trivial⟩ rfl rfl rfl fun c aS=>⟨c.fz [(id,.row sz ls e)],aW.freeze aS,fun i x g=>?_⟩)⟩;obtain⟨rfl,rfl⟩:=xP g;exact⟨_,hl,fun v f=>nP aS (j5 _ _ _) f⟩
def entry : Nat->List AV->Ts
 |_,[]=>[]
 |k,a::l=>(k,a)::entry (k+1) l
theorem Cp : ∀(l:List AV) (k t:Nat) (x:AV),lk (entry k l) t=some x->k<=t/\l[t-k]?=some x
 |[],k,t,x,h=>by cases h
 |a::l,k,t,x,h=>by
  unfold entry at h;rw[l9] at h;split at h
  ·rename_i e;subst e;cases h;exact⟨It _,l8⟩
  ·obtain⟨d,b⟩:=Cp l (k+1) t x h;refine⟨d9,?_⟩;rw[show t-k=(t-(k+1))+1 by omega];simpa using b
def vD : List AV->Ts
 |[]=>[]
 |[a]=>[(0,a)]
 |[a,b]=>[(0,a),(1,b)]
 |[a,b,c]=>[(0,a),(1,b),(2,c)]
 |[a,b,c,d]=>[(0,a),(1,b),(2,c),(3,d)]
 |[a,b,c,d,e]=>[(0,a),(1,b),(2,c),(3,d),(4,e)]
 |[a,b,c,d,e,f]=>[(0,a),(1,b),(2,c),(3,d),(4,e),(5,f)]
 |[a,b,c,d,e,f,g]=>[(0,a),(1,b),(2,c),(3,d),(4,e),(5,f),(6,g)]
 |[a,b,c,d,e,f,g,h]=>[(0,a),(1,b),(2,c),(3,d),(4,e),(5,f),(6,g),(7,h)]
 |l=>entry 0 l
def IK (l:List AV):vD l=entry 0 l:=by
 unfold vD;split<;>rfl
def o0 (tab:U2) (ts:Ts) (os:Os):List ResultVar->Option (List AV)
 |[]=>some []
 |.tmp t::r=>match lk ts t,o0 tab ts os r with
  |some a,some l=>some (a::l)
  |_,_=>none
 |.cell t ty::r=>match lk ts t,lk tab ty,o0 tab ts os r with
  |some (.ptr id off),some ti,some l=>match lk os id with
   |some (.box b _)=>match kS ti b off with
    |some a=>some (a::l)
    |none=>none
   |_=>none
  |_,_,_=>none
def zD : List AV->AV
 |[a]=>a
 |l=>.ab l
theorem yF (o:M5 P tab) {c:Ctx} {w:World} {ts:Ts} {os:Os} {a:Act} (d:gV c w ts a) (aS:T9 c w os):∀(l:List ResultVar) (r:List AV),o0 tab ts os l=some r ->
  ∃vs:List Value,(l.mapM (fun x=>match x with
     |ResultVar.tmp t=>pure (a.tmps.getD t undef)
     |ResultVar.cell D t=>do loadVar t (<-asAddr (a.tmps.getD D undef)):ResultVar->Sem Value)).run P w=.ok vs w/\y9 c w vs r
 |[],r,h=>by cases h;exact⟨[],l8,.nil⟩
 |.tmp t::l,r,h=>by
  unfold o0 at h;split at h
  ·rename_i x C B f;cases h;obtain⟨vs,i,k⟩:=yF o d aS l C f;obtain⟨v,g,m⟩:=d t x B;refine⟨v::vs,?_,.cons m k⟩;have q:a.tmps.getD t undef=v:=by simp[Array.getD_eq_getD_getElem?,g]
   rw[List.mapM_cons];simp only[Sem.run_bind,Sem.run_pure,Result.andThen_ok,i,q]
  ·cases h
 |.cell t ty::l,r,h=>by
  unfold o0 at h;split at h
  ·rename_i id off ti C B A f;split at h
   ·rename_i J e s;split at h
    ·rename_i x z;cases h;obtain⟨vs,i,k⟩:=yF o d aS l C f;obtain⟨v,g,m⟩:=d t _ B;obtain⟨us,E,F⟩:=aS.rep id _ s;obtain⟨y,n,G⟩:=pF (b:=c.μ id) (p:=0) (o ty ti A) z F (fun j u I=>by
      unfold World.cell?;simp only[MZ,E];simpa using I)
     rw[MZ] at n;refine⟨y::vs,?_,.cons G k⟩;rw[m.cv] at g;simp only[Instr.loadAt,Instr.sureAddr,pure_bind] at n;have q:a.tmps.getD t undef=.pointer (some ⟨c.μ id,off,none⟩):=by simp[Array.getD_eq_getD_getElem?,g]
     rw[List.mapM_cons];have H:∀x:Addr,asAddr (.pointer (some x))=pure x:=fun _=>rfl;simp only[Sem.run_bind,Sem.run_pure,Result.andThen_ok,q,H,n,i]
    ·cases h
   ·cases h
  ·cases h
def d39 : List Value->Value
 |[v]=>v
 |l=>.tuple l.toArray
def K1 {c:Ctx} {w:World}:∀{vs:List Value} {r:List AV},y9 c w vs r->Rd c w (d39 vs) (zD r)
 |_,_,.nil=>.ab .nil
 |_,_,.cons h .nil=>h
 |_,_,.cons h (.cons k t)=>.ab (.cons h (.cons k t))
def HV {fn:Func} {tmps:Array Value} {w:World} {vs:List Value} (h:(fn.results.toList.mapM (fun x=>match x with
     |ResultVar.tmp t=>pure (tmps.getD t undef)
     |ResultVar.cell b t=>do loadVar t (<-asAddr (tmps.getD b undef)):ResultVar->Sem Value)).run P w=.ok vs w):(results fn tmps).run P w=.ok (d39 vs) w:=by
 unfold results;rw[Array.mapM_eq_mapM_toList];simp only[Sem.run_bind,Sem.run_map,Sem.run_pure];refine Eq.trans (congrArg (fun r:Result (List Value)=>(r.andThen fun a w'=>Result.ok a.toArray w').andThen fun a w'=>Result.ok (if h:a.size=1 then a[0] else Value.tuple a) w') h) ?_;simp only[Result.andThen_ok];congr 1;cases vs with
 |nil=>rfl
 |cons v vs=>cases vs with
  |nil=>rfl
  |cons u vs=>rfl
structure Fin (tab:U2) (rs:List ResultVar) (ts:Ts) (os:Os) (av:AV) (upd:Os) (news:List Nat) (rl:List (Nat×Nat)) (r:List AV):Prop where
 res:o0 tab ts os rs=some r
 out:mL (zD r) (av.bY (rn rl))
 obj:qQ (rn rl) os upd
 inj:tT (rn rl) upd=true
 top:d22 rl=true
 mem:(upd.all fun p=>news.elem p.1 || IN Go.Proofs.YtibjcppjfkamhaaGreatDoor.top p.1)=true
 ids:(av.ids.all fun i=>(lk upd i).isSome || IN Go.Proofs.YtibjcppjfkamhaaGreatDoor.top i)=true
 tj:(upd.all fun p=>p.2.ids.all fun i=>(lk upd i).isSome || IN Go.Proofs.YtibjcppjfkamhaaGreatDoor.top i)=true
def d27 (tab:U2) (b:List ResultVar) (av:AV) (upd:Os) (news:List Nat):Qt:=fun e ts os =>
 match e with
 |.exit _=>False
 |.normal=>∃a r,Fin tab b ts os av upd news a r
 |.ret=>∃a r,Fin tab b ts os av upd news a r
theorem Spec.of (hT:M5 P tab) {f n:Nat} {fn:Func} {c:Code} (D:P.funcs[f]?=some fn) (C:fn.body=some c) (hn:fn.ntmps=n) (hc:bl P f=true) {need upd:Os} {ins:List AV} {av:AV} {news:List Nat}
  (hl:IN ins.length n=true) (F:(need.all fun p=>IN top p.1 && (lk upd p.1).isSome)=true) (G:(news.all fun i=>(lk upd i).isSome)=true)
  (h:∀Γ:bD,Γ.n=n->j6 P Γ c (vD ins) need (d27 tab fn.results.toList av upd news)):Spec P f need ins av upd news:=by
 refine⟨hc,fun id E=>by simpa using MK.1 G id E,fun I w args aS k=>calls_of_wp D C ?_⟩;have hsz:args.size=ins.length:=by simpa using k.length
 have hle:=MR hl;let Γ:bD:=⟨I,w,need,n⟩;have z:E8 Γ (entry 0 ins) need { tmps:=args++Array.replicate (fn.ntmps-args.size) undef,defers:=[] } w:=by
  refine⟨I,⟨rfl,?_,fun t x B=>?_,aS,⟨rfl,rfl,rfl,It _,fun _ h=>h,fun _ h=>.inl h,fun _ _=>rfl,fun id o b U K=>.inr ⟨id,o,U,K⟩⟩⟩,fun _ _=>⟨rfl,rfl⟩⟩
  ·show(args++Array.replicate (fn.ntmps-args.size) undef).size=n;rw[Array.size_append,Array.size_replicate,hn];omega
  ·obtain⟨_,K⟩:=Cp ins 0 t x B;rw[Nat.sub_zero] at K;obtain⟨v,V,M⟩:=k.get K;refine⟨v,?_,M⟩;have L:args[t]?=some v:=by simpa using V
   have X:t<args.size:=(Array.getElem?_eq_some_iff.1 L).1;show(args++Array.replicate (fn.ntmps-args.size) undef)[t]?=some v;rw[Array.getElem?_append_left X,L]
 rw[<-IK] at z;refine wp_mono ((h Γ rfl).run _ w z) fun e a' w' ⟨ex,ts',os',hm,Q,H⟩=>?_;have J:(∃s r,Fin tab fn.results.toList ts' os' av upd news s r)->a'.defers=[]/\∃v,(results fn a'.tmps).run P w'=.ok v w'/\∃T c',Ending.returned v=.returned T/\aW I w c' w' need upd news/\Rd c' w' T av:=by
  rintro⟨s,r,a⟩;obtain⟨u,⟨U,K,V,M,y⟩,h6⟩:=H;obtain⟨vs,g1,g2⟩:=yF hT V M fn.results.toList r a.res;have hso:=uS a.obj;have hu:=M.az a.obj a.inj;have N:∀id o,lk upd id=some o->id∈news\/top<=id:=fun id o hl=>by
   have:=MK.1 a.mem _ (dW hl);simp only[Bool.or_eq_true] at this;exact this.imp (fun h=>by simpa using h) fun h=>MR h
  let c':Ctx:={ Φ:=u.Φ,μ:=fun i=>if(lk upd i).isSome then u.μ (rn s i) else I.μ i,hd:=fun i=>if(lk upd i).isSome then u.hd (rn s i) else I.hd i };have m:∀i,(lk upd i).isSome=true->c'.μ i=(u.bt (rn s)).μ i/\c'.hd i=(u.bt (rn s)).hd i:=fun i hi=>by simp[c',Ctx.bt,hi]
  have d:∀b,Γ.aL b->w.heap.size<=b\/Touch I need upd b:=fun b C=>C.imp (fun h=>h) fun⟨id,o,q1,q2⟩=>⟨id,o,q1,by
   have:=MK.1 F _ (dW q1);simp only[IT] at this;exact this.2,q2⟩
  have j:∀l:List Nat,(l.all fun i=>(lk upd i).isSome || IN Go.Proofs.YtibjcppjfkamhaaGreatDoor.top i)=true->∀x∈l,c'.μ x=(u.bt (rn s)).μ x/\c'.hd x=(u.bt (rn s)).hd x:=fun l hl x B=>by
   by_cases A:(lk upd x).isSome=true
   ·exact m x A
   ·have:=MK.1 hl x B;simp only[Bool.or_eq_true] at this;have ht:=MR (this.resolve_left A);have h7:=h6 x ht;simp only[c',Mt A,Ctx.bt,vB a.top ht];exact⟨h7.1.symm,h7.2.symm⟩
  have g:∀id o b,lk upd id=some o->(aZ c' id o b↔aZ (u.bt (rn s)) id o b):=fun id o b hl=>sZ (m id (by rw[hl];rfl)) (j _ (MK.1 a.tj _ (dW hl)));refine⟨U,d39 vs,?_,d39 vs,c',rfl,⟨y.cq,y.tape,y.output,y.size,y.aw,fun b C=>?_,fun b C Z=>y.af b fun ho=>?_,fun id E=>?_,⟨fun id o hl=>?_,fun id o b hl D=>?_,fun id S o o' b Y hl O D W=>?_,M.aw⟩,fun id o b hl D=>?_⟩,?_⟩
  ·exact HV g1
  ·exact(y.ar b C).imp (fun h=>h) (d b)
  ·rcases d b ho with h|h
   ·exact absurd C (Nat.not_lt.2 h)
   ·exact Z h
  ·by_cases A:(lk upd id).isSome=true
   ·obtain⟨o,ho⟩:=Option.isSome_iff_exists.1 A;rcases N id o ho with B|B
    ·exact absurd B E
    ·have:=h6 id B;rw[(m id A).1,(m id A).2];simpa[Ctx.bt,vB a.top B] using this
   ·simp[c',A]
  ·exact(hu.rep id o hl).af (m id (by rw[hl];rfl)) (fun _ _=>rfl) (fun _ h=>h) (fun _ _=>rfl) (j _ (MK.1 a.tj _ (dW hl)))
  ·exact hu.lt id o b hl ((g id o b hl).1 D)
  ·exact hu.sep id S o o' b Y hl O ((g id o b hl).1 D) ((g S o' b O).1 W)
  ·exact d b (y.bA _ _ b (hso id o hl) (il.1 ((g id o b hl).1 D)))
  ·have q:=(yi a.out (K1 g2)).az;exact Rd.mono (c:=u.bt (rn s)) (c':=c') (fun _ _=>rfl) (fun _ h=>h) (j _ a.ids) q
 match e,ex,hm,Q with
 |.normal,.normal,_,Q=>exact J Q
 |.ret,.ret,_,Q=>exact J Q
end
def waits (o:Oper) (i:Nat):Bool:=o.after.toList.any fun e=>Region.binds .any e && AT e.on i
def pq (ops:List Oper):Nat->Oper->Nat->Bool
 |0,o,i=>waits o i
 |n+1,o,i=>waits o i || o.after.toList.any fun e=>Region.binds .any e && (match ops[e.on]? with
  |some m=>pq ops n m i
  |none=>false)
def di (ops:List Oper) (o:Oper) (i:Nat):Bool:=pq ops 12 o i
def Cy {o:Oper} {e:_} (b:e∈o.after.toList) (a:Region.binds .any e=true):waits o e.on=true:=by
 unfold waits;exact List.any_eq_true.2 ⟨e,b,by simp[a]⟩
def CL {ops:List Oper} {o:Oper} {i:Nat} (h:waits o i=true):di ops o i=true:=by unfold di pq;rw[h];rfl
def bX (ops:List Oper) (o:Oper):List Nat :=
 (o.op.operands.toList.filterMap fun|.tmp t=>some t|_=>none) ++
 (match o.guard with
  |some (g,_)=>match ops[g]? with
   |some x=>x.dst.toList
   |none=>[]
  |none=>[])
def eB (ops:List Oper) (x y:Oper):Bool :=
 (match x.dst with
  |some d=>(bX ops y).elem d || (y.dst == some d)
  |none=>false) ||
 (match y.dst with
  |some d=>(bX ops x).elem d
  |none=>false)
def ef (ops:List Oper):Bool :=
 (ops.zipIdx.all fun(o,k)=>o.after.toList.all fun e=>!Region.binds .any e || Nat.blt e.on k) &&
 (ops.zipIdx.all fun(y,k)=>ops.zipIdx.all fun(x,i)=>!Nat.blt i k || !eB ops x y || waits y i) &&
 (ops.all fun o=>match o.op with|.select _ _=>false|_=>true)
structure dn (ops:List Oper) (σ:List Nat):Prop where
 nodup:σ.Nodup
 lt:∀i∈σ,i<ops.length
 wait:∀pre j post,σ=pre++j::post->∀o,ops[j]?=some o->∀i,waits o i=true->i∈post
theorem dn.cons {ops:List Oper} {b:List Nat} {k:Nat} {o:Oper} (h:dn ops b) (e:ops[k]?=some o) (f:k ∉ b) (g:∀i,waits o i=true->i∈b):dn ops (k::b):=by
 refine⟨List.nodup_cons.2 ⟨f,h.nodup⟩,fun i hi=>?_,fun pre j post a x d i hi=>?_⟩
 ·rcases Ly.1 hi with rfl|hi
  ·exact(Lx.1 e).1
  ·exact h.lt i hi
 ·cases pre with
  |nil =>
   simp at a;obtain⟨rfl,rfl⟩:=a;rw[e] at d;cases d;exact g i hi
  |cons p pre =>
   simp at a;exact h.wait pre j post a.2 x d i hi
theorem dn.jP {ops:List Oper} {k:List Nat} (h:dn ops k):∀(n:Nat) {pre post:List Nat} {j:Nat} (b:k=pre++j::post) {o:Oper} (d:ops[j]?=some o) {i:Nat} (a:pq ops n o i=true),i∈post
 |0,pre,post,j,b,o,d,i,a=>h.wait pre j post b o d i a
 |n+1,pre,post,j,b,o,d,i,a=>by
  unfold pq at a;rw[Bool.or_eq_true] at a;rcases a with a|a
  ·exact h.wait pre j post b o d i a
  ·obtain⟨e,q,a⟩:=List.any_eq_true.1 a;simp only[IT] at a;obtain⟨l,a⟩:=a;have p:=h.wait pre j post b o d e.on (Cy q l);obtain⟨r,s,g⟩:=List.append_of_mem p;split at a
   ·rename_i m f;have:=h.jP n (pre:=pre++j::r) (post:=s) (by rw[b,g];simp) f a;rw[g];simp[this]
   ·cases a
theorem dn.fC {ops:List Oper} {a:List Nat} (h:dn ops a) {pre post:List Nat} {j:Nat} (b:a=pre++j::post) {o:Oper} (d:ops[j]?=some o) {i:Nat} (e:di ops o i=true):i∈post :=
 h.jP _ b d e
theorem dn.EW {ops:List Oper} {f:List Nat} (h:dn ops f) {o:Oper} (j:∀i,waits o i=true->i∈f) {i:Nat} (a:di ops o i=true):i∈f:=by
 unfold di pq at a;rw[Bool.or_eq_true] at a;rcases a with a|a
 ·exact j i a
 ·obtain⟨e,k,a⟩:=List.any_eq_true.1 a;simp only[IT] at a;obtain⟨l,n,g⟩:=List.append_of_mem (j e.on (Cy k a.1));have b:=a.2;split at b
  ·rename_i m d;have:=h.jP _ g d b;rw[g];simp[this]
  ·cases b
def down : Nat->List Nat
 |0=>[]
 |k+1=>k::down k
def xz {k i:Nat}:i∈down k↔i<k:=by
 induction k with
 |zero=>simp[down]
 |succ k ih=>simp only[down,Ly,ih];omega
theorem xM {ops:List Oper} (h:ef ops=true):∀k,k<=ops.length->dn ops (down k)
 |0,_=>⟨by simp[down],by simp[down],fun pre j post d=>by simp[down] at d⟩
 |k+1,l=>by
  have ih:=xM h k d9;have g:ops[k]?=some ops[k]:=IS d9;refine ih.cons g (by rw[xz];omega) fun i hi=>?_;rw[xz];unfold ef at h;simp only[IT] at h;have f:=MK.1 h.1.1 (ops[k],k) (by rw[List.mem_zipIdx_iff_getElem?];exact g);simp only[MK] at f;unfold waits at hi;obtain⟨e,d,b⟩:=List.any_eq_true.1 hi;simp only[IT] at b;have a:=f e d;rw[b.1] at a;simp only[M1,Bool.false_or] at a;have:=MR a;have:=MG b.2;omega
theorem dn.first {ops:List Oper} {p:List Nat} (h:dn ops p) (W:Nat->Bool) {k:Nat} (C:∀i,i<k->W i=true->i∈p) (z:∀i∈p,W i=true->i<k)
  (D:∀i j o,i<j->j<k->W i=true->W j=true->ops[j]?=some o->di ops o i=true):p.find? W=(down k).find? W:=by
 have d:∀k,(down k).find? W=none\/∃j,(down k).find? W=some j/\j<k/\W j=true/\∀i,i<k->W i=true->i<=j:=by
  intro k
  induction k with
  |zero=>exact .inl rfl
  |succ k ih =>
   simp only[down,List.find?_cons];by_cases b:W k=true
   ·rw[b];exact .inr ⟨k,rfl,d9,b,fun i hi _=>d9⟩
   ·simp only[b];rcases ih with ih|⟨j,v,x,n,y⟩
    ·exact .inl ih
    ·refine .inr ⟨j,v,d9,n,fun i hi l=>?_⟩;rcases Nat.lt_or_eq_of_le (Nat.le_of_lt_succ hi) with h|h
     ·exact y i h l
     ·subst h;exact absurd l b
 rcases d k with B|⟨j,v,x,n,y⟩
 ·rw[B,List.find?_eq_none];intro i hi b;have q:=z i hi b;have:=List.find?_eq_none.1 B i (xz.2 q);exact this b
 ·rw[v];have A:=C j x n;obtain⟨pre,post,e⟩:=List.append_of_mem A;rw[e,List.find?_append];have g:pre.find? W=none:=by
   rw[List.find?_eq_none];intro m r b;have u:m∈p:=by rw[e];simp[r]
   have s:=z m u b;have E:=y m s b;have F:m≠j:=by
    rintro rfl;have a:=h.nodup;rw[e] at a;have:=(List.nodup_append.1 a).2.2 m r m l8;exact this rfl
   have f:ops[j]?=some (ops[j]'(h.lt j A)):=IS _;have t:=h.fC e f (D m j _ d9 x b n f);have a:=h.nodup;rw[e] at a;exact(List.nodup_append.1 a).2.2 m r m (by simp[t]) rfl
  rw[g];simp[n]
structure bT where
 av:AV
 need:Os
 upd:Os
 news:List Nat
 deriving Inhabited
section
variable (ops:List Oper) (R:Nat->bT) (ts0:Ts) (os0:Os)
def I8 : List Nat->Ts
 |[]=>ts0
 |k::σ=>match (ops[k]?).bind (·.dst) with
  |some d=>(d,(R k).av)::I8 σ
  |none=>I8 σ
def U1 : List Nat->Os
 |[]=>os0
 |k::σ=>(R k).upd++U1 σ
def gG (t:Nat) (k:Nat):Bool:=(ops[k]?).bind (·.dst) == some t
def jw (id:Nat) (k:Nat):Bool:=(lk (R k).upd id).isSome
theorem nM (t:Nat):∀a:List Nat,lk (I8 ops R ts0 a) t=match a.find? (gG ops t) with
  |some k=>some (R k).av
  |none=>lk ts0 t
 |[]=>rfl
 |k::a=>by
  rw[List.find?_cons];unfold I8;cases hd:(ops[k]?).bind (·.dst) with
  |none =>
   have:gG ops t k=false:=by unfold gG;rw[hd];rfl
   rw[this];exact nM t a
  |some d =>
   simp only;rw[l9];by_cases h:d=t
   ·subst h;have:gG ops d k=true:=by unfold gG;rw[hd];simp
    rw[this,Mu rfl]
   ·have:gG ops t k=false:=by unfold gG;rw[hd];simpa using h
    rw[this,Mt h];exact nM t a
theorem lr (id:Nat):∀a:List Nat,lk (U1 R os0 a) id=match a.find? (jw R id) with
  |some k=>lk (R k).upd id
  |none=>lk os0 id
 |[]=>rfl
 |k::a=>by
  rw[List.find?_cons];unfold U1;rw[J5];cases b:lk (R k).upd id with
  |none =>
   have:jw R id k=false:=by unfold jw;rw[b];rfl
   rw[this];simpa using lr id a
  |some x =>
   have:jw R id k=true:=by unfold jw;rw[b];rfl
   rw[this];simp[b]
end
theorem DJ : ∀(n:Nat) (l:List Nat),l.Nodup->(∀i∈l,i<n)->l.length<=n
 |0,l,_,h=>by
  cases l with
  |nil=>simp
  |cons a l=>exact absurd (h a l8) d9
 |n+1,l,b,h=>by
  have ih:=DJ n (l.erase n) (b.erase n) fun i hi=>by
   have d:=h i (List.mem_of_mem_erase hi);have f:i≠n:=fun e=>by
    subst e;exact(b.not_mem_erase hi).elim
   omega
  have:l.length<=(l.erase n).length+1:=by
   rw[List.length_erase];split<;>omega
  omega
def mentions (r:bT):List Nat:=r.av.ids++r.upd.flatMap fun p=>p.2.ids
def keys (os:Os):List Nat:=os.map (·.1)
def gr {os:Os} {id:Nat} (h:(lk os id).isSome=true):id∈keys os:=by
 obtain⟨o,a⟩:=Option.isSome_iff_exists.1 h;exact MM.2 ⟨_,dW a,rfl⟩
structure Comm (a b:bT):Prop where
 wr:∀id∈keys a.upd,id ∉ keys b.need
 ww:∀id∈keys a.upd,id ∉ keys b.upd
 nm:∀id∈a.news,id ∉ mentions b
def Rw (a b:bT):Prop:=∀id∈keys b.upd,id ∉ keys a.need
def fY (ops:List Oper) (o:Oper) (ts:Ts) (b:Bool):Prop :=
 match o.guard with
 |none=>b=true
 |some (j,a)=>(pr ops ts j=true/\b=false)\/∃x,pz ops ts j=some x/\(x == a)=b
structure EB (P:Program) (Γ:bD) (ops:List Oper) (o:Oper) (ts:Ts) (os:Os) (r:bT):Prop where
 guard:fY ops o ts true
 zR:qs P o (cT ts) r.av r.need r.upd r.news
 need:∀id ob,lk r.need id=some ob->lk os id=some ob
 news:∀id∈r.news,(lk r.upd id).isSome=true
 zJ:F9 r.news ts=true
 qa:F8 r.news r.upd os=true
structure E1 (ops:List Oper) (o:Oper) (ts:Ts) (r:bT):Prop where
 guard:fY ops o ts false
 eq:r=⟨.ab [],[],[],[]⟩
theorem fY.run {c:Ctx} {w:World} {ops:List Oper} {o:Oper} {ts:Ts} {a:Act} {b:Bool} (h:gV c w ts a) (e:fY ops o ts b):Region.wanted o (yielded ops.toArray a.tmps)=b:=by
 unfold fY at e;unfold Region.wanted;split at e
 ·rename_i g;rw[g,e]
 ·rename_i j d g;rw[g];rcases e with⟨f,rfl⟩|⟨x,f,i⟩
  ·have:=wN h f;simp only[this];rfl
  have:=wM h f;simp only[this];rw[<-i];cases x<;>cases d<;>rfl
structure mF (P:Program) (ops:List Oper) (R:Nat->bT) (ts0:Ts) (os0:Os) (i k:Nat):Prop where
 upd:(R i).upd=[]
 news:(R i).news=[]
 EZ:∀j,i<j->j<k->∀id∈keys (R j).upd,id ∉ keys (R i).need
 zR:∃o need',ops[i]?=some o/\qs P o (cT (I8 ops R ts0 (down i))) (R i).av need' [] []/\(∀id ob,lk need' id=some ob->lk (U1 R os0 (down (k+1))) id=some ob)/\∀id∈keys need',id∈keys (R i).need
section
variable {P:Program} {Γ:bD} {ops:List Oper} {R:Nat->bT} {ts0:Ts} {os0:Os}
structure Lex (P:Program) (Γ:bD) (ops:List Oper) (R:Nat->bT) (ts0:Ts) (os0:Os) (n:Nat):Prop where
 mG:∀k o,k<n->ops[k]?=some o->EB P Γ ops o (I8 ops R ts0 (down k)) (U1 R os0 (down k)) (R k)\/E1 ops o (I8 ops R ts0 (down k)) (R k)
 dst:∀k o,k<n->ops[k]?=some o->gP Γ.n o.dst=true
 comm:∀i k o,i<k->k<n->ops[k]?=some o->di ops o i=false->Comm (R i) (R k)/\(Rw (R i) (R k)\/mF P ops R ts0 os0 i k)
def uv (hd:ef ops=true) {i k:Nat} {x y:Oper} (f:ops[i]?=some x) (g:ops[k]?=some y) (b:i<k) (e:eB ops x y=true):waits y i=true:=by
 unfold ef at hd;simp only[IT] at hd;have d:=MK.1 hd.1.2 (y,k) (by rw[List.mem_zipIdx_iff_getElem?];exact g);have a:=MK.1 d (x,i) (by rw[List.mem_zipIdx_iff_getElem?];exact f);simp only[e,M1,Bool.or_false,Bool.or_eq_true,Bool.not_eq_true'] at a;rcases a with a|a
 ·have:Nat.blt i k=true:=Nat.ble_eq_true_of_le b;rw[this] at a;cases a
 ·exact a
def CO (hd:ef ops=true) {l:List Nat} (g:dn ops l) {k:Nat} {o:Oper} (v:ops[k]?=some o) (u:k ∉ l) (E:∀i,waits o i=true->i∈l) {t:Nat} (A:t∈bX ops o) :
  lk (I8 ops R ts0 l) t=lk (I8 ops R ts0 (down k)) t:=by
 have d:∀i,gG ops t i=true->∃x,ops[i]?=some x/\x.dst=some t:=fun i hi=>by
  unfold gG at hi;cases b:ops[i]? with
  |none=>rw[b] at hi;simp at hi
  |some x=>rw[b] at hi;exact⟨x,rfl,by simpa using hi⟩
 have C:=g.first (gG ops t) (k:=k) (fun i hi a=>by
   obtain⟨x,b,f⟩:=d i a;exact E i (uv hd b v hi (by unfold eB;rw[f];simp[A]))) (fun i hi a=>by
   obtain⟨x,b,f⟩:=d i a;rcases Nat.lt_or_ge i k with h|h
   ·exact h
   ·have D:i≠k:=fun e=>u (e▸hi);have p:=uv hd v b d9 (by
     unfold eB;rw[f];cases o.dst<;>simp[A])
    obtain⟨pre,post,s⟩:=List.append_of_mem hi;have:=g.wait pre i post s x b k p;exact absurd (by rw[s];simp[this]) u) (fun i j x m G a n b=>by
   obtain⟨y,F,q⟩:=d i a;obtain⟨z,B,r⟩:=d j n;rw[b] at B;cases B;exact CL (uv hd F b m (by unfold eB;rw[q,r];simp)))
 rw[nM,nM,C]
def JY {n:Nat} (t:Lex P Γ ops R ts0 os0 ops.length) {g:List Nat} (d:dn ops g) {k:Nat} {o:Oper} (y:ops[k]?=some o) (v:k ∉ g) (B:∀i,waits o i=true->i∈g) {id:Nat} (f:id∈keys (R k).need) (q:∀j∈g,k<j->Rw (R k) (R j)) :
  lk (U1 R os0 g) id=lk (U1 R os0 (down k)) id:=by
 have p:k<ops.length:=(Lx.1 y).1;have z:=d.first (jw R id) (k:=k) (fun i hi b=>by
   cases a:di ops o i with
   |true=>exact d.EW B a
   |false=>exact absurd f ((t.comm i k o hi p y a).1.wr id (gr b))) (fun i hi b=>by
   rcases Nat.lt_or_ge i k with h|h
   ·exact h
   ·have A:i≠k:=fun e=>v (e▸hi);have m:=d.lt i hi;have s:ops[i]?=some ops[i]:=IS m;cases a:di ops ops[i] k with
    |true =>
     obtain⟨pre,post,u⟩:=List.append_of_mem hi;have:=d.fC u s a;exact absurd (by rw[u];simp[this]) v
    |false=>exact absurd f (q i hi d9 id (gr b))) (fun i j x l C b r s=>by
   cases a:di ops x i with
   |true=>rfl
   |false=>exact absurd (gr r) ((t.comm i j x l d9 s a).1.ww id (gr b)))
 rw[lr,lr,z]
def Jk (p:Lex P Γ ops R ts0 os0 ops.length) {g:List Nat} (e:dn ops g) {k:Nat} {o:Oper} (z:ops[k]?=some o) (C:k ∉ g) (E:∀i,waits o i=true->i∈g) {m:Nat} (y:m∈g) (s:k<m) (hS:mF P ops R ts0 os0 k m) (A:¬Rw (R k) (R m)) {id:Nat} (d:id∈keys (R k).need) :
  lk (U1 R os0 g) id=lk (U1 R os0 (down (m+1))) id:=by
 have r:k<ops.length:=(Lx.1 z).1;have D:=e.lt m y;have B:=e.first (jw R id) (k:=m+1) (fun i hi a=>by
   rcases Nat.lt_trichotomy i k with h|h|h
   ·cases b:di ops o i with
    |true=>exact e.EW E b
    |false=>exact absurd d ((p.comm i k o h r z b).1.wr id (gr a))
   ·subst h;unfold jw at a;rw[hS.upd] at a;cases a
   ·rcases Nat.lt_or_ge i m with u|u
    ·exact absurd d (hS.EZ i h u id (gr a))
    ·have:i=m:=d9;subst this;exact y) (fun i hi a=>by
   rcases Nat.lt_or_ge i (m+1) with h|h
   ·exact h
   ·have f:=e.lt i hi;have l:ops[i]?=some ops[i]:=IS f;cases b:di ops ops[i] k with
    |true =>
     obtain⟨pre,post,v⟩:=List.append_of_mem hi;have:=e.fC v l b;exact absurd (by rw[v];simp[this]) C
    |false =>
     rcases(p.comm k i _ d9 f l b).2 with n|n
     ·exact absurd d (n id (gr a))
     ·exact absurd (fun id d=>n.EZ m s d9 id d) A) (fun i j x q F a t l=>by
   cases b:di ops x i with
   |true=>rfl
   |false=>exact absurd (gr t) ((p.comm i j x q d9 l b).1.ww id (gr a)))
 rw[lr,lr,B]
def Iw (hd:ef ops=true) (s:Lex P Γ ops R ts0 os0 ops.length) {l:List Nat} (a:dn ops l) (b:∀i,i<ops.length->i∈l) :
  (∀t,lk (I8 ops R ts0 l) t=lk (I8 ops R ts0 (down ops.length)) t)/\∀id,lk (U1 R os0 l) id=lk (U1 R os0 (down ops.length)) id:=by
 refine⟨fun t=>?_,fun id=>?_⟩
 ·have h:∀i,gG ops t i=true->∃x,ops[i]?=some x/\x.dst=some t:=fun i hi=>by
   unfold gG at hi;cases g:ops[i]? with
   |none=>rw[g] at hi;simp at hi
   |some x=>rw[g] at hi;exact⟨x,rfl,by simpa using hi⟩
  have m:=a.first (gG ops t) (k:=ops.length) (fun i hi _=>b i hi) (fun i hi _=>a.lt i hi) (fun i j x d q e f g=>by
   obtain⟨y,u,o⟩:=h i e;obtain⟨z,r,p⟩:=h j f;rw[g] at r;cases r;exact CL (uv hd u g d (by unfold eB;rw[o,p];simp)))
  rw[nM,nM,m]
 ·have m:=a.first (jw R id) (k:=ops.length) (fun i hi _=>b i hi) (fun i hi _=>a.lt i hi) (fun i j x d q e f g=>by
   cases n:di ops x i with
   |true=>rfl
   |false=>exact absurd (gr f) ((s.comm i j x d q g n).1.ww id (gr e)))
  rw[lr,lr,m]
theorem E8.congr {ts f:Ts} {os e:Os} {a:Act} {w:World} (h:E8 Γ ts os a w) (p:∀t,lk f t=lk ts t) (g:∀id,lk e id=lk os id):E8 Γ f e a w:=by
 obtain⟨c,⟨i,j,k,l,d⟩,m⟩:=h;exact⟨c,⟨i,j,fun t x hl=>k t x (by rw[<-p];exact hl),l.sub fun id o hl=>by rw[<-g];exact hl,⟨d.cq,d.tape,d.output,d.size,d.aw,d.ar,d.af,fun id o b hl n=>d.bA id o b (by rw[<-g];exact hl) n⟩⟩,m⟩
end
structure V where
 k:Int
 n:Int
 deriving DecidableEq,Inhabited
structure Ln where
 cls:Int
 found:Int
 deriving DecidableEq,Inhabited
structure St where
 cls:Int
 name:ByteArray
 pos:Int
 deriving DecidableEq,Inhabited
structure Tl where
 site:St
 a7:List Ln
 deriving DecidableEq,Inhabited
structure Ce where
 site:St
 aB:Int
 many:Bool
 lines:List Ln
 deriving DecidableEq,Inhabited
structure Ins where
 op:Int
 a:Int
 b:Int
 c:Int
 name:ByteArray
 deriving DecidableEq,Inhabited
structure Me where
 name:ByteArray
 args:Int
 a8:Int
 aX:Int
 code:List Ins
 deriving DecidableEq,Inhabited
structure Cl where
 name:ByteArray
 aV:Int
 aI:Int
 aC:List Me
 deriving DecidableEq,Inhabited
structure Ob where
 cls:Int
 aI:List V
 deriving DecidableEq,Inhabited
structure Wd where
 a7:List Cl
 heap:List Ob
 aB:Int
 deriving DecidableEq,Inhabited
structure Fs where
 cls:Int
 name:ByteArray
 aB:Int
 a8:Int
 code:List Ins
 deriving DecidableEq,Inhabited
def fN (n:Int):List AV:=[.int n]
def d76 (s:ByteArray):List AV:=[.str s]
def eV (v:V):List AV:=[.int v.k,.int v.n]
def V5 (x:Ln):List AV:=[.int x.cls,.int x.found]
def bW (s:St):List AV:=[.int s.cls,.str s.name,.int s.pos]
def hX (t:Tl):List AV:=[.int t.site.cls,.str t.site.name,.int t.site.pos,.sl 2 (t.a7.map V5)]
def hU (t:Ce):List AV:=[.int t.site.cls,.str t.site.name,.int t.site.pos,.int t.aB,.bool t.many,.sl 2 (t.lines.map V5)]
def bc (i:Ins):List AV:=[.int i.op,.int i.a,.int i.b,.int i.c,.str i.name]
def J2 (m:Me):List AV:=[.str m.name,.int m.args,.int m.a8,.int m.aX,.sl 5 (m.code.map bc)]
def fu (c:Cl):List AV:=[.str c.name,.int c.aV,.int c.aI,.sl 5 (c.aC.map J2)]
def hW (o:Ob):List AV:=[.int o.cls,.sl 2 (o.aI.map eV)]
def Q7 (w:Wd):List AV:=[.sl 4 (w.a7.map fu),.sl 2 (w.heap.map hW),.int w.aB]
def ed (f:Fs):List AV:=[.int f.cls,.str f.name,.int f.aB,.int f.a8,.sl 5 (f.code.map bc)]
def ER {c:Type} {enc:c->List AV} {l:List c} {i:Nat} {b:List AV} (h:(l.map enc)[i]?=some b):∃a,l[i]?=some a/\b=enc a:=by
 rw[Mb,ME] at h;obtain⟨a,d,e⟩:=h;exact⟨a,d,e.symm⟩
section
variable {P:Program} {Γ:bD} {ops:List Oper} {R:Nat->bT} {ts0:Ts} {os0:Os}
def Ie {o:Oper} {i:Nat}:waits o i=true↔∃e∈o.after,Region.binds .any e=true/\e.on=i:=by
 unfold waits;rw[List.any_eq_true];constructor
 ·rintro⟨e,b,a⟩;simp only[IT] at a;exact⟨e,by simpa using b,a.1,MG a.2⟩
 ·rintro⟨e,b,a,rfl⟩;exact⟨e,by simpa using b,by simp[a]⟩
def BU (hd:ef ops=true) {g:List Nat} (m:dn ops g) {k:Nat} {o:Oper} (r:ops[k]?=some o) (q:k ∉ g) (u:∀i,waits o i=true->i∈g) {b:Bool} (h:fY ops o (I8 ops R ts0 (down k)) b):fY ops o (I8 ops R ts0 g) b:=by
 have e:∀t∈bX ops o,lk (I8 ops R ts0 g) t=lk (I8 ops R ts0 (down k)) t:=fun t s=>CO hd m r q u s;unfold fY at h⊢;split at h
 ·exact h
 ·rename_i j p n;rcases h with⟨c,l⟩|⟨x,c,l⟩
  ·refine .inl ⟨?_,l⟩;unfold pr at c⊢;cases f:ops[j]? with
   |none=>rw[f] at c;cases c
   |some y =>
    rw[f] at c;simp only at c⊢;cases a:y.dst with
    |none=>rw[a] at c;cases c
    |some d =>
     rw[a] at c;simp only at c⊢;rw[e d (by unfold bX;rw[n];simp[f,a])];exact c
  refine .inr ⟨x,?_,l⟩;unfold pz at c⊢;cases f:ops[j]? with
  |none=>rw[f] at c;cases c
  |some y =>
   rw[f] at c;simp only at c⊢;cases a:y.dst with
   |none=>rw[a] at c;cases c
   |some d =>
    rw[a] at c;simp only at c⊢;rw[e d (by unfold bX;rw[n];simp[f,a])];exact c
def Iu (hd:ef ops=true) (W:Lex P Γ ops R ts0 os0 ops.length) {q:List Nat} (l:dn ops q) {k:Nat} {o:Oper} (A:ops[k]?=some o) (J:k ∉ q) (hw:∀i,waits o i=true->i∈q) {a:Act} {w:World}
  (hr:E8 Γ (I8 ops R ts0 q) (U1 R os0 q) a w) {K:Act->World->Prop} {Q:Exit->Act->World->Prop} (hK:∀a' w',E8 Γ (I8 ops R ts0 (k::q)) (U1 R os0 (k::q)) a' w'->K a' w'):wpOp P ops.toArray Q k K a w:=by
 have hkl:k<ops.length:=(Lx.1 A).1;have I:=W.dst k o hkl A;obtain⟨c,b⟩:=hr;have F:=b.rel.ts;unfold wpOp;have ho':ops.toArray[k]?=some o:=by simpa using A
 simp only[ho'];have ets:∀v,E8 Γ (dR o.dst (R k).av (I8 ops R ts0 q)) ((R k).upd++U1 R os0 q) (a.put o.dst v) w->True:=fun _ _=>trivial;have tsc:I8 ops R ts0 (k::q)=dR o.dst (R k).av (I8 ops R ts0 q):=by
  rw[I8,A];cases M:o.dst<;>simp[dR,M]
 rcases W.mG k o hkl A with D|S
 ·rw[(BU hd l A J hw D.guard).run F,Mu rfl];left;have hev:∀x∈o.op.operands.toList,Rd c w (a.eval x) (cT (I8 ops R ts0 (down k)) x):=fun x L=>by
   have e:cT (I8 ops R ts0 (down k)) x=cT (I8 ops R ts0 q) x:=by
    cases x with
    |tmp t =>
     unfold cT;simp only;rw[CO hd l A J hw (by unfold bX;rw[MN];left;rw[List.mem_filterMap];exact⟨.tmp t,L,rfl⟩)]
    |_=>rfl
   rw[e];exact qC F x
  have E:∃f,qs P o (cT (I8 ops R ts0 (down k))) (R k).av f (R k).upd (R k).news/\∀id ob,lk f id=some ob->lk (U1 R os0 q) id=some ob:=by
   by_cases z:∀j∈q,k<j->Rw (R k) (R j)
   ·refine⟨(R k).need,D.zR,fun id ob h=>?_⟩;rw[JY (n:=0) W l A J hw (gr (by rw[h];rfl)) z];exact D.need id ob h
   ·simp only[Classical.not_forall] at z;obtain⟨m,y,hkm,hN⟩:=z;have hml:=l.lt m y;have hmo:ops[m]?=some ops[m]:=IS hml;have hS:mF P ops R ts0 os0 k m:=by
     cases C:di ops ops[m] k with
     |true =>
      obtain⟨pre,post,N⟩:=List.append_of_mem y;have:=l.fC N hmo C;exact absurd (by rw[N];simp[this]) J
     |false=>exact(W.comm k m _ hkm hml hmo C).2.resolve_left hN
    obtain⟨o',f,ho2,ht,hn,hsub⟩:=hS.zR;rw[A] at ho2;cases ho2;refine⟨f,by rw[hS.upd,hS.news];exact ht,fun id ob h=>?_⟩;rw[Jk W l A J hw y hkm hS hN (hsub _ (gr (by rw[h];rfl)))];exact hn id ob h
  obtain⟨f,tri',g⟩:=E;have later:∀j∈q,¬j<k->∀x∈(R k).news,x ∉ mentions (R j):=fun j O u x L=>by
   have hne:j≠k:=fun e=>J (e▸O);have Y:=l.lt j O;have Z:ops[j]?=some ops[j]:=IS Y;cases C:di ops ops[j] k with
   |true =>
    obtain⟨pre,post,N⟩:=List.append_of_mem O;have:=l.fC N Z C;exact absurd (by rw[N];simp[this]) J
   |false=>exact(W.comm k j _ d9 Y Z C).1.nm x L
  have memd:∀j,j<k->∀p:Nat×AV,True:=fun _ _ _=>trivial;have U:∀j,j<k->(∃d,(ops[j]?).bind (·.dst)=some d/\(d,(R j).av)∈I8 ops R ts0 (down k))\/(ops[j]?).bind (·.dst)=none:=by
   have:∀n j,j<n->(∃d,(ops[j]?).bind (·.dst)=some d/\(d,(R j).av)∈I8 ops R ts0 (down n))\/(ops[j]?).bind (·.dst)=none:=by
    intro n
    induction n with
    |zero=>intro j h;omega
    |succ n ih =>
     intro j h;rcases Nat.lt_or_eq_of_le (Nat.le_of_lt_succ h) with h|h
     ·rcases ih j h with⟨d,V,X⟩|V
      ·refine .inl ⟨d,V,?_⟩;simp only[down,I8];split
       ·exact Mi _ X
       ·exact X
      ·exact .inr V
     ·subst h;cases M:(ops[j]?).bind (·.dst) with
      |none=>exact .inr rfl
      |some d=>refine .inl ⟨d,rfl,?_⟩;simp only[down,I8,M];simp
   exact fun j h=>this k j h
  have H:∀p∈ts0,p∈I8 ops R ts0 (down k):=by
   have:∀n,∀p∈ts0,p∈I8 ops R ts0 (down n):=by
    intro n
    induction n with
    |zero=>exact fun p h=>h
    |succ n ih =>
     intro p h;simp only[down,I8];split
     ·exact Mi _ (ih p h)
     ·exact ih p h
   exact this k
  have T:∀j,j<k->∀p∈(R j).upd,p∈U1 R os0 (down k):=by
   have:∀n j,j<n->∀p∈(R j).upd,p∈U1 R os0 (down n):=by
    intro n
    induction n with
    |zero=>intro j h;omega
    |succ n ih =>
     intro j h p B;simp only[down,U1];rcases Nat.lt_or_eq_of_le (Nat.le_of_lt_succ h) with h|h
     ·exact List.mem_append_right _ (ih j h p B)
     ·subst h;exact List.mem_append_left _ B
   exact fun j h=>this k j h
  have G:∀p∈os0,p∈U1 R os0 (down k):=by
   have:∀n,∀p∈os0,p∈U1 R os0 (down n):=by
    intro n
    induction n with
    |zero=>exact fun p h=>h
    |succ n ih=>intro p h;simp only[down,U1];exact List.mem_append_right _ (ih p h)
   exact this k
  have zJ:∀t x,lk (I8 ops R ts0 q) t=some x->∀id∈(R k).news,id ∉ x.ids:=by
   intro t x hl id s;have key:∀p∈I8 ops R ts0 (down k),id ∉ p.2.ids:=fun p B=>by
    have r:=D.zJ;unfold F9 at r;split at r
    ·rename_i e;rw[e] at s;cases s
    ·exact oy (MK.1 r p B) id s
   rw[nM] at hl;cases r:q.find? (gG ops t) with
   |none=>rw[r] at hl;exact key _ (H _ (dW hl))
   |some j =>
    rw[r] at hl;simp only[Option.some.injEq] at hl;subst hl;have O:=List.mem_of_find?_eq_some r;by_cases u:j<k
    ·rcases U j u with⟨d,_,y⟩|hnn
     ·exact key _ y
     ·have:=List.find?_some r;unfold gG at this;rw[hnn] at this;simp at this
    ·intro y;exact later j O u id s (by unfold mentions;simp[y])
  have qa:(∀id ob,lk (U1 R os0 q) id=some ob->lk (R k).upd id=none->∀x∈(R k).news,x ∉ ob.ids)/\∀x∈(R k).news,x<top:=by
   refine⟨fun id ob hl hu x L y=>?_,(ou D.qa).2⟩;have key:∀p∈U1 R os0 (down k),p.1=id->x ∉ p.2.ids:=fun p B N=>by
    have r:=D.qa;unfold F8 at r;split at r
    ·rename_i e;rw[e] at L;cases L
    ·simp only[IT] at r;have:=MK.1 r.2 p B;rw[N,hu] at this;simp only[Option.isSome_none,Bool.false_or] at this;exact oy this x L
   rw[lr] at hl;cases r:q.find? (jw R id) with
   |none=>rw[r] at hl;exact key _ (G _ (dW hl)) rfl y
   |some j =>
    rw[r] at hl;simp only at hl;have O:=List.mem_of_find?_eq_some r;by_cases u:j<k
    ·exact key _ (T j u _ (dW hl)) rfl y
    ·refine later j O u x L ?_;unfold mentions;rw[MN];right;rw[List.mem_flatMap];exact⟨_,dW hl,y⟩
  have hgo:=tri' c w a.eval (b.rel.aS.sub g) hev;unfold Oper.wp;refine hgo.upon fun v w' ⟨c',B,hv⟩=>hK _ _ ⟨c',?_,?_⟩
  ·have hn:=b.rel.n;refine⟨by rw[put_defers];exact b.rel.defers,by rw[rR];exact hn,?_,?_,?_⟩
   ·rw[tsc];exact F.put (b.rel.aS.sub g) B zJ hv (by rw[hn];exact I)
   ·exact b.rel.aS.frame g B D.news qa.1
   ·exact b.rel.inv.post b.rel.aS g B D.news qa.1
  ·intro id s;have hno:id ∉ (R k).news:=fun y=>by have:=qa.2 id y;omega
   have V:=B.ctx id hno;have X:=b.same id s;exact⟨V.1.trans X.1,V.2.trans X.2⟩
 ·rw[(BU hd l A J hw S.guard).run F,Mt l8];have hs:=rZ (o:=o) ⟨c,b⟩ I;refine hK _ _ ?_;rw[tsc,U1,S.eq];exact hs
def DE (hd:ef ops=true) (L:Lex P Γ ops R ts0 os0 ops.length) {Q:Exit->Act->World->Prop} (T:∀a w,E8 Γ (I8 ops R ts0 (down ops.length)) (U1 R os0 (down ops.length)) a w->Q .normal a w) :
  ∀(aE:Nat) (b:Array Bool) (c:List Nat) (a:Act) (w:World),dn ops c->(∀i,i<ops.length->(b.getD i true=true↔i∈c))->b.size=ops.length->c.length+aE=ops.length ->
   E8 Γ (I8 ops R ts0 c) (U1 R os0 c) a w->wpAny P .any ops.toArray Q aE b a w:=by
 have u:∀(b:Array Bool) (c:List Nat),dn ops c->(∀i,i<ops.length->(b.getD i true=true↔i∈c))->b.size=ops.length->Region.ready .any ops.toArray b=[]->∀i,i<ops.length->i∈c:=by
  intro b c d hl C n i
  induction i using Nat.strongRecOn with
  |_ i ih =>
   intro hi;cases A:b.getD i true with
   |true=>exact(hl i hi).1 A
   |false =>
    exfalso;have M:i∈Region.ready .any ops.toArray b:=by
     rw[mem_ready];refine⟨A,ops[i],by simp[hi],fun e F p=>?_⟩;have l:=hd;unfold ef at l;simp only[IT] at l;have z:=MK.1 l.1.1 (ops[i],i) (by rw[List.mem_zipIdx_iff_getElem?];exact IS hi);simp only[MK] at z;have E:=z e (by simpa using F);rw[p] at E;simp only[M1,Bool.false_or] at E;have H:e.on<i:=MR E;have K:=(hl e.on d9).2 (ih e.on H d9);have s:e.on<b.size:=d9;simp only[Array.getD_eq_getD_getElem?,Array.getElem?_eq_getElem s,Option.getD_some] at K⊢;exact K
    rw[n] at M;cases M
 have v:∀(c:List Nat) (a:Act) (w:World),dn ops c->(∀i,i<ops.length->i∈c)->E8 Γ (I8 ops R ts0 c) (U1 R os0 c) a w->Q .normal a w:=fun c a w d f n=>by
  obtain⟨e1,S⟩:=Iw hd L d f;exact T a w (n.congr (fun t=>(e1 t).symm) fun id=>(S id).symm)
 intro aE
 induction aE with
 |zero =>
  intro b c a w d hl C x n;have f:∀i,i<ops.length->i∈c:=fun i hi=>Classical.byContradiction fun U=>by
   have:=DJ ops.length (i::c) (List.nodup_cons.2 ⟨U,d.nodup⟩) fun j r=>by
    rcases Ly.1 r with rfl|r
    ·exact hi
    ·exact d.lt j r
   simp at this;omega
  refine⟨?_,v c a w d f n⟩;apply List.eq_nil_iff_forall_not_mem.2;intro i hi;rw[mem_ready] at hi;obtain⟨D,o,B,_⟩:=hi;have k:i<ops.length:=by
   have:=(Array.getElem?_eq_some_iff.1 B).1;simpa using this
  have:=(hl i k).2 (f i k);rw[D] at this;cases this
 |succ aE ih =>
  intro b c a w d hl C x n;refine⟨fun J=>v c a w d (u b c d hl C J) n,fun i hi=>?_⟩;rw[mem_ready] at hi;obtain⟨D,o,B,g⟩:=hi;have k:i<ops.length:=by
   have:=(Array.getElem?_eq_some_iff.1 B).1;simpa using this
  have y:ops[i]?=some o:=by simpa using B
  have m:i ∉ c:=fun h=>by
   have:=(hl i k).2 h;rw[D] at this;cases this
  have N:∀j,waits o j=true->j∈c:=fun j r=>by
   obtain⟨e,F,A,rfl⟩:=Ie.1 r;have l:=g e F A;have s:e.on<b.size:=Classical.byContradiction fun G=>by
    simp only[Array.getD_eq_getD_getElem?,Array.getElem?_eq_none (Nat.le_of_not_lt G),Option.getD_none] at l;cases l
   have z:b.getD e.on true=true:=by
    simp only[Array.getD_eq_getD_getElem?,Array.getElem?_eq_getElem s,Option.getD_some] at l⊢;exact l
   exact(hl e.on d9).1 z
  refine Iu hd L d y m N n fun O w' I=>ih _ (i::c) O w' (d.cons y m N) (fun j r=>?_) (by simpa using C) M3 I;by_cases q:i=j
  ·subst q;have:i<b.size:=d9;simp[this]
  ·rw[getD_set_ne true q];rw[hl j r,Ly];exact⟨.inr,fun h=>h.resolve_left fun e=>q e.symm⟩
end
def js (a b:List Nat):Bool:=a.all fun x=>!(b.elem x)
def jz {a b:List Nat} (h:js a b=true):∀x∈a,x ∉ b:=fun x d c=>by
 have:=MK.1 h x d;simp at this;exact this c
structure gU where
 k:Nat
 need:List Nat
 writes:List Nat
 news:List Nat
def vo (ops:List Oper) (o:Oper) (a:List gU) (rd:List Nat) (b:Os) (av:AV):Bool :=
 a.all fun r=>(js r.writes rd && js r.writes (keys b) && js (keys b) r.need && js r.news (av.ids++b.flatMap fun p=>p.2.ids)) || di ops o r.k
def ix (k:Nat) (rd c:List Nat) (b:Os) (a:List gU):List gU :=
 match rd,b with
 |[],[]=>a
 |_,_=>⟨k,rd,keys b,c⟩::a
def iY (P:Program) (tab:U2) (et:eO) (n:Nat) (ops:List Oper):Nat->List Oper->Ts->Os->List gU->(Ts->Os->Prop)->Prop
 |_,[],ts,os,_,K=>K ts os
 |k,o::rest,ts,os,log,K=>match o.dst with
  |some d=>match Nat.blt d n with
   |true=>jk ops o ts
    (iy P tab et d o.op (cT ts) os fun av rd b a=>match F9 b ts && F8 b a os && vo ops o log rd a av with
     |true=>force av fun av=>iT a os fun os=>iY P tab et n ops (k+1) rest ((d,av)::ts) os (ix k rd b a log) K
     |false=>False)
    (iY P tab et n ops (k+1) rest ((d,.ab [])::ts) os log K)
   |false=>False
  |none=>jk ops o ts
   (iy P tab et 0 o.op (cT ts) os fun av rd b a=>match F9 b ts && F8 b a os && vo ops o log rd a av with
    |true=>iT a os fun os=>iY P tab et n ops (k+1) rest ts os (ix k rd b a log) K
    |false=>False)
   (iY P tab et n ops (k+1) rest ts os log K)
section
variable {P:Program} {tab:U2} {et:eO} {Γ:bD} {ops:List Oper} {ts0:Ts} {os0:Os}
def uQ {o:Oper} {ts:Ts} {X Y:Prop} (h:jk ops o ts X Y):(fY ops o ts true/\X)\/(fY ops o ts false/\Y):=by
 unfold jk at h;unfold fY;cases e:o.guard with
 |none=>rw[e] at h;exact .inl ⟨rfl,h⟩
 |some p =>
  obtain⟨j,c⟩:=p;rw[e] at h;cases c with
  |true =>
   simp only at h⊢;split at h
   ·rename_i d;exact .inr ⟨.inl (by simp[d]),h⟩
   split at h
   ·rename_i b a;cases b
    ·exact .inr ⟨.inr ⟨false,a,rfl⟩,h⟩
    ·exact .inl ⟨.inr ⟨true,a,rfl⟩,h⟩
   ·exact h.elim
  |false =>
   simp only at h⊢;split at h
   ·rename_i d;exact .inr ⟨.inl (by simp[d]),h⟩
   split at h
   ·rename_i b a;cases b
    ·exact .inl ⟨.inr ⟨false,a,rfl⟩,h⟩
    ·exact .inr ⟨.inr ⟨true,a,rfl⟩,h⟩
   ·exact h.elim
def J8 (R:Nat->bT) (k:Nat) (r:bT):Nat->bT:=fun i=>if i=k then r else R i
theorem jf (R:Nat->bT) (k:Nat) (r:bT):∀n,n<=k->I8 ops (J8 R k r) ts0 (down n)=I8 ops R ts0 (down n)
 |0,_=>rfl
 |n+1,h=>by
  have e:J8 R k r n=R n:=by unfold J8;rw[Mt d9]
  simp only[down,I8,jf R k r n d9,e]
theorem nd (R:Nat->bT) (k:Nat) (r:bT):∀n,n<=k->U1 (J8 R k r) os0 (down n)=U1 R os0 (down n)
 |0,_=>rfl
 |n+1,h=>by
  have e:J8 R k r n=R n:=by unfold J8;rw[Mt d9]
  simp only[down,U1,nd R k r n d9,e]
def lZ (R:Nat->bT) (k:Nat) (a:List gU):Prop:=∀i,i<k->((R i).need=[]/\(R i).upd=[]/\(R i).news=[])\/∃r∈a,r.k=i/\r.need=keys (R i).need/\r.writes=keys (R i).upd/\r.news=(R i).news
theorem Comm.bB {a b:bT} (h:a.need=[]/\a.upd=[]/\a.news=[]):Comm a b:=by
 obtain⟨e,c,d⟩:=h;refine⟨fun id hi=>?_,fun id hi=>?_,fun id hi=>?_⟩
 ·rw[c] at hi;cases hi
 ·rw[c] at hi;cases hi
 ·rw[d] at hi;cases hi
theorem Rw.bB {a b:bT} (h:a.need=[]):Rw a b:=fun id _ hi=>by rw[h] at hi;cases hi
theorem mF.set {P:Program} {R:Nat->bT} {i k j:Nat} {r:bT} (q:i<k) (s:k<j) (h:mF P ops R ts0 os0 i k):mF P ops (J8 R j r) ts0 os0 i k:=by
 have b:∀i,i≠j->J8 R j r i=R i:=fun i h=>by unfold J8;rw[Mt h]
 obtain⟨d,e,f,o,a,g,l,n,p⟩:=h;refine⟨by rw[b i d9];exact d,by rw[b i d9];exact e,fun m t c=>by rw[b m d9,b i d9];exact f m t c,o,a,g,?_,?_,by rw[b i d9];exact p⟩
 ·rw[jf R j r i d9,b i d9];exact l
 ·rw[nd R j r (k+1) d9];exact n
theorem Lex.step {R:Nat->bT} {k:Nat} {o:Oper} {r:bT} (e:Lex P Γ ops R ts0 os0 k) (f:ops[k]?=some o)
  (hd:EB P Γ ops o (I8 ops R ts0 (down k)) (U1 R os0 (down k)) r\/E1 ops o (I8 ops R ts0 (down k)) r) (c:gP Γ.n o.dst=true) (s:∀i,i<k->di ops o i=false->Comm (R i) r/\(Rw (R i) r\/mF P ops (J8 R k r) ts0 os0 i k)):Lex P Γ ops (J8 R k r) ts0 os0 (k+1):=by
 have d:∀i,i≠k->J8 R k r i=R i:=fun i h=>by unfold J8;rw[Mt h]
 have g:J8 R k r k=r:=by unfold J8;rw[Mu rfl]
 refine⟨fun j x l a=>?_,fun j x l a=>?_,fun i j x b l a m=>?_⟩
 ·rw[jf R k r j d9,nd R k r j d9];by_cases h:j=k
  ·subst h;rw[f] at a;cases a;rw[g];exact hd
  ·rw[d j h];exact e.mG j x d9 a
 ·by_cases h:j=k
  ·subst h;rw[f] at a;cases a;exact c
  ·exact e.dst j x d9 a
 ·rw[d i d9];by_cases h:j=k
  ·subst h;rw[f] at a;cases a;rw[g];exact s i b m
  ·rw[d j h];obtain⟨p,q⟩:=e.comm i j x b d9 a m;exact⟨p,q.imp (fun h=>h) fun h=>h.set b d9⟩
def Je {os:Os} (h:os.map (·.1)=[]):os=[]:=by simpa using h
def d33 {R:Nat->bT} {k:Nat} {b:List gU} {o:Oper} {r:bT} (a:lZ R k b) (m:vo ops o b (r.need.map (·.1)) r.upd r.av=true):∀i,i<k->di ops o i=false->Comm (R i) r/\Rw (R i) r:=by
 intro i hi n;rcases a i hi with h|⟨x,p,rfl,g,j,l⟩
 ·exact⟨.bB h,.bB h.1⟩
 ·have:=MK.1 m x p;rw[n,Bool.or_false] at this;simp only[IT] at this;obtain⟨⟨⟨c,d⟩,e⟩,f⟩:=this;rw[j] at c d;rw[g] at e;rw[l] at f;exact⟨⟨jz c,jz d,jz f⟩,jz e⟩
def CT {R:Nat->bT} {k:Nat} {a:List gU} {r:bT} (b:lZ R k a) (n:∀id∈r.news,(lk r.upd id).isSome=true):lZ (J8 R k r) (k+1) (ix k (r.need.map (·.1)) r.news r.upd a):=by
 intro i hi;have l:∀i,i≠k->J8 R k r i=R i:=fun i h=>by unfold J8;rw[Mt h]
 have j:J8 R k r k=r:=by unfold J8;rw[Mu rfl]
 have grow:∀x∈a,x∈ix k (r.need.map (·.1)) r.news r.upd a:=fun x c=>by
  unfold ix;split
  ·exact c
  ·exact Mi _ c
 by_cases h:i=k
 ·subst h;rw[j];unfold ix;split
  ·rename_i m g;have f:r.news=[]:=List.eq_nil_iff_forall_not_mem.2 fun id d=>by
    have:=n id d;rw[g] at this;cases this
   exact .inl ⟨Je m,g,f⟩
  ·exact .inr ⟨_,List.mem_cons_self,rfl,rfl,rfl,rfl⟩
 ·rw[l i h];exact(b i d9).imp (fun h=>h) fun⟨x,c,e⟩=>⟨x,grow x c,e⟩
theorem yQ (Y:M5 P tab) (V:gJ P et):∀(l:List Oper) (k:Nat) (R:Nat->bT) (g:List gU) (K:Ts->Os->Prop),iY P tab et Γ.n ops k l (I8 ops R ts0 (down k)) (U1 R os0 (down k)) g K->Lex P Γ ops R ts0 os0 k->lZ R k g->(∀j,l[j]?=ops[k+j]?)->k+l.length=ops.length ->
  (∃a w,E8 Γ (I8 ops R ts0 (down k)) (U1 R os0 (down k)) a w)->∃u,Lex P Γ ops u ts0 os0 ops.length/\K (I8 ops u ts0 (down ops.length)) (U1 u os0 (down ops.length))
 |[],k,R,g,K,h,Q,t,hl,s,hi=>by
  simp at s;subst s;exact⟨R,Q,h⟩
 |o::l,k,R,g,K,h,Q,t,hl,s,hi=>by
  have S:ops[k]?=some o:=by simpa using(hl 0).symm
  have O:∀j,l[j]?=ops[k+1+j]?:=fun j=>by
   have:=hl (j+1);simpa[Mg,Nat.add_comm 1 j] using this
  have B:k+1+l.length=ops.length:=by simp at s;omega
  obtain⟨a,w,E⟩:=hi;have mG:∀(d:Nat) (dst:gP Γ.n o.dst=true) (U:Kt),fY ops o (I8 ops R ts0 (down k)) true->iy P tab et d o.op (cT (I8 ops R ts0 (down k))) (U1 R os0 (down k)) U ->
    (∀av rd M L,U av rd M L->F9 M (I8 ops R ts0 (down k))=true/\F8 M L (U1 R os0 (down k))=true/\vo ops o g rd L av=true/\iY P tab et Γ.n ops (k+1) l (dR o.dst av (I8 ops R ts0 (down k))) (L++U1 R os0 (down k)) (ix k rd M L g) K) ->
    ∃u,Lex P Γ ops u ts0 os0 ops.length/\K (I8 ops u ts0 (down ops.length)) (U1 u os0 (down ops.length)):=by
   intro d dst U A hst W;obtain⟨c,b⟩:=E;have N:∀x∈o.op.operands.toList,Rd c w (a.eval x) (cT (I8 ops R ts0 (down k)) x):=fun x _=>qC b.rel.ts x;obtain⟨av,need,upd,news,F,e,f,X⟩:=cQ Y V d hst ⟨c,w,a.eval,b.rel.aS,N⟩;obtain⟨f1,f2,f3,q⟩:=W _ _ _ _ X;let r:bT:=⟨av,need,upd,news⟩;have H:=Q.step (r:=r) S (.inl ⟨A,F,e,f,f1,f2⟩) dst (fun i hi hw=>(d33 (r:=r) t f3 i hi hw).imp (fun h=>h) .inl);have p:=CT (r:=r) (R:=R) t f;have G:J8 R k r k=r:=by unfold J8;rw[Mu rfl]
   have z:I8 ops (J8 R k r) ts0 (down (k+1))=dR o.dst av (I8 ops R ts0 (down k)):=by
    simp only[down,I8,jf R k r k (It _),S,G];cases I:o.dst<;>simp[dR,I,r]
   have y:U1 (J8 R k r) os0 (down (k+1))=upd++U1 R os0 (down k):=by
    simp only[down,U1,nd R k r k (It _),G];rfl
   have hgo:=F c w a.eval (b.rel.aS.sub e) N;obtain⟨v,w',c',T,hv⟩:=hgo.inst;obtain⟨g1,g2⟩:=ou f2;have J:E8 Γ (dR o.dst av (I8 ops R ts0 (down k))) (upd++U1 R os0 (down k)) (a.put o.dst v) w':=by
    refine⟨c',⟨by rw[put_defers];exact b.rel.defers,by rw[rR];exact b.rel.n,b.rel.ts.put (b.rel.aS.sub e) T (rj f1) hv (by rw[b.rel.n];exact dst),b.rel.aS.frame e T f g1,b.rel.inv.post b.rel.aS e T f g1⟩,fun id hid=>?_⟩;have hno:id ∉ news:=fun hm=>by have:=g2 id hm;omega
    have h1:=T.ctx id hno;have h2:=b.same id hid;exact⟨h1.1.trans h2.1,h1.2.trans h2.2⟩
   exact yQ Y V l (k+1) (J8 R k r) _ K (by rw[z,y];exact q) H p O B ⟨_,_,by rw[z,y];exact J⟩
  have skip:gP Γ.n o.dst=true->fY ops o (I8 ops R ts0 (down k)) false->iY P tab et Γ.n ops (k+1) l (dR o.dst (.ab []) (I8 ops R ts0 (down k))) (U1 R os0 (down k)) g K ->
    ∃u,Lex P Γ ops u ts0 os0 ops.length/\K (I8 ops u ts0 (down ops.length)) (U1 u os0 (down ops.length)):=by
   intro dst A q;let r:bT:=⟨.ab [],[],[],[]⟩;have H:=Q.step (r:=r) S (.inr ⟨A,rfl⟩) dst (fun i hi hw=>⟨⟨fun id _ h=>(by cases h),fun id _ h=>(by cases h),fun id _ h=>(by cases h)⟩,.inl fun id h=>(by cases h)⟩);have p:lZ (J8 R k r) (k+1) g:=fun i hi=>by
    by_cases h:i=k
    ·subst h;have G:J8 R i r i=r:=by unfold J8;rw[Mu rfl]
     rw[G];exact .inl ⟨rfl,rfl,rfl⟩
    ·have eo:J8 R k r i=R i:=by unfold J8;rw[Mt h]
     rw[eo];exact t i d9
   have G:J8 R k r k=r:=by unfold J8;rw[Mu rfl]
   have z:I8 ops (J8 R k r) ts0 (down (k+1))=dR o.dst (.ab []) (I8 ops R ts0 (down k)):=by
    simp only[down,I8,jf R k r k (It _),S,G];cases I:o.dst<;>simp[dR,I,r]
   have y:U1 (J8 R k r) os0 (down (k+1))=U1 R os0 (down k):=by
    simp only[down,U1,nd R k r k (It _),G];rfl
   exact yQ Y V l (k+1) (J8 R k r) g K (by rw[z,y];exact q) H p O B ⟨_,_,by rw[z,y];exact rZ (o:=o) E dst⟩
  unfold iY at h;split at h
  ·rename_i d hd;split at h
   ·rename_i Z;have m:gP Γ.n o.dst=true:=by rw[hd];exact Z
    rcases uQ h with⟨A,h⟩|⟨A,h⟩
    ·refine mG d m _ A h fun av rd M L D=>?_;split at D
     ·rename_i C;simp only[IT] at C;rw[force_eq,jg] at D;exact⟨C.1.1,C.1.2,C.2,by rw[hd];exact D⟩
     ·exact D.elim
    ·exact skip m A (by rw[hd];exact h)
   ·exact h.elim
  ·rename_i hd;have m:gP Γ.n o.dst=true:=by rw[hd];rfl
   rcases uQ h with⟨A,h⟩|⟨A,h⟩
   ·refine mG 0 m _ A h fun av rd M L D=>?_;split at D
    ·rename_i C;simp only[IT] at C;rw[jg] at D;exact⟨C.1.1,C.1.2,C.2,by rw[hd];exact D⟩
    ·exact D.elim
   ·exact skip m A (by rw[hd];exact h)
theorem E8.drew {ts:Ts} {os:Os} {a:Act} {w:World} (h:E8 Γ ts os a w):E8 Γ ts os a { w with drawn:=w.drawn+1 }:=by
 obtain⟨c,⟨e,f,g,d,b⟩,i⟩:=h;refine⟨c,⟨e,f,fun t x hl=>?_,⟨fun id o hl=>?_,d.lt,d.sep,d.aw⟩,⟨b.cq,b.tape,b.output,b.size,b.aw,b.ar,b.af,b.bA⟩⟩,i⟩
 ·obtain⟨v,j,k⟩:=g t x hl;exact⟨v,j,Rd.mono (c:=c) (c':=c) (w:=w) (w':={ w with drawn:=w.drawn+1 }) (fun _ _=>rfl) (fun _ h=>h) (fun _ _=>⟨rfl,rfl⟩) k⟩
 ·exact(d.rep id o hl).af (c':=c) ⟨rfl,rfl⟩ (fun _ _=>rfl) (fun _ h=>h) (fun _ _=>rfl) fun _ _=>⟨rfl,rfl⟩
theorem j6.draw (s:M5 P tab) (p:gJ P et) {n:Nat} (u:Γ.n=n) (t:P.follows .mixedOrders=true) {id:Nat} {l:Array Oper} (hd:ef l.toList=true) {ts:Ts} {os:Os} {Q:Qt} (h:fe ts fun ts=>iY P tab et n l.toList 0 l.toList ts os [] (Q .normal)):j6 P Γ (.region id l true) ts os Q:=by
 subst u;rw[nS] at h;refine⟨fun a w v=>wp_region_any t ?_⟩;have c:=v.drew;obtain⟨R,r,q⟩:=yQ (ops:=l.toList) (ts0:=ts) (os0:=os) s p l.toList 0 (fun _=>default) [] _ h ⟨fun k o b=>absurd b d9,fun k o b=>absurd b d9,fun i k o _ b=>absurd b d9⟩ (fun i hi=>absurd hi d9) (fun j=>by rw[MZ]) d9 ⟨_,_,c⟩;have:=DE (Q:=fun e m w'=>∃ex f d,mH e ex/\Q ex f d/\E8 Γ f d m w') hd r (fun m w' g=>⟨.normal,_,_,trivial,q,g⟩) l.toList.length (Array.replicate l.size false) [] a _ (xM hd 0 (Nat.zero_le _)) (fun i hi=>by
  have:i<l.size:=by simpa using hi
  simp[this]) l8 l8 c
 simpa using this
structure Sv where
 o:Oper
 ts:Ts
 av:AV
 rd:List Nat
def vq (ops:List Oper) (o:Oper) (k c ms:Nat) (a:List gU) (rd:List Nat) (b:Os) (av:AV):Bool :=
 a.all fun r=>(js r.writes rd && js r.writes (keys b) && (js (keys b) r.need || (AT r.k c && AT k ms)) && js r.news (av.ids++b.flatMap fun p=>p.2.ids)) || di ops o r.k
def d38 (ts a:Ts):List Operand->Prop
 |[]=>True
 |x::l=>cT a x=cT ts x/\d38 ts a l
theorem Ad {ts a:Ts}:∀{l:List Operand},d38 ts a l->∀x∈l,cT a x=cT ts x
 |[],_,x,h=>(by cases h)
 |y::l,h,x,b=>by
  rcases Ly.1 b with rfl|b
  ·exact h.1
  ·exact Ad h.2 x b
def Hn (b:Nat) (rd:List Nat) (a:List gU):Bool:=a.all fun r=>!(Nat.blt b r.k) || js r.writes rd
def vu (P:Program) (tab:U2) (et:eO) (k b ms:Nat) (d:Option Sv) (a:List gU) (ts:Ts) (os:Os) (K:Prop):Prop :=
 match AT k ms with
 |true=>match d with
  |some s=>(Hn b s.rd a=true/\d38 s.ts ts s.o.op.operands.toList/\iy P tab et 0 s.o.op (cT s.ts) os fun av rd c e=>av=s.av/\c=[]/\e=[]/\(rd.all fun x=>s.rd.elem x)=true)/\K
  |none=>False
 |false=>K
def qG (k b:Nat) (o:Oper) (ts:Ts) (av:AV) (rd c:List Nat) (d:Os) (a:Option Sv):Option Sv :=
 match AT k b with
 |true=>match c,d with
  |[],[]=>some ⟨o,ts,av,rd⟩
  |_,_=>a
 |false=>a
def iZ (P:Program) (tab:U2) (et:eO) (n:Nat) (ops:List Oper) (b ms:Nat):Nat->List Oper->Ts->Os->List gU->Option Sv->(Ts->Os->Prop)->Prop
 |_,[],ts,os,_,_,K=>K ts os
 |k,o::rest,ts,os,log,sv,K=>match o.dst with
  |some d=>match Nat.blt d n with
   |true=>jk ops o ts
    (iy P tab et d o.op (cT ts) os fun av rd c a=>match F9 c ts && F8 c a os && vq ops o k b ms log rd a av with
     |true=>force av fun av=>iT a os fun os=>vu P tab et k b ms sv log ((d,av)::ts) os (iZ P tab et n ops b ms (k+1) rest ((d,av)::ts) os (ix k rd c a log) (qG k b o ts av rd c a sv) K)
     |false=>False)
    (iZ P tab et n ops b ms (k+1) rest ((d,.ab [])::ts) os log sv K)
   |false=>False
  |none=>jk ops o ts
   (iy P tab et 0 o.op (cT ts) os fun av rd c a=>match F9 c ts && F8 c a os && vq ops o k b ms log rd a av with
    |true=>iT a os fun os=>vu P tab et k b ms sv log ts os (iZ P tab et n ops b ms (k+1) rest ts os (ix k rd c a log) (qG k b o ts av rd c a sv) K)
    |false=>False)
   (iZ P tab et n ops b ms (k+1) rest ts os log sv K)
section
variable {P:Program} {tab:U2} {et:eO} {Γ:bD} {ops:List Oper} {ts0:Ts} {os0:Os}
def mE (ops:List Oper) (R:Nat->bT) (ts0:Ts) (a k:Nat) (b:Option Sv):Prop:=∀s,b=some s->a<k/\ops[a]?=some s.o/\s.ts=I8 ops R ts0 (down a)/\(R a).av=s.av/\keys (R a).need=s.rd/\(R a).upd=[]/\(R a).news=[]
theorem mE.step {R:Nat->bT} {a k:Nat} {b:Option Sv} {r:bT} (h:mE ops R ts0 a k b):mE ops (J8 R k r) ts0 a (k+1) b:=fun s g=>by
 obtain⟨i,c,d,f⟩:=h s g;have e:J8 R k r a=R a:=by unfold J8;rw[Mt d9]
 exact⟨d9,c,by rw[jf R k r a d9];exact d,by rw[e];exact f⟩
theorem mE.save {R:Nat->bT} {a k:Nat} {b:Option Sv} {o:Oper} {r:bT} (h:mE ops R ts0 a k b) (g:ops[k]?=some o):mE ops (J8 R k r) ts0 a (k+1) (qG k a o (I8 ops R ts0 (down k)) r.av (r.need.map (·.1)) r.news r.upd b):=by
 unfold qG;split
 ·rename_i f;have:=MG f;subst this;split
  ·rename_i c d;intro s i;cases i;have e:J8 R k r k=r:=by unfold J8;rw[Mu rfl]
   exact⟨d9,g,(jf R k r k (It _)).symm,by rw[e],by rw[e];rfl,by rw[e];exact d,by rw[e];exact c⟩
  ·exact h.step
 ·exact h.step
def d68 {R:Nat->bT} {k g ms:Nat} {b:List gU} {o:Oper} {r:bT} (a:lZ R k b) (n:vq ops o k g ms b (r.need.map (·.1)) r.upd r.av=true):∀i,i<k->di ops o i=false->Comm (R i) r/\(Rw (R i) r\/(i=g/\k=ms)):=by
 intro i hi p;rcases a i hi with h|⟨x,q,rfl,j,l,m⟩
 ·exact⟨.bB h,.inl (.bB h.1)⟩
 ·have:=MK.1 n x q;rw[p,Bool.or_false] at this;simp only[IT,Bool.or_eq_true] at this;obtain⟨⟨⟨c,d⟩,e⟩,f⟩:=this;rw[l] at c d;rw[j] at e;rw[m] at f;refine⟨⟨jz c,jz d,jz f⟩,e.imp (fun h=>jz h) fun h=>⟨MG h.1,MG h.2⟩⟩
theorem yX (hT:M5 P tab) (hE:gJ P et) (y ms:Nat):∀(l:List Oper) (k:Nat) (R:Nat->bT) (m:List gU) (M:Option Sv) (K:Ts->Os->Prop),mE ops R ts0 y k M->iZ P tab et Γ.n ops y ms k l (I8 ops R ts0 (down k)) (U1 R os0 (down k)) m M K->Lex P Γ ops R ts0 os0 k->lZ R k m->(∀j,l[j]?=ops[k+j]?)->k+l.length=ops.length ->
  (∃a w,E8 Γ (I8 ops R ts0 (down k)) (U1 R os0 (down k)) a w)->∃C,Lex P Γ ops C ts0 os0 ops.length/\K (I8 ops C ts0 (down ops.length)) (U1 C os0 (down ops.length))
 |[],k,R,m,M,K,L,h,hL,u,hl,A,hi=>by
  simp at A;subst A;exact⟨R,hL,h⟩
 |o::l,k,R,m,M,K,L,h,hL,u,hl,A,hi=>by
  have ho:ops[k]?=some o:=by simpa using(hl 0).symm
  have hl':∀j,l[j]?=ops[k+1+j]?:=fun j=>by
   have:=hl (j+1);simpa[Mg,Nat.add_comm 1 j] using this
  have H:k+1+l.length=ops.length:=by simp at A;omega
  obtain⟨a,w,Q⟩:=hi;have mG:∀(d:Nat) (dst:gP Γ.n o.dst=true) (K0:Kt),fY ops o (I8 ops R ts0 (down k)) true->iy P tab et d o.op (cT (I8 ops R ts0 (down k))) (U1 R os0 (down k)) K0 ->
    (∀av rd Y N,K0 av rd Y N->F9 Y (I8 ops R ts0 (down k))=true/\F8 Y N (U1 R os0 (down k))=true/\vq ops o k y ms m rd N av=true/\vu P tab et k y ms M m (dR o.dst av (I8 ops R ts0 (down k))) (N++U1 R os0 (down k)) (iZ P tab et Γ.n ops y ms (k+1) l (dR o.dst av (I8 ops R ts0 (down k))) (N++U1 R os0 (down k)) (ix k rd Y N m) (qG k y o (I8 ops R ts0 (down k)) av rd Y N M) K)) ->
    ∃C,Lex P Γ ops C ts0 os0 ops.length/\K (I8 ops C ts0 (down ops.length)) (U1 C os0 (down ops.length)):=by
   intro d dst K0 G hst hK0;obtain⟨c,f⟩:=Q;have Z:∀x∈o.op.operands.toList,Rd c w (a.eval x) (cT (I8 ops R ts0 (down k)) x):=fun x _=>qC f.rel.ts x;obtain⟨av,need,upd,news,T,g,p,hKK⟩:=cQ hT hE d hst ⟨c,w,a.eval,f.rel.aS,Z⟩;obtain⟨f1,f2,f3,b⟩:=hK0 _ _ _ _ hKK;let r:bT:=⟨av,need,upd,news⟩;have z:=CT (r:=r) (R:=R) u p;have U:J8 R k r k=r:=by unfold J8;rw[Mu rfl]
   have E:I8 ops (J8 R k r) ts0 (down (k+1))=dR o.dst av (I8 ops R ts0 (down k)):=by
    simp only[down,I8,jf R k r k (It _),ho,U];cases W:o.dst<;>simp[dR,W,r]
   have B:U1 (J8 R k r) os0 (down (k+1))=upd++U1 R os0 (down k):=by
    simp only[down,U1,nd R k r k (It _),U];rfl
   have hgo:=T c w a.eval (f.rel.aS.sub g) Z;obtain⟨v,w',c',hp,hv⟩:=hgo.inst;obtain⟨g1,g2⟩:=ou f2;have I:E8 Γ (dR o.dst av (I8 ops R ts0 (down k))) (upd++U1 R os0 (down k)) (a.put o.dst v) w':=by
    refine⟨c',⟨by rw[put_defers];exact f.rel.defers,by rw[rR];exact f.rel.n,f.rel.ts.put (f.rel.aS.sub g) hp (rj f1) hv (by rw[f.rel.n];exact dst),f.rel.aS.frame g hp p g1,f.rel.inv.post f.rel.aS g hp p g1⟩,fun id t=>?_⟩;have hno:id ∉ news:=fun hm=>by have:=g2 id hm;omega
    have h1:=hp.ctx id hno;have h2:=f.same id t;exact⟨h1.1.trans h2.1,h1.2.trans h2.2⟩
   have S:(k=ms->mF P ops (J8 R k r) ts0 os0 y k)/\iZ P tab et Γ.n ops y ms (k+1) l (dR o.dst av (I8 ops R ts0 (down k))) (upd++U1 R os0 (down k)) (ix k (need.map (·.1)) news upd m) (qG k y o (I8 ops R ts0 (down k)) av (need.map (·.1)) news upd M) K:=by
    unfold vu at b;split at b
    ·rename_i hkm;split at b
     ·rename_i s;obtain⟨⟨q1,q2,q3⟩,q4⟩:=b;refine⟨fun _=>?_,q4⟩;obtain⟨s1,s2,s3,s4,s5,s6,s7⟩:=L s rfl;have D:J8 R k r y=R y:=by unfold J8;rw[Mt d9]
      obtain⟨c2,O⟩:=I;have hev2:∀x∈s.o.op.operands.toList,Rd c2 w' ((a.put o.dst v).eval x) (cT s.ts x):=fun x hx=>by
       rw[<-Ad q2 x hx];exact qC O.rel.ts x
      obtain⟨av2,X,upd2,news2,t1,t2,t3,t4,t5,t6,t7⟩:=cQ hT hE 0 q3 ⟨c2,w',(a.put o.dst v).eval,O.rel.aS,hev2⟩;subst t4;rw[t5,t6] at t1;refine⟨by rw[D];exact s6,by rw[D];exact s7,fun j hj hjk id t=>?_,s.o,X,s2,?_,?_,fun id t=>?_⟩
      ·have ej:J8 R k r j=R j:=by unfold J8;rw[Mt d9]
       rw[ej] at t;rw[D,s5];rcases u j hjk with h|⟨x,hx,rfl,_,h3,_⟩
       ·rw[h.2.1] at t;cases t
       ·have:=MK.1 q1 x hx;have F:Nat.blt y x.k=true:=Nat.ble_eq_true_of_le hj;rw[F,M1,Bool.false_or] at this;rw[h3] at this;exact jz this id t
      ·rw[jf R k r y d9,D,<-s3,s4];exact t1
      ·rw[B];exact t2
      ·rw[D,s5];have:=MK.1 t7 id t;simpa using this
     ·exact b.elim
    ·rename_i hkm;exact⟨fun e=>by subst e;simp at hkm,b⟩
   have V:=hL.step (r:=r) ho (.inl ⟨G,T,g,p,f1,f2⟩) dst (fun i hi hw=>(d68 (r:=r) u f3 i hi hw).imp (fun h=>h) fun h=>h.imp (fun h=>h) fun⟨e1,e2⟩=>by subst e1;exact S.1 e2);exact yX hT hE y ms l (k+1) (J8 R k r) _ _ K (mE.save (r:=r) L ho) (by rw[E,B];exact S.2) V z hl' H ⟨_,_,by rw[E,B];exact I⟩
  have skip:gP Γ.n o.dst=true->fY ops o (I8 ops R ts0 (down k)) false->iZ P tab et Γ.n ops y ms (k+1) l (dR o.dst (.ab []) (I8 ops R ts0 (down k))) (U1 R os0 (down k)) m M K ->
    ∃C,Lex P Γ ops C ts0 os0 ops.length/\K (I8 ops C ts0 (down ops.length)) (U1 C os0 (down ops.length)):=by
   intro dst G b;let r:bT:=⟨.ab [],[],[],[]⟩;have V:=hL.step (r:=r) ho (.inr ⟨G,rfl⟩) dst (fun i hi hw=>⟨⟨fun id _ h=>(by cases h),fun id _ h=>(by cases h),fun id _ h=>(by cases h)⟩,.inl fun id h=>(by cases h)⟩);have z:lZ (J8 R k r) (k+1) m:=fun i hi=>by
    by_cases h:i=k
    ·subst h;have U:J8 R i r i=r:=by unfold J8;rw[Mu rfl]
     rw[U];exact .inl ⟨rfl,rfl,rfl⟩
    ·have eo:J8 R k r i=R i:=by unfold J8;rw[Mt h]
     rw[eo];exact u i d9
   have U:J8 R k r k=r:=by unfold J8;rw[Mu rfl]
   have E:I8 ops (J8 R k r) ts0 (down (k+1))=dR o.dst (.ab []) (I8 ops R ts0 (down k)):=by
    simp only[down,I8,jf R k r k (It _),ho,U];cases W:o.dst<;>simp[dR,W,r]
   have B:U1 (J8 R k r) os0 (down (k+1))=U1 R os0 (down k):=by
    simp only[down,U1,nd R k r k (It _),U];rfl
   exact yX hT hE y ms l (k+1) (J8 R k r) m M K L.step (by rw[E,B];exact b) V z hl' H ⟨_,_,by rw[E,B];exact rZ (o:=o) Q dst⟩
  unfold iZ at h;split at h
  ·rename_i d hd;split at h
   ·rename_i hdl;have q:gP Γ.n o.dst=true:=by rw[hd];exact hdl
    rcases uQ h with⟨G,h⟩|⟨G,h⟩
    ·refine mG d q _ G h fun av rd Y N J=>?_;split at J
     ·rename_i F;simp only[IT] at F;rw[force_eq,jg] at J;exact⟨F.1.1,F.1.2,F.2,by rw[hd];exact J⟩
     ·exact J.elim
    ·exact skip q G (by rw[hd];exact h)
   ·exact h.elim
  ·rename_i hd;have q:gP Γ.n o.dst=true:=by rw[hd];rfl
   rcases uQ h with⟨G,h⟩|⟨G,h⟩
   ·refine mG 0 q _ G h fun av rd Y N J=>?_;split at J
    ·rename_i F;simp only[IT] at F;rw[jg] at J;exact⟨F.1.1,F.1.2,F.2,by rw[hd];exact J⟩
    ·exact J.elim
   ·exact skip q G (by rw[hd];exact h)
theorem j6.tX (u:M5 P tab) (q:gJ P et) {n:Nat} (x:Γ.n=n) (v:P.follows .mixedOrders=true) {id:Nat} {l:Array Oper} (hd:ef l.toList=true) {ts:Ts} {os:Os} {Q:Qt} (p ms:Nat) (h:fe ts fun ts=>iZ P tab et n l.toList p ms 0 l.toList ts os [] none (Q .normal)):j6 P Γ (.region id l true) ts os Q:=by
 subst x;rw[nS] at h;refine⟨fun a w y=>wp_region_any v ?_⟩;have c:=y.drew;obtain⟨R,t,r⟩:=yX (ops:=l.toList) (ts0:=ts) (os0:=os) u q p ms l.toList 0 (fun _=>default) [] none _ (fun s z=>by cases z) h ⟨fun k o b=>absurd b d9,fun k o b=>absurd b d9,fun i k o _ b=>absurd b d9⟩ (fun i hi=>absurd hi d9) (fun j=>by rw[MZ]) d9 ⟨_,_,c⟩;have:=DE (Q:=fun e m w'=>∃ex f d,mH e ex/\Q ex f d/\E8 Γ f d m w') hd t (fun m w' g=>⟨.normal,_,_,trivial,r,g⟩) l.toList.length (Array.replicate l.size false) [] a _ (xM hd 0 (Nat.zero_le _)) (fun i hi=>by
  have:i<l.size:=by simpa using hi
  simp[this]) l8 l8 c
 simpa using this
end
end
section
variable {P:Program} {tab:U2} {et:eO} {Γ:bD}
structure cd (P:Program) (Γ:bD) (ops l:List Oper) (ts:Ts) (os:Os) (Q:Qt):Prop where
 run:∀a w,E8 Γ ts os a w->wpList P ops.toArray (fun e a' w'=>∃ex ts' os',mH e ex/\Q ex ts' os'/\E8 Γ ts' os' a' w') l a w
theorem j6.ops {id:Nat} {l:Array Oper} {ts:Ts} {os:Os} {Q:Qt} (h:cd P Γ l.toList l.toList ts os Q):j6 P Γ (.region id l false) ts os Q :=
 ⟨fun a w b=>wp_region_list (by simpa using h.run a w b)⟩
theorem cd.chunk (e:M5 P tab) (d:gJ P et) {n:Nat} (g:Γ.n=n) (k:Nat) {ops l:List Oper} {ts:Ts} {os:Os} {Q:Qt}
  (h:fe ts fun ts=>jl P tab et n ops (l.take k) ts os fun ts os=>cd P Γ ops (l.drop k) ts os Q):cd P Γ ops l ts os Q:=by
 subst g;refine⟨fun a w i=>?_⟩;have:=pT e d (l2:=l.drop k) (l.take k) ts os _ a w ((nS ts _).1 h) i fun m j c w' f b=>f.run c w' b
 rwa [List.take_append_drop] at this
theorem cd.done {ops:List Oper} {ts:Ts} {os:Os} {Q:Qt} (h:Q .normal ts os):cd P Γ ops [] ts os Q:=⟨fun a w b=>⟨.normal,ts,os,trivial,h,b⟩⟩
theorem j6.seq {x y:Code} {ts:Ts} {os:Os} {Q:Qt} (h:j6 P Γ x ts os fun e c b=>match e with
  |.normal=>j6 P Γ y c b Q
  |.exit id=>Q (.exit id) c b
  |.ret=>Q .ret c b):j6 P Γ (.seq x y) ts os Q:=by
 refine⟨fun a w j=>wp_seq (wp_mono (h.run a w j) fun e i w' ⟨ex,c,b,d,f,g⟩=>?_)⟩;cases e<;>cases ex<;>simp only[mH] at d<;>first|exact d.elim|skip
 ·exact f.run i w' g
 ·subst d;exact⟨.exit _,c,b,rfl,f,g⟩
 ·exact⟨.ret,c,b,trivial,f,g⟩
theorem j6.cut {ι:Type} (St:ι->Ts) (g:ι->Os) {x y:Code} {ts:Ts} {os:Os} {Q:Qt} (h:j6 P Γ x ts os fun e c b=>match e with
  |.normal=>∃i f,da c b (St i) (g i) f
  |.exit id=>Q (.exit id) c b
  |.ret=>Q .ret c b) (m:∀i,((St i).all fun p=>Nat.blt p.1 Γ.n)=true) (k:∀i,j6 P Γ y (St i) (g i) Q):j6 P Γ (.seq x y) ts os Q:=by
 refine j6.seq ⟨fun a w o=>wp_mono (h.run a w o) fun e r w' ⟨ex,c,b,j,d,l⟩=>⟨ex,c,b,j,?_,l⟩⟩;cases ex with
 |normal =>
  obtain⟨i,f,q⟩:=d;exact j6.sub f q (m i) (k i)
 |exit id=>exact d
 |ret=>exact d
def Gh (Γ:bD) (ts:Ts) (os:Os) {ι:Type} (T:ι->Ts) (O:ι->Os):Prop:=∀a w,E8 Γ ts os a w->∃x,E8 Γ (T x) (O x) a w
theorem j6.gh {ι:Type} {c:Code} {ts:Ts} {os:Os} {T:ι->Ts} {O:ι->Os} {Q:Qt} (g:Gh Γ ts os T O) (h:∀x,j6 P Γ c (T x) (O x) Q):j6 P Γ c ts os Q :=
 ⟨fun a w b=>let ⟨x,d⟩:=g a w b;(h x).run a w d⟩
theorem cd.gh {ι:Type} {ops l:List Oper} {ts:Ts} {os:Os} {T:ι->Ts} {O:ι->Os} {Q:Qt} (g:Gh Γ ts os T O) (h:∀x,cd P Γ ops l (T x) (O x) Q):cd P Γ ops l ts os Q :=
 ⟨fun a w b=>let ⟨x,c⟩:=g a w b;(h x).run a w c⟩
structure Z8 (Γ:bD) (ts:Ts) (os:Os) (Q:Qt):Prop where
 run:∀a w,E8 Γ ts os a w->∃ts' os',Q .normal ts' os'/\E8 Γ ts' os' a w
theorem Z8.done {ts:Ts} {os:Os} {Q:Qt} (h:Q .normal ts os):Z8 Γ ts os Q:=⟨fun a w b=>⟨ts,os,h,b⟩⟩
theorem Z8.gh {ι:Type} {ts:Ts} {os:Os} {T:ι->Ts} {O:ι->Os} {Q:Qt} (g:Gh Γ ts os T O) (h:∀x,Z8 Γ (T x) (O x) Q):Z8 Γ ts os Q :=
 ⟨fun a w b=>let ⟨x,c⟩:=g a w b;(h x).run a w c⟩
theorem j6.snoc {c:Code} {ts:Ts} {os:Os} {Q:Qt} (h:j6 P Γ c ts os fun e d b=>match e with
  |.normal=>Z8 Γ d b Q
  |.exit id=>Q (.exit id) d b
  |.ret=>Q .ret d b):j6 P Γ c ts os Q:=by
 refine⟨fun a w m=>wp_mono (h.run a w m) fun e l w' ⟨ex,d,b,f,g,i⟩=>?_⟩;cases e<;>cases ex<;>simp only[mH] at f<;>first|exact f.elim|skip
 ·obtain⟨k,j,n,o⟩:=g.run l w' i;exact⟨.normal,k,j,trivial,n,o⟩
 ·subst f;exact⟨.exit _,d,b,rfl,g,i⟩
 ·exact⟨.ret,d,b,trivial,g,i⟩
theorem Gh.of {ι:Type} {ts:Ts} {os need:Os} {ex:ι->Ts} {upd:ι->Os} {news:List Nat} (d:jc need os) (p:F9 news ts=true) (q:∀x,F8 news (upd x) os=true) (e:∀x,(news.all fun i=>(lk (upd x) i).isSome)=true)
  (G:∀c w,T9 c w need->(∃a,gV c w ts a)->∃x c',aW c w c' w need (upd x) news/\∀t y,lk (ex x) t=some y->∃z,lk ts t=some z/\∀v,Rd c w v z->Rd c' w v y):Gh Γ ts os (fun x=>ex x++ts) (fun x=>upd x++os):=by
 rintro a w ⟨c,⟨B,C,m,k,D⟩,E⟩;have l:=sY d;obtain⟨x,c',b,o⟩:=G c w (k.sub l) ⟨a,m⟩;have j:∀id∈news,(lk (upd x) id).isSome=true:=fun id h=>by simpa using MK.1 (e x) id h
 obtain⟨g1,A⟩:=ou (q x);refine⟨x,c',⟨B,C,fun t y hl=>?_,k.frame l b j g1,D.post k l b j g1⟩,fun id r=>?_⟩
 ·rw[J5] at hl;cases n:lk (ex x) t with
  |some I =>
   rw[n] at hl;simp at hl;subst hl;obtain⟨z,H,u⟩:=o t I n;obtain⟨v,f,g⟩:=m t z H;exact⟨v,f,u v g⟩
  |none =>
   rw[n] at hl;simp at hl;obtain⟨v,f,g⟩:=m t y hl;exact⟨v,f,g.post b (k.sub l) (rj p t y hl)⟩
 ·have s:id ∉ news:=fun F=>by have:=A id F;omega
  have f:=b.ctx id s;have g:=E id r;exact⟨f.1.trans g.1,f.2.trans g.2⟩
theorem aW.same {c c':Ctx} {w:World} {need upd:Os} {news:List Nat} (h:T9 c w need) (a:c'.Φ=c.Φ) (e:∀id,id ∉ news->c'.μ id=c.μ id/\c'.hd id=c.hd id) (rep:∀id o,lk upd id=some o->dN c' w id o)
  (bA:∀id o b,lk upd id=some o->aZ c' id o b->Touch c need upd b) (sep:∀id d o g b,id≠d->lk upd id=some o->lk upd d=some g->aZ c' id o b->¬aZ c' d g b):aW c w c' w need upd news:=by
 refine⟨rfl,rfl,rfl,It _,fun b f=>by rw[a];exact f,fun b f=>.inl (by rw[a] at f;exact f),fun _ _ _=>rfl,e,⟨rep,fun id o b hl j=>?_,sep,by rw[a];exact h.aw⟩,fun id o b hl j=>.inr (bA id o b hl j)⟩;obtain⟨i,g,k,_,l⟩:=bA id o b hl j;rw[a];exact h.lt i g b k l
def eU {b:Type} {a i:Nat} {x o:b} (h:lk [(a,x)] i=some o):i=a/\o=x:=by
 rw[l9] at h;split at h
 ·rename_i e;cases h;exact⟨e.symm,rfl⟩
 ·cases h
def cn {c:Type} {a b i:Nat} {x y o:c} (h:lk [(a,x),(b,y)] i=some o):(i=a/\o=x)\/(i≠a/\i=b/\o=y):=by
 rw[l9] at h;split at h
 ·rename_i e;cases h;exact .inl ⟨e.symm,rfl⟩
 ·rename_i e;exact .inr ⟨fun h=>e h.symm,eU h⟩
def bU {j:Type} {a b c i:Nat} {x y z o:j} (h:lk [(a,x),(b,y),(c,z)] i=some o):(i=a/\o=x)\/(i≠a/\i=b/\o=y)\/(i≠a/\i≠b/\i=c/\o=z):=by
 rw[l9] at h;split at h
 ·rename_i e;cases h;exact .inl ⟨e.symm,rfl⟩
 ·rename_i e;rcases cn h with h|⟨d,f,g⟩
  ·exact .inr (.inl ⟨fun h=>e h.symm,h⟩)
  ·exact .inr (.inr ⟨fun h=>e h.symm,d,f,g⟩)
def H7 {i j:Nat} (h:AT i j=false):i≠j:=fun e=>by rw[e] at h;simp at h
theorem O5.zK {Φ:Nat->Prop} {w:World} {v:Value} {sz e:Nat} {ls:List (List AV)} (h:O5 Φ w v sz ls e):∃h:Hd,v=h.v/\h.n=ls.length/\h.n<=h.c/\h.c<=maxLen:=by
 obtain⟨css,d,f,g⟩:=h;obtain⟨A,cap,e1,a,b⟩:=d.head;exact⟨⟨A,css.length,cap⟩,e1,f,a,b⟩
theorem df.cons {Φ:Nat->Prop} {w:World} {sz e:Nat} {p:Hd×List (List AV)} {l:List (Hd×List (List AV))}:df Φ w sz (p::l) e↔O5 Φ w p.1.v sz p.2 e/\df Φ w sz l e/\∀q∈l,∀b,p.1.v.ownBlock=some b->q.1.v.ownBlock=some b->False:=by
 constructor
 ·rintro⟨c,d⟩;obtain⟨f,g⟩:=List.pairwise_cons.1 d;exact⟨c p l8,⟨fun q a=>c q (by simp[a]),g⟩,f⟩
 ·rintro⟨c,d,f⟩;exact⟨fun q a=>by rcases Ly.1 a with rfl|a;exact c;exact d.1 q a,List.pairwise_cons.2 ⟨f,d.2⟩⟩
theorem df.perm {Φ:Nat->Prop} {w:World} {sz e:Nat} {l l':List (Hd×List (List AV))} (h:df Φ w sz l e) (a:l.Perm l'):df Φ w sz l' e :=
 ⟨fun p f=>h.1 p (a.mem_iff.2 f),(a.pairwise_iff fun h b c d=>h b d c).1 h.2⟩
theorem Gh.mQ {ts:Ts} {os:Os} (k sz e:Nat) (a:F9 [k] ts=true) (d:F8 [k] [(k,.pins sz [] e)] os=true):Gh Γ ts os (fun _:Unit=>ts) (fun _=>(k,.pins sz [] e)::os) :=
 Gh.of (need:=[]) (upd:=fun _=>[(k,.pins sz [] e)]) (ex:=fun _=>[]) (news:=[k]) trivial a (fun _=>d) (fun _=>by simp[j5]) fun c w aS _=>⟨(),c,aW.same aS rfl (fun _ _=>⟨rfl,rfl⟩)
  (fun id o h=>by obtain⟨rfl,rfl⟩:=eU h;exact⟨fun _ h=>(by cases h),.nil⟩) (fun id o b h j=>by obtain⟨rfl,rfl⟩:=eU h;obtain⟨p,h,_⟩:=j;cases h)
  (fun id l o m b f g i=>by obtain⟨rfl,rfl⟩:=eU g;obtain⟨rfl,rfl⟩:=eU i;exact absurd rfl f),fun t y h=>by cases h⟩
theorem Gh.tq {ts:Ts} {os:Os} (f off j k:Nat) {sz e s:Nat} {t:List AV} {ls:List (List AV)} {l:List (Hd×List (List AV))} (x:lk os f=some (.box t s)) (ah:t[off]?=some (.aL j)) (M:lk os j=some (.row sz ls e)) (N:lk os k=some (.pins sz l e))
  (m:AT j k=false) (d:AT f j=false) (g:AT f k=false) :
  Gh Γ ts os (fun h:Hd=>ts) (fun h=>(f,.box (t.set off (.ad h.v)) s)::(k,.pins sz (l++[(h,ls)]) e)::(j,.aF)::os):=by
 have m:=H7 m;have d:=H7 d;have g:=H7 g;refine Gh.of (need:=[(j,.row sz ls e),(k,.pins sz l e),(f,.box t s)]) (upd:=fun h=>[(f,.box (t.set off (.ad h.v)) s),(k,.pins sz (l++[(h,ls)]) e),(j,.aF)]) (ex:=fun h=>[]) (news:=[]) ⟨M,N,x,trivial⟩ rfl (fun _=>rfl) (fun _=>rfl) fun c w aS _=>?_;have E:lk [(j,Obj.row sz ls e),(k,.pins sz l e),(f,.box t s)] j=some (.row sz ls e):=j5 _ _ _;have u:lk [(j,Obj.row sz ls e),(k,.pins sz l e),(f,.box t s)] k=some (.pins sz l e):=by rw[F7 _ _ m,j5]
 have D:lk [(j,Obj.row sz ls e),(k,.pins sz l e),(f,.box t s)] f=some (.box t s):=by rw[F7 _ _ (Ne.symm d),F7 _ _ (Ne.symm g),j5]
 have G:O5 c.Φ w (c.hd j) sz ls e:=aS.rep j _ E;have rk:df c.Φ w sz l e:=aS.rep k _ u;obtain⟨us,T,H⟩:=aS.rep f _ D;obtain⟨h,e1,-⟩:=G.zK;refine⟨h,c,aW.same aS rfl (fun _ _=>⟨rfl,rfl⟩) (fun id o hl=>?_) (fun id o b hl z=>?_) (fun id S o W b C hl F z B=>?_),fun X y Q=>(by cases Q)⟩
 ·rcases bU hl with⟨rfl,rfl⟩|⟨_,rfl,rfl⟩|⟨_,_,rfl,rfl⟩
  ·refine⟨us,T,?_⟩;obtain⟨v,U,V⟩:=H.get ah;obtain⟨A,n,cap,s,I,-⟩:=V.bJ;have:=H.set off (v:=v) (a:=.ad h.v) (by rw[s,<-I,e1];exact .fz (.ad _))
   rwa [show us.set off v=us by
    apply Mf;intro i;rw[MQ];split
    ·rename_i J;subst J;split
     ·exact U.symm
     ·rw[MV d9]
    ·rfl] at this
  ·refine df.perm (l:=(h,ls)::l) (df.cons.2 ⟨e1▸G,rk,fun q O b K L=>?_⟩) (List.perm_append_comm (l₁:=[(h,ls)]));exact aS.sep j id _ _ b m E u (show(c.hd j).ownBlock=some b by rw[e1];exact K) ⟨q,O,L⟩
  ·trivial
 ·rcases bU hl with⟨rfl,rfl⟩|⟨_,rfl,rfl⟩|⟨_,_,rfl,rfl⟩
  ·exact⟨id,_,D,by rw[j5];rfl,z⟩
  ·obtain⟨p,r,x⟩:=z;rcases MN.1 r with r|r
   ·exact⟨id,_,u,by rw[hl];rfl,⟨p,r,x⟩⟩
   ·obtain rfl:=MY.1 r;exact⟨j,_,E,by rw[F7 _ _ d,F7 _ _ (Ne.symm m),j5];rfl,by show(c.hd j).ownBlock=_;rw[e1];exact x⟩
  ·exact z.elim
 · -- pins and the box
  have apart:∀b,(∃p∈l++[(h,ls)],p.1.v.ownBlock=some b)->b≠c.μ f:=by
   rintro b ⟨p,r,x⟩ rfl;rcases MN.1 r with r|r
   ·exact aS.sep k f _ _ _ (Ne.symm g) u D ⟨p,r,x⟩ rfl
   ·obtain rfl:=MY.1 r;exact aS.sep j f _ _ _ (Ne.symm d) E D (show(c.hd j).ownBlock=_ by rw[e1];exact x) rfl
  rcases bU hl with⟨rfl,rfl⟩|⟨_,rfl,rfl⟩|⟨_,_,rfl,rfl⟩<;>rcases bU F with⟨rfl,rfl⟩|⟨_,rfl,rfl⟩|⟨_,_,rfl,rfl⟩<;>first|exact C rfl|exact z.elim|exact B.elim|exact apart b z B|exact apart b B z
theorem Gh.mS {ts:Ts} {os:Os} (k j j':Nat) {sz e:Nat} {h:Hd} {ls:List (List AV)} {l l':List (Hd×List (List AV))} (A:lk os k=some (.pins sz l e)) (a:l.Perm ((h,ls)::l'))
  (g:AT j j'=false) (i:AT j k=false) (m:AT j' k=false) (r:F9 [j,j'] ts=true) (s:F8 [j,j'] [(j,.row sz ls e),(j',.eqv j h.v),(k,.pins sz l' e)] os=true) :
  Gh Γ ts os (fun _:Unit=>ts) (fun _=>(j,.row sz ls e)::(j',.eqv j h.v)::(k,.pins sz l' e)::os):=by
 have g:=H7 g;have i:=H7 i;have m:=H7 m;refine Gh.of (need:=[(k,.pins sz l e)]) (upd:=fun _=>[(j,.row sz ls e),(j',.eqv j h.v),(k,.pins sz l' e)]) (ex:=fun _=>[]) (news:=[j,j']) ⟨A,trivial⟩ r (fun _=>s) (fun _=>by simp[l9,g]) fun c w aS _=>?_;have rk:df c.Φ w sz l e:=aS.rep k _ (j5 _ _ _);obtain⟨D,E,F⟩:=df.cons.1 (rk.perm a);have e1:(c.aQ j h.v).hd j=h.v:=by simp[Ctx.aQ]
 have tk:∀b,(∃p∈l,p.1.v.ownBlock=some b)->Touch c [(k,.pins sz l e)] [(j,.row sz ls e),(j',.eqv j h.v),(k,.pins sz l' e)] b:=fun b n=>⟨k,_,j5 _ _ _,by rw[F7 _ _ i,F7 _ _ m,j5];rfl,n⟩;refine⟨(),c.aQ j h.v,aW.same aS rfl (fun id t=>⟨rfl,by simp[Ctx.aQ,show id≠j by rintro rfl;simp at t]⟩) (fun id o hl=>?_) (fun id o b hl d=>?_) (fun id C o G b q hl u d f=>?_),fun H y B=>(by cases B)⟩
 ·rcases bU hl with⟨rfl,rfl⟩|⟨_,rfl,rfl⟩|⟨_,_,rfl,rfl⟩
  ·show O5 _ w ((c.aQ id h.v).hd id) sz ls e;rw[e1];exact D
  ·exact e1
  ·exact E
 ·rcases bU hl with⟨rfl,rfl⟩|⟨_,rfl,rfl⟩|⟨_,_,rfl,rfl⟩
  ·exact tk b ⟨(h,ls),a.mem_iff.2 l8,by have:((c.aQ id h.v).hd id).ownBlock=some b:=d;rwa [e1] at this⟩
  ·exact d.elim
  ·obtain⟨p,x,n⟩:=d;exact tk b ⟨p,a.mem_iff.2 (by simp[x]),n⟩
 ·have apart:∀b,((c.aQ j h.v).hd j).ownBlock=some b->(∃p∈l',p.1.v.ownBlock=some b)->False:=fun b z ⟨p,x,n⟩=>F p x b (by rwa [e1] at z) n;rcases bU hl with⟨rfl,rfl⟩|⟨_,rfl,rfl⟩|⟨_,_,rfl,rfl⟩<;>rcases bU u with⟨rfl,rfl⟩|⟨_,rfl,rfl⟩|⟨_,_,rfl,rfl⟩<;>first|exact q rfl|exact d.elim|exact f.elim|exact apart b d f|exact apart b f d
theorem Gh.mR {ts:Ts} {os:Os} (j j' k:Nat) {sz e:Nat} {h:Hd} {ls:List (List AV)} {l l':List (Hd×List (List AV))} (D:lk os j=some (.row sz ls e)) (s:lk os j'=some (.eqv j h.v)) (E:lk os k=some (.pins sz l e)) (d:l'.Perm ((h,ls)::l))
  (f:AT j j'=false) (a:AT j k=false) (g:AT j' k=false) :
  Gh Γ ts os (fun _:Unit=>ts) (fun _=>(k,.pins sz l' e)::(j,.aF)::(j',.aF)::os):=by
 have f:=H7 f;have a:=H7 a;have g:=H7 g;refine Gh.of (need:=[(j,.row sz ls e),(j',.eqv j h.v),(k,.pins sz l e)]) (upd:=fun _=>[(k,.pins sz l' e),(j,.aF),(j',.aF)]) (ex:=fun _=>[]) (news:=[]) ⟨D,s,E,trivial⟩ rfl (fun _=>rfl) (fun _=>rfl) fun c w aS _=>?_;have x:lk [(j,Obj.row sz ls e),(j',.eqv j h.v),(k,.pins sz l e)] j=some (.row sz ls e):=j5 _ _ _;have i:lk [(j,Obj.row sz ls e),(j',.eqv j h.v),(k,.pins sz l e)] k=some (.pins sz l e):=by rw[F7 _ _ a,F7 _ _ g,j5]
 have A:O5 c.Φ w (c.hd j) sz ls e:=aS.rep j _ x;have e1:c.hd j=h.v:=aS.rep j' (.eqv j h.v) (by rw[F7 _ _ f,j5]);have rk:df c.Φ w sz l e:=aS.rep k _ i;rw[e1] at A;refine⟨(),c,aW.same aS rfl (fun _ _=>⟨rfl,rfl⟩) (fun id o hl=>?_) (fun id o b hl n=>?_) (fun id H o I b m hl t n r=>?_),fun J y G=>(by cases G)⟩
 ·rcases bU hl with⟨rfl,rfl⟩|⟨_,rfl,rfl⟩|⟨_,_,rfl,rfl⟩
  ·exact df.perm (df.cons.2 ⟨A,rk,fun q F b B C=>aS.sep j id _ _ b a x i (show(c.hd j).ownBlock=some b by rw[e1];exact B) ⟨q,F,C⟩⟩) d.symm
  ·trivial
  ·trivial
 ·rcases bU hl with⟨rfl,rfl⟩|⟨_,rfl,rfl⟩|⟨_,_,rfl,rfl⟩
  ·obtain⟨p,u,z⟩:=n;rcases Ly.1 (d.mem_iff.1 u) with rfl|u
   ·exact⟨j,_,x,by rw[F7 _ _ (Ne.symm a),j5];rfl,by show(c.hd j).ownBlock=_;rw[e1];exact z⟩
   ·exact⟨id,_,i,by rw[hl];rfl,⟨p,u,z⟩⟩
  ·exact n.elim
  ·exact n.elim
 ·rcases bU hl with⟨rfl,rfl⟩|⟨_,rfl,rfl⟩|⟨_,_,rfl,rfl⟩<;>rcases bU t with⟨rfl,rfl⟩|⟨_,rfl,rfl⟩|⟨_,_,rfl,rfl⟩<;>first|exact m rfl|exact n.elim|exact r.elim
theorem Gh.open {ts:Ts} {os:Os} (t id j k:Nat) {sz e isz ie:Nat} {l:List (List AV×List (List AV))} (hl:lk ts t=some (.cN id)) (C:lk os id=some (.nest sz e isz ie l)) (f:AT j k=false) (g:AT j id=false) (m:AT k id=false)
  (x:F9 [j,k] ts=true) (B:∀z,F8 [j,k] [(j,.row sz (u6 z) e),(k,.pins isz (Z0 z) ie),(id,.aF)] os=true) :
  Gh Γ ts os (fun _:{ z:List (Hd×List AV×List (List AV)) // z.map (·.2)=l }=>(t,.aL j)::ts) (fun z=>(j,.row sz (u6 z.1) e)::(k,.pins isz (Z0 z.1) ie)::(id,.aF)::os):=by
 have f:=H7 f;have g:=H7 g;have m:=H7 m;refine Gh.of (ι:={ z:List (Hd×List AV×List (List AV)) // z.map (·.2)=l }) (need:=[(id,.nest sz e isz ie l)]) (upd:=fun z=>[(j,.row sz (u6 z.1) e),(k,.pins isz (Z0 z.1) ie),(id,.aF)]) (ex:=fun _=>[(t,.aL j)]) (news:=[j,k]) ⟨C,trivial⟩ x (fun _=>B _) (fun _=>by simp[l9,f]) fun c w aS _=>?_;obtain⟨h,z,e0,e1,N,O,Q⟩:=aS.rep id _ (j5 _ _ _);have u:(c.aQ j h.v).hd j=h.v:=by simp[Ctx.aQ]
 have tk:∀b,(∃v∈ec (c.hd id),v.ownBlock=some b)->Touch c [(id,.nest sz e isz ie l)] [(j,.row sz (u6 z) e),(k,.pins isz (Z0 z) ie),(id,.aF)] b:=fun b r=>⟨id,_,j5 _ _ _,by rw[F7 _ _ g,F7 _ _ m,j5];rfl,r⟩;rw[e0] at tk;refine⟨⟨z,e1⟩,c.aQ j h.v,aW.same aS rfl (fun i hi=>⟨rfl,by simp[Ctx.aQ,show i≠j by rintro rfl;simp at hi]⟩) (fun i o hl=>?_) (fun i o b hl a=>?_) (fun i S o T b s hl D a d=>?_),fun U y M=>?_⟩
 ·rcases bU hl with⟨rfl,rfl⟩|⟨_,rfl,rfl⟩|⟨_,_,rfl,rfl⟩
  ·show O5 _ w ((c.aQ i h.v).hd i) sz (u6 z) e;rw[u];exact N
  ·exact O
  ·trivial
 ·rcases bU hl with⟨rfl,rfl⟩|⟨_,rfl,rfl⟩|⟨_,_,rfl,rfl⟩
  ·exact tk b ⟨h.v,by simp[ec],by have:((c.aQ i h.v).hd i).ownBlock=some b:=a;rwa [u] at this⟩
  ·obtain⟨p,E,r⟩:=a;obtain⟨q,F,rfl⟩:=MM.1 E;exact tk b ⟨q.1.v,by show _∈(h.v::z.map (·.1.v)).toArray.toList;exact Mi _ (MM.2 ⟨q,F,rfl⟩),r⟩
  ·exact a.elim
 ·have apart:∀b,((c.aQ j h.v).hd j).ownBlock=some b->(∃p∈Z0 z,p.1.v.ownBlock=some b)->False:=fun b K ⟨p,E,r⟩=>by
   obtain⟨q,F,rfl⟩:=MM.1 E;exact Q b q (by rwa [u] at K) F r
  rcases bU hl with⟨rfl,rfl⟩|⟨_,rfl,rfl⟩|⟨_,_,rfl,rfl⟩<;>rcases bU D with⟨rfl,rfl⟩|⟨_,rfl,rfl⟩|⟨_,_,rfl,rfl⟩<;>first|exact s rfl|exact a.elim|exact d.elim|exact apart b a d|exact apart b d a
 ·obtain⟨rfl,rfl⟩:=eU M;refine⟨_,hl,fun v L=>?_⟩;obtain⟨A,n,cap,vs,f1,G,H,I⟩:=L.ko;rw[e0] at G;have J:h.v::z.map (·.1.v)=Value.slice A n cap::vs:=by simpa using G
  rw[f1];exact .aL (u.trans (List.cons.inj J).1) H I
theorem Gh.close {ts:Ts} {os:Os} (t j k id:Nat) {sz e isz ie:Nat} {ls:List (List AV)} {J:List (Hd×List (List AV))} (z:List (Hd×List AV×List (List AV))) (hl:lk ts t=some (.aL j)) (Q:lk os j=some (.row sz ls e)) (S:lk os k=some (.pins isz J ie)) (x:ls=u6 z) (B:J=Z0 z)
  {l:List (List AV×List (List AV))} (C:z.map (·.2)=l) (a:AT j k=false) (d:AT j id=false) (f:AT k id=false) (E:F9 [id] ts=true) (F:F8 [id] [(id,.nest sz e isz ie l),(j,.aF),(k,.aF)] os=true) :
  Gh Γ ts os (fun _:Unit=>(t,.cN id)::ts) (fun _=>(id,.nest sz e isz ie l)::(j,.aF)::(k,.aF)::os):=by
 have a:=H7 a;have d:=H7 d;have f:=H7 f;subst x B;refine Gh.of (need:=[(j,.row sz (u6 z) e),(k,.pins isz (Z0 z) ie)]) (upd:=fun _=>[(id,.nest sz e isz ie l),(j,.aF),(k,.aF)]) (ex:=fun _=>[(t,.cN id)]) (news:=[id]) ⟨Q,S,trivial⟩ E (fun _=>F) (fun _=>by simp[l9]) fun c w aS _=>?_;have H:lk [(j,Obj.row sz (u6 z) e),(k,.pins isz (Z0 z) ie)] j=some (.row sz (u6 z) e):=j5 _ _ _;have m:lk [(j,Obj.row sz (u6 z) e),(k,.pins isz (Z0 z) ie)] k=some (.pins isz (Z0 z) ie):=by rw[F7 _ _ a,j5]
 have K:O5 c.Φ w (c.hd j) sz (u6 z) e:=aS.rep j _ H;have rk:df c.Φ w isz (Z0 z) ie:=aS.rep k _ m;obtain⟨h,e1,-⟩:=K.zK;have u:(c.aQ id (.tuple (h.v::z.map (·.1.v)).toArray)).hd id=.tuple (h.v::z.map (·.1.v)).toArray:=by simp[Ctx.aQ]
 refine⟨(),c.aQ id (.tuple (h.v::z.map (·.1.v)).toArray),aW.same aS rfl (fun i hi=>⟨rfl,by simp[Ctx.aQ,show i≠id by simpa using hi]⟩) (fun i o hl=>?_) (fun i o b hl r=>?_) (fun i V o W b q hl G r D=>?_),fun X y U=>?_⟩
 ·rcases bU hl with⟨rfl,rfl⟩|⟨_,rfl,rfl⟩|⟨_,_,rfl,rfl⟩
  ·show nh _ w _ sz e isz ie l;rw[u];refine⟨h,z,rfl,C,e1▸K,rk,fun b p x B C=>?_⟩;exact aS.sep j k _ _ b a H m (show(c.hd j).ownBlock=some b by rw[e1];exact x) ⟨(p.1,p.2.2),MM.2 ⟨p,B,rfl⟩,C⟩
  ·trivial
  ·trivial
 ·rcases bU hl with⟨rfl,rfl⟩|⟨_,rfl,rfl⟩|⟨_,_,rfl,rfl⟩
  ·obtain⟨v,s,I⟩:=r;rw[u] at s;have g:v∈h.v::z.map (·.1.v):=s;rcases Ly.1 g with rfl|g
   ·exact⟨j,_,H,by rw[F7 _ _ (Ne.symm d),j5];rfl,by show(c.hd j).ownBlock=_;rw[e1];exact I⟩
   ·obtain⟨p,T,rfl⟩:=MM.1 g;exact⟨k,_,m,by rw[F7 _ _ (Ne.symm f),F7 _ _ a,j5];rfl,⟨(p.1,p.2.2),MM.2 ⟨p,T,rfl⟩,I⟩⟩
  ·exact r.elim
  ·exact r.elim
 ·rcases bU hl with⟨rfl,rfl⟩|⟨_,rfl,rfl⟩|⟨_,_,rfl,rfl⟩<;>rcases bU G with⟨rfl,rfl⟩|⟨_,rfl,rfl⟩|⟨_,_,rfl,rfl⟩<;>first|exact q rfl|exact r.elim|exact D.elim
 ·obtain⟨rfl,rfl⟩:=eU U;refine⟨_,hl,fun v s=>?_⟩;obtain⟨A,n,cap,f1,L,M,N⟩:=s.bJ;have O:h.v=.slice A n cap:=e1.symm.trans L;rw[f1];exact .cN (vs:=z.map (·.1.v)) (by rw[u,O]) M N
theorem Gh.fA {ts:Ts} {os:Os} (r i off j j':Nat) {sz e isz ie:Nat} {ls:List (List AV)} {l:List AV} (N:lk os r=some (.row sz ls e)) (hi:ls[i]?=some l) (M:l[off]?=some .aP) (m:AT j j'=false) (f:AT r j=false) (p:AT r j'=false)
  (A:F9 [j,j'] ts=true) (B:F8 [j,j'] [(r,.row sz (ls.set i (l.set off (.ad (Hd.v ⟨none,0,0⟩)))) e),(j,.row isz [] ie),(j',.eqv j (Hd.v ⟨none,0,0⟩))] os=true) :
  Gh Γ ts os (fun _:Unit=>ts) (fun _=>(r,.row sz (ls.set i (l.set off (.ad (Hd.v ⟨none,0,0⟩)))) e)::(j,.row isz [] ie)::(j',.eqv j (Hd.v ⟨none,0,0⟩))::os):=by
 have m:=H7 m;have f:=H7 f;have p:=H7 p;refine Gh.of (need:=[(r,.row sz ls e)]) (upd:=fun _=>[(r,.row sz (ls.set i (l.set off (.ad (Hd.v ⟨none,0,0⟩)))) e),(j,.row isz [] ie),(j',.eqv j (Hd.v ⟨none,0,0⟩))]) (ex:=fun _=>[]) (news:=[j,j']) ⟨N,trivial⟩ A (fun _=>B) (fun _=>by simp[l9,m,f,p]) fun c w aS _=>?_;obtain⟨css,T,U,I⟩:=aS.rep r _ (j5 _ _ _);have e1:(c.aQ j (Hd.v ⟨none,0,0⟩)).hd j=Hd.v ⟨none,0,0⟩:=by simp[Ctx.aQ]
 have F:(c.aQ j (Hd.v ⟨none,0,0⟩)).hd r=c.hd r:=by simp[Ctx.aQ,f]
 have d:∀b,((c.aQ j (Hd.v ⟨none,0,0⟩)).hd j).ownBlock=some b->False:=fun b G=>by
  rw[e1] at G;cases G
 refine⟨(),c.aQ j (Hd.v ⟨none,0,0⟩),aW.same aS rfl (fun id C=>⟨rfl,by simp[Ctx.aQ,show id≠j by rintro rfl;simp at C]⟩) (fun id o hl=>?_) (fun id o b hl s=>?_) (fun id S o X b t hl D s u=>?_),fun Y y Q=>(by cases Q)⟩
 ·rcases bU hl with⟨rfl,rfl⟩|⟨_,rfl,rfl⟩|⟨_,_,rfl,rfl⟩
  ·show O5 c.Φ w ((c.aQ j (Hd.v ⟨none,0,0⟩)).hd id) sz _ e;rw[F];refine⟨css,T,by simpa using U,fun n us x H q=>?_⟩;rw[MQ] at q;split at q
   ·rename_i K;subst K;split at q
    ·cases q;have z:=I i us l H hi;obtain⟨v,V,W⟩:=z.get M;have O:v=Hd.v ⟨none,0,0⟩:=by cases W;rfl
     have g:=(y9.bH (c:=c) z).set off (v:=v) (a:=.ad (Hd.v ⟨none,0,0⟩)) (by rw[O];exact .fz (.ad _));have E:us.set off v=us:=by
      apply Mf;intro k;rw[MQ];split
      ·rename_i J;subst J;split
       ·exact V.symm
       ·rw[MV d9]
      ·rfl
     rw[E] at g;exact g.ju (ra.2 fun a L=>by
      rcases List.mem_or_eq_of_mem_set L with h|h
      ·exact ra.1 z.ids a h
      ·rw[h];rfl)
    ·cases q
   ·exact I n us x H q
  ·show O5 c.Φ w ((c.aQ id (Hd.v ⟨none,0,0⟩)).hd id) isz [] ie;rw[e1];exact⟨[],⟨.inl ⟨rfl,rfl⟩,l8,l8⟩,rfl,fun i us l h=>by simp at h⟩
  ·exact e1
 ·rcases bU hl with⟨rfl,rfl⟩|⟨_,rfl,rfl⟩|⟨_,_,rfl,rfl⟩
  ·exact⟨id,_,j5 _ _ _,by rw[j5];rfl,by have:((c.aQ j (Hd.v ⟨none,0,0⟩)).hd id).ownBlock=some b:=s;rw[F] at this;exact this⟩
  ·exact(d b s).elim
  ·exact s.elim
 ·rcases bU hl with⟨rfl,rfl⟩|⟨_,rfl,rfl⟩|⟨_,_,rfl,rfl⟩<;>rcases bU D with⟨rfl,rfl⟩|⟨_,rfl,rfl⟩|⟨_,_,rfl,rfl⟩<;>first|exact t rfl|exact s.elim|exact u.elim|exact d b s|exact d b u
theorem Gh.nil {ts:Ts} {os:Os} (t:Nat) {sz:Nat} {ls:List (List AV)} (hl:lk ts t=some (.sl sz ls)):Gh Γ ts os (fun b:{ b:Bool // b=true->ls=[] }=>(t,.fR b.1)::ts) (fun _=>os):=by
 rintro a w ⟨c,⟨j,l,f,m,n⟩,q⟩;obtain⟨v,g1,i⟩:=f t _ hl;obtain⟨A,k,us,b,o,e1,y,z,h,_⟩:=i.jv;have s:Rd c w v (.fR A.isNone):=by rw[e1];exact .fz (.fR _ _ _)
 refine⟨⟨A.isNone,fun g=>?_⟩,c,⟨j,l,fun u x d=>?_,m,n⟩,q⟩
 ·cases ls with
  |nil=>rfl
  |cons p r =>
   rw[(h l8).1] at g;cases g
 ·rw[l9] at d;split at d
  ·rename_i e;subst e;cases d;exact⟨v,g1,s⟩
  ·exact f u x d
theorem Gh.bZ {ts:Ts} {os:Os} (d j':Nat) {sz e i off x:Nat} {ls:List (List AV)} (t:lk os d=some (.bZ sz ls e i off x)) (a:AT d j'=false) (k:F9 [j'] ts=true) (l:∀h:Hd,F8 [j'] [(d,.row sz (hC ls i off (.ad h.v)) e),(j',.eqv x h.v)] os=true) (q:AT x j'=false) :
  Gh Γ ts os (fun _:Hd=>ts) (fun h=>(d,.row sz (hC ls i off (.ad h.v)) e)::(j',.eqv x h.v)::os):=by
 have a:=H7 a;have q:=H7 q;refine Gh.of (need:=[(d,.bZ sz ls e i off x)]) (upd:=fun h:Hd=>[(d,.row sz (hC ls i off (.ad h.v)) e),(j',.eqv x h.v)]) (ex:=fun _=>[]) (news:=[j']) ⟨t,trivial⟩ k l (fun _=>by simp[l9,a]) fun c w aS _=>?_;obtain⟨v,s,p⟩:=aS.rep d _ (j5 _ _ _);obtain⟨A,n,cap,e1,r,-⟩:=s.bJ;refine⟨⟨A,n,cap⟩,c,aW.same aS rfl (fun _ _=>⟨rfl,rfl⟩) (fun id o hl=>?_) (fun id o b hl g=>?_) (fun id z o B b f hl m g j=>?_),fun C y u=>(by cases u)⟩
 ·rcases cn hl with⟨rfl,rfl⟩|⟨_,rfl,rfl⟩
  ·rw[e1] at p;exact p
  ·exact r
 ·rcases cn hl with⟨rfl,rfl⟩|⟨_,rfl,rfl⟩
  ·exact⟨id,_,j5 _ _ _,by rw[j5];rfl,g⟩
  ·exact g.elim
 ·rcases cn hl with⟨rfl,rfl⟩|⟨_,rfl,rfl⟩<;>rcases cn m with⟨rfl,rfl⟩|⟨_,rfl,rfl⟩<;>first|exact f rfl|exact g.elim|exact j.elim
theorem Gh.bF {ts:Ts} {os:Os} (t id:Nat) {a:List AV} {e:Nat} (hl:lk ts t=some (.ptr id 0)) (d:lk os id=some (.box a e)) (g:AV.au a=[]):Gh Γ ts os (fun _:Unit=>(t,.fp a)::ts) (fun _=>(id,.aF)::os) :=
 Gh.of (need:=[(id,.box a e)]) (upd:=fun _=>[(id,.aF)]) (ex:=fun _=>[(t,.fp a)]) (news:=[]) ⟨d,trivial⟩ rfl (fun _=>rfl) (fun _=>rfl) fun c w aS _=>⟨(),c.fz [(id,.box a e)],aW.freeze aS,fun n y k=>by
  obtain⟨rfl,rfl⟩:=eU k;refine⟨_,hl,fun v i=>?_⟩;obtain⟨us,l,m⟩:=aS.rep id _ (j5 _ _ _);rw[i.cv];refine .fz (.fp (us:=us) (.inr ⟨id,_,j5 _ _ _,rfl⟩) (fun j u h=>?_) (H6.mono (fun _ _=>rfl) (fun b f=>.inl f) (y9.ju g m)));unfold World.cell?;simp only[MZ,l];simpa using h⟩
end
def sw (a b i:Nat):Nat:=bif AT i a then b else bif AT i b then a else i
def LO (a b i:Nat):sw a b i=if i=a then b else if i=b then a else i:=by
 unfold sw;by_cases h:i=a
 ·subst h;simp
 ·have e:AT i a=false:=by cases q:AT i a;rfl;exact absurd (MG q) h
  rw[e,Mt h];by_cases c:i=b
  ·subst c;simp
  ·have e:AT i b=false:=by cases q:AT i b;rfl;exact absurd (MG q) c
   rw[e,Mt c];rfl
def La (a b i:Nat):sw a b (sw a b i)=i:=by
 simp only[LO];split<;>split<;>(try split)<;>omega
mutual
theorem AV.dJ {d:Nat->Nat} (h:∀i,d (d i)=i):∀a:AV,(a.bY d).bY d=a
 |.ptr id off=>by simp only[AV.bY,h]
 |.aL id=>by simp only[AV.bY,h]
 |.db id n=>by simp only[AV.bY,h]
 |.dV id n sz=>by simp only[AV.bY,h]
 |.ep id i sz off=>by simp only[AV.bY,h]
 |.mp id=>by simp only[AV.bY,h]
 |.cN id=>by simp only[AV.bY,h]
 |.np id=>by simp only[AV.bY,h]
 |.dr b=>rfl
 |.fn f c=>by simp only[AV.bY,AV.bV h c]
 |.agg c=>by simp only[AV.bY,AV.bV h c]
 |.ab c=>by simp only[AV.bY,AV.bV h c]
 |.any=>rfl
 |.int n=>rfl
 |.ik k n=>rfl
 |.bool b=>rfl
 |.str s=>rfl
 |.sl sz ls=>rfl
 |.fp c=>rfl
 |.aP=>rfl
 |.fR b=>rfl
 |.ae=>rfl
 |.aR=>rfl
 |.ad v=>rfl
theorem AV.bV {b:Nat->Nat} (h:∀i,b (b i)=i):∀l:List AV,AV.cw b (AV.cw b l)=l
 |[]=>rfl
 |a::l=>by simp only[AV.cw,AV.dJ h a,AV.bV h l]
end
theorem Obj.dJ {ρ:Nat->Nat} (h:∀i,ρ (ρ i)=i) (o:Obj):(o.bY ρ).bY ρ=o:=by
 cases o
 case deep sz e cols l hs sh =>
  have e1:(hs.map fun p=>(p.1,p.2.1,ρ p.2.2)).map (fun p=>(p.1,p.2.1,ρ p.2.2))=hs:=by
   rw[List.map_map];have:(fun p:Nat×Nat×Nat=>(p.1,p.2.1,ρ p.2.2))∘(fun p=>(p.1,p.2.1,ρ p.2.2))=id:=by funext p;simp[h]
   rw[this,List.map_id]
  simp only[Obj.bY,h,e1]
 all_goals simp only[Obj.bY,AV.bV h,h]
def fK (a:Nat->Nat):Os->Os
 |[]=>[]
 |(k,o)::r=>(a k,o.bY a)::fK a r
theorem nc {a:Nat->Nat} (h:∀i,a (a i)=i) (id:Nat):∀os:Os,lk (fK a os) id=(lk os (a id)).map (·.bY a)
 |[]=>rfl
 |(k,o)::r=>by
  rw[fK,l9,l9];by_cases e:k=a id
  ·rw[Mu e,Mu (by rw[e,h])];rfl
  ·rw[Mt e,Mt (fun q=>e (by rw[<-q,h])),nc h id r]
def yK {a:Nat->Nat} (h:∀i,a (a i)=i) {id:Nat} {os:Os} {o:Obj} (hl:lk (fK a os) id=some o):lk os (a id)=some (o.bY a):=by
 rw[nc h,ME] at hl;obtain⟨x,b,rfl⟩:=hl;rw[b,Obj.dJ h]
theorem T9.other {c:Ctx} {w:World} {a:Nat->Nat} (h:∀i,a (a i)=i) {os f:Os} (g:∀id o,lk f id=some o->lk os (a id)=some (o.bY a)) (aS:T9 c w os):T9 (c.bt a) w f:=by
 refine⟨fun id o hl=>(aS.rep _ _ (g id o hl)).az,fun id o b hl j=>aS.lt _ _ b (g id o hl) (il.1 j),fun id d o n b m hl l j k=>aS.sep (a id) (a d) _ _ b (fun e=>m ?_) (g id o hl) (g d n l) (il.1 j) (il.1 k),aS.aw⟩;rw[<-h id,e,h]
def d82 {c:Ctx} {a:Nat->Nat} (h:∀i,a (a i)=i) {need upd:Os} {b:Nat} (g:Touch (c.bt a) need upd b):Touch c (fK a need) (fK a upd) b:=by
 obtain⟨id,o,d,e,f⟩:=g;refine⟨a id,o.bY a,by rw[nc h,h,d];rfl,by rw[nc h,h];simpa using e,il.1 f⟩
theorem Spec.swap {P:Program} {f:Nat} {need upd:Os} {ins:List AV} {av:AV} {news:List Nat} (hS:Spec P f need ins av upd news) (a:Nat->Nat) (h:∀i,a (a i)=i) :
  Spec P f (fK a need) (AV.cw a ins) (av.bY a) (fK a upd) (news.map a):=by
 obtain⟨s,t,u⟩:=hS;refine⟨s,fun id j=>?_,fun c w args aS B=>?_⟩
 ·obtain⟨i,hi,rfl⟩:=MM.1 j;rw[nc h,h];simpa using t i hi
 have m:T9 (c.bt a) w need:=aS.other h fun id o hl=>by rw[nc h,h,hl];rfl
 have l:∀d:Ctx,(d.bt a).bt a=d:=fun d=>by
  cases d;simp only[Ctx.bt,h]
 refine(u (c.bt a) w args m (y9.az ins B)).mono fun e w' ⟨v,q,x,g,D⟩=>⟨v,q.bt a,x,?_,?_⟩
 ·have n:∀b,Touch (c.bt a) need upd b->Touch c (fK a need) (fK a upd) b:=fun b=>d82 h;have E:∀b,Touch c (fK a need) (fK a upd) b->Touch (c.bt a) need upd b:=fun b ⟨id,o,g1,p,r⟩=>by
   refine⟨a id,o.bY a,yK h g1,?_,?_⟩
   ·rw[nc h] at p;simpa using p
   ·have:aZ ((c.bt a).bt a) id o b:=by rw[l];exact r
    exact il.1 this
  refine⟨g.cq,g.tape,g.output,g.size,g.aw,fun b k=>(g.ar b k).imp (fun h=>h) (.imp (fun h=>h) (n b)),fun b k A=>g.af b k fun C=>A (n b C),fun id j=>?_,g.aS.other h fun id o hl=>yK h hl,fun id o b hl y=>?_⟩
  ·have:=g.ctx (a id) fun z=>j (MM.2 ⟨a id,z,h id⟩);simpa only[Ctx.bt,h] using this
  ·exact(g.bA (a id) _ b (yK h hl) (il.1 y)).imp (fun h=>h) (n b)
 ·exact Rd.az (av.bY a) (by rw[AV.dJ h];exact D)
theorem Spec.sw {P:Program} {f:Nat} {need upd:Os} {ins:List AV} {av:AV} {news:List Nat} (hS:Spec P f need ins av upd news) (a b:Nat) :
  Spec P f (fK (sw a b) need) (AV.cw (sw a b) ins) (av.bY (sw a b)) (fK (sw a b) upd) (news.map (sw a b)):=hS.swap _ (La a b)
def ay : List (Nat×Nat)->Nat->Nat
 |[],i=>i
 |(a,b)::r,i=>bif AT i a then b else bif AT i b then a else ay r i
def d28 : List (Nat×Nat)->Bool
 |[]=>true
 |(a,b)::r=>(r.all fun p=>!Nat.beq p.1 a && !Nat.beq p.1 b && !Nat.beq p.2 a && !Nat.beq p.2 b) && d28 r
theorem By : ∀(m:List (Nat×Nat)) (i:Nat),ay m i=i\/∃p∈m,ay m i=p.1\/ay m i=p.2
 |[],i=>.inl rfl
 |(a,b)::r,i=>by
  unfold ay;cases d:AT i a with
  |true=>exact .inr ⟨(a,b),l8,.inr rfl⟩
  |false =>
   cases e:AT i b with
   |true=>exact .inr ⟨(a,b),l8,.inl rfl⟩
   |false =>
    rcases By r i with h|⟨p,c,h⟩
    ·exact .inl h
    ·exact .inr ⟨p,by simp[c],h⟩
theorem DW : ∀(m:List (Nat×Nat)),d28 m=true->∀i,ay m (ay m i)=i
 |[],_,i=>rfl
 |(a,b)::r,h,i=>by
  unfold d28 at h;rw[IT] at h;have ih:=DW r h.2
  conv=>lhs;arg 2;unfold ay
  cases d:AT i a with
  |true =>
   have e:=MG d;subst e;simp only[Mr];unfold ay;cases c:AT b i with
   |true=>simpa using(MG c)
   |false=>simp
  |false =>
   cases c:AT i b with
   |true =>
    have e:=MG c;subst e;simp only[Ms,Mr];unfold ay;simp
   |false =>
    simp only[Ms];have key:AT (ay r i) a=false/\AT (ay r i) b=false:=by
     rcases By r i with e|⟨p,f,e⟩
     ·rw[e];exact⟨d,c⟩
     ·have:=MK.1 h.1 p f;simp only[IT,Bool.not_eq_true'] at this;rcases e with e|e<;>rw[e]
      ·exact⟨this.1.1.1,this.1.1.2⟩
      ·exact⟨this.1.2,this.2⟩
    unfold ay;rw[key.1,key.2];simp only[Ms];exact ih i
theorem Spec.ay {P:Program} {f:Nat} {need upd:Os} {ins:List AV} {av:AV} {news:List Nat} (hS:Spec P f need ins av upd news) (m:List (Nat×Nat)) (h:d28 m=true) :
  Spec P f (fK (Go.Proofs.YtibjcppjfkamhaaGreatDoor.ay m) need) (AV.cw (Go.Proofs.YtibjcppjfkamhaaGreatDoor.ay m) ins) (av.bY (Go.Proofs.YtibjcppjfkamhaaGreatDoor.ay m)) (fK (Go.Proofs.YtibjcppjfkamhaaGreatDoor.ay m) upd) (news.map (Go.Proofs.YtibjcppjfkamhaaGreatDoor.ay m)):=hS.swap _ (DW m h)
def tab : U2:=[
  (1,⟨0,1,8,[.aR],[],0,0,.i64⟩),
  (2,⟨5,1,8,[.int 0],[],0,0,.i64⟩),
  (3,⟨5,1,8,[.int 0],[],0,0,.i64⟩),
  (4,⟨6,1,1,[.bool false],[],0,0,.i64⟩),
  (5,⟨5,1,1,[.ik .u8 0],[],0,0,.u8⟩),
  (6,⟨5,1,1,[.ik .u8 0],[],0,0,.u8⟩),
  (7,⟨1,4,24,[.int 0,.int 0,.bool false,.ik .u8 0],[(0,1,false),(1,1,false),(2,1,false),(3,1,false)],0,0,.i64⟩),
  (8,⟨1,4,24,[.int 0,.int 0,.bool false,.ik .u8 0],[(0,1,false),(1,1,false),(2,1,false),(3,1,false)],0,0,.i64⟩),
  (9,⟨4,1,16,[.str BY],[],0,0,.i64⟩),
  (10,⟨4,1,16,[.str BY],[],0,0,.i64⟩),
  (11,⟨4,1,16,[.str BY],[],0,0,.i64⟩),
  (12,⟨5,1,8,[.ik .u64 0],[],0,0,.u64⟩),
  (13,⟨1,2,24,[.str BY,.ik .u64 0],[(0,1,false),(1,1,false)],0,0,.i64⟩),
  (14,⟨1,2,24,[.str BY,.ik .u64 0],[(0,1,false),(1,1,false)],0,0,.i64⟩),
  (15,⟨7,1,8,[.ae],[],321,0,.i64⟩),
  (16,⟨7,1,8,[.ae],[],324,0,.i64⟩),
  (17,⟨7,1,8,[.ae],[],331,0,.i64⟩),
  (18,⟨1,1,8,[.ae],[(0,1,false)],0,0,.i64⟩),
  (19,⟨1,1,8,[.ae],[(0,1,false)],0,0,.i64⟩),
  (20,⟨9,1,16,[.dr true],[],0,0,.i64⟩),
  (21,⟨5,1,4,[.ik .i32 0],[],0,0,.i32⟩),
  (22,⟨0,1,8,[.aR],[],0,0,.i64⟩),
  (23,⟨2,1,24,[.aP],[],34,0,.i64⟩),
  (24,⟨0,1,8,[.aR],[],0,0,.i64⟩),
  (25,⟨2,1,24,[.aP],[],55,0,.i64⟩),
  (26,⟨1,5,64,[.str BY,.int 0,.int 0,.int 0,.aP],[(0,1,false),(1,1,false),(2,1,false),(3,1,false),(4,1,false)],0,0,.i64⟩),
  (27,⟨1,5,64,[.str BY,.int 0,.int 0,.int 0,.aP],[(0,1,false),(1,1,false),(2,1,false),(3,1,false),(4,1,false)],0,0,.i64⟩),
  (28,⟨1,2,16,[.int 0,.int 0],[(0,1,false),(1,1,false)],0,0,.i64⟩),
  (29,⟨1,2,16,[.int 0,.int 0],[(0,1,false),(1,1,false)],0,0,.i64⟩),
  (30,⟨2,1,24,[.aP],[],29,0,.i64⟩),
  (31,⟨1,4,56,[.int 0,.int 0,.str BY,.aP],[(0,2,true),(2,1,false),(3,1,false)],0,0,.i64⟩),
  (32,⟨1,4,56,[.int 0,.int 0,.str BY,.aP],[(0,2,true),(2,1,false),(3,1,false)],0,0,.i64⟩),
  (33,⟨1,13,160,[.int 0,.str BY,.int 0,.int 0,.str BY,.int 0,.int 0,.int 0,.aP,.int 0,.int 0,.str BY,.aP],[(0,1,false),(1,1,false),(2,1,false),(3,1,false),(4,5,true),(9,4,true)],0,0,.i64⟩),
  (34,⟨1,13,160,[.int 0,.str BY,.int 0,.int 0,.str BY,.int 0,.int 0,.int 0,.aP,.int 0,.int 0,.str BY,.aP],[(0,1,false),(1,1,false),(2,1,false),(3,1,false),(4,5,true),(9,4,true)],0,0,.i64⟩),
  (35,⟨0,1,8,[.aR],[],0,0,.i64⟩),
  (36,⟨0,1,8,[.aR],[],0,0,.i64⟩),
  (37,⟨2,1,24,[.aP],[],81,0,.i64⟩),
  (38,⟨2,1,24,[.aP],[],92,0,.i64⟩),
  (39,⟨1,3,56,[.aP,.aP,.int 0],[(0,1,false),(1,1,false),(2,1,false)],0,0,.i64⟩),
  (40,⟨1,3,56,[.aP,.aP,.int 0],[(0,1,false),(1,1,false),(2,1,false)],0,0,.i64⟩),
  (41,⟨2,1,24,[.aP],[],159,0,.i64⟩),
  (42,⟨2,1,24,[.aP],[],162,0,.i64⟩),
  (43,⟨2,1,24,[.aP],[],5,0,.i64⟩),
  (44,⟨1,6,128,[.aP,.aP,.int 0,.aP,.aP,.aP],[(0,3,true),(3,1,false),(4,1,false),(5,1,false)],0,0,.i64⟩),
  (45,⟨1,6,128,[.aP,.aP,.int 0,.aP,.aP,.aP],[(0,3,true),(3,1,false),(4,1,false),(5,1,false)],0,0,.i64⟩),
  (46,⟨2,1,24,[.aP],[],51,0,.i64⟩),
  (47,⟨5,1,8,[.int 0],[],0,0,.i64⟩),
  (49,⟨0,1,8,[.aR],[],0,0,.i64⟩),
  (50,⟨1,4,32,[.int 0,.int 0,.int 0,.int 0],[(0,1,false),(1,1,false),(2,2,true)],0,0,.i64⟩),
  (51,⟨1,4,32,[.int 0,.int 0,.int 0,.int 0],[(0,1,false),(1,1,false),(2,2,true)],0,0,.i64⟩),
  (52,⟨0,1,8,[.aR],[],0,0,.i64⟩),
  (53,⟨0,1,8,[.aR],[],0,0,.i64⟩),
  (54,⟨1,5,48,[.int 0,.int 0,.int 0,.int 0,.str BY],[(0,1,false),(1,1,false),(2,1,false),(3,1,false),(4,1,false)],0,0,.i64⟩),
  (55,⟨1,5,48,[.int 0,.int 0,.int 0,.int 0,.str BY],[(0,1,false),(1,1,false),(2,1,false),(3,1,false),(4,1,false)],0,0,.i64⟩),
  (56,⟨0,1,8,[.aR],[],0,0,.i64⟩),
  (57,⟨0,1,8,[.aR],[],0,0,.i64⟩),
  (58,⟨0,1,8,[.aR],[],0,0,.i64⟩),
  (59,⟨0,1,8,[.aR],[],0,0,.i64⟩),
  (61,⟨0,1,8,[.aR],[],0,0,.i64⟩),
  (62,⟨0,1,8,[.aR],[],0,0,.i64⟩),
  (63,⟨0,1,8,[.aR],[],0,0,.i64⟩),
  (65,⟨0,1,8,[.aR],[],0,0,.i64⟩),
  (66,⟨0,1,8,[.aR],[],0,0,.i64⟩),
  (67,⟨0,1,8,[.aR],[],0,0,.i64⟩),
  (68,⟨0,1,8,[.aR],[],0,0,.i64⟩),
  (69,⟨0,1,8,[.aR],[],0,0,.i64⟩),
  (70,⟨0,1,8,[.aR],[],0,0,.i64⟩),
  (71,⟨2,1,24,[.aP],[],3,0,.i64⟩),
  (72,⟨0,1,8,[.aR],[],0,0,.i64⟩),
  (74,⟨0,1,8,[.aR],[],0,0,.i64⟩),
  (75,⟨0,1,8,[.aR],[],0,0,.i64⟩),
  (76,⟨0,1,8,[.aR],[],0,0,.i64⟩),
  (77,⟨0,1,8,[.aR],[],0,0,.i64⟩),
  (78,⟨8,1,8,[.any],[],4,9,.i64⟩),
  (79,⟨2,1,24,[.aP],[],27,0,.i64⟩),
  (80,⟨1,4,56,[.str BY,.int 0,.int 0,.aP],[(0,1,false),(1,1,false),(2,1,false),(3,1,false)],0,0,.i64⟩),
  (81,⟨1,4,56,[.str BY,.int 0,.int 0,.aP],[(0,1,false),(1,1,false),(2,1,false),(3,1,false)],0,1,.i64⟩),
  (82,⟨0,1,8,[.aR],[],0,0,.i64⟩),
  (83,⟨0,1,8,[.aR],[],0,0,.i64⟩),
  (84,⟨0,1,8,[.aR],[],0,0,.i64⟩),
  (85,⟨7,1,8,[.ae],[],40,0,.i64⟩),
  (86,⟨7,1,8,[.ae],[],27,0,.i64⟩),
  (87,⟨1,2,16,[.int 0,.int 0],[(0,1,false),(1,1,false)],0,0,.i64⟩),
  (88,⟨1,2,16,[.int 0,.int 0],[(0,1,false),(1,1,false)],0,0,.i64⟩),
  (89,⟨0,1,8,[.aR],[],0,0,.i64⟩),
  (90,⟨0,1,8,[.aR],[],0,0,.i64⟩),
  (91,⟨1,2,32,[.int 0,.aP],[(0,1,false),(1,1,false)],0,0,.i64⟩),
  (92,⟨1,2,32,[.int 0,.aP],[(0,1,false),(1,1,false)],0,1,.i64⟩),
  (93,⟨0,1,8,[.aR],[],0,0,.i64⟩),
  (94,⟨7,1,8,[.ae],[],99,0,.i64⟩),
  (95,⟨7,1,8,[.ae],[],97,0,.i64⟩),
  (96,⟨1,2,32,[.ae,.aP],[(0,1,false),(1,1,false)],0,0,.i64⟩),
  (97,⟨1,2,32,[.ae,.aP],[(0,1,false),(1,1,false)],0,0,.i64⟩),
  (98,⟨1,2,32,[.ae,.aP],[(0,2,true)],0,0,.i64⟩),
  (99,⟨1,2,32,[.ae,.aP],[(0,2,true)],0,0,.i64⟩),
  (100,⟨0,1,8,[.aR],[],0,0,.i64⟩),
  (101,⟨0,1,8,[.aR],[],0,0,.i64⟩),
  (102,⟨0,1,8,[.aR],[],0,0,.i64⟩),
  (103,⟨0,1,8,[.aR],[],0,0,.i64⟩),
  (104,⟨0,1,8,[.aR],[],0,0,.i64⟩),
  (105,⟨7,1,8,[.ae],[],107,0,.i64⟩),
  (106,⟨1,2,24,[.str BY,.bool false],[(0,1,false),(1,1,false)],0,0,.i64⟩),
  (107,⟨1,2,24,[.str BY,.bool false],[(0,1,false),(1,1,false)],0,0,.i64⟩),
  (108,⟨2,1,24,[.aP],[],9,0,.i64⟩),
  (110,⟨0,1,8,[.aR],[],0,0,.i64⟩),
  (111,⟨7,1,8,[.ae],[],113,0,.i64⟩),
  (112,⟨1,2,32,[.aP,.bool false],[(0,1,false),(1,1,false)],0,0,.i64⟩),
  (113,⟨1,2,32,[.aP,.bool false],[(0,1,false),(1,1,false)],0,0,.i64⟩),
  (114,⟨0,1,8,[.aR],[],0,0,.i64⟩),
  (115,⟨0,1,8,[.aR],[],0,0,.i64⟩),
  (116,⟨0,1,8,[.aR],[],0,0,.i64⟩),
  (117,⟨0,1,8,[.aR],[],0,0,.i64⟩),
  (118,⟨0,1,8,[.aR],[],0,0,.i64⟩),
  (119,⟨0,1,8,[.aR],[],0,0,.i64⟩),
  (120,⟨0,1,8,[.aR],[],0,0,.i64⟩),
  (121,⟨0,1,8,[.aR],[],0,0,.i64⟩),
  (122,⟨0,1,8,[.aR],[],0,0,.i64⟩),
  (124,⟨0,1,8,[.aR],[],0,0,.i64⟩),
  (125,⟨0,1,8,[.aR],[],0,0,.i64⟩),
  (126,⟨7,1,8,[.ae],[],45,0,.i64⟩),
  (127,⟨0,1,8,[.aR],[],0,0,.i64⟩),
  (128,⟨0,1,8,[.aR],[],0,0,.i64⟩),
  (129,⟨0,1,8,[.aR],[],0,0,.i64⟩),
  (130,⟨7,1,8,[.ae],[],79,0,.i64⟩),
  (131,⟨0,1,8,[.aR],[],0,0,.i64⟩),
  (132,⟨0,1,8,[.aR],[],0,0,.i64⟩),
  (133,⟨0,1,8,[.aR],[],0,0,.i64⟩),
  (134,⟨0,1,8,[.aR],[],0,0,.i64⟩),
  (136,⟨0,1,8,[.aR],[],0,0,.i64⟩),
  (137,⟨0,1,8,[.aR],[],0,0,.i64⟩),
  (139,⟨0,1,8,[.aR],[],0,0,.i64⟩),
  (140,⟨0,1,8,[.aR],[],0,0,.i64⟩),
  (141,⟨0,1,8,[.aR],[],0,0,.i64⟩),
  (142,⟨9,1,16,[.dr true],[],0,0,.i64⟩),
  (143,⟨9,1,16,[.dr true],[],0,0,.i64⟩),
  (145,⟨0,1,8,[.aR],[],0,0,.i64⟩),
  (146,⟨0,1,8,[.aR],[],0,0,.i64⟩),
  (147,⟨7,1,8,[.ae],[],5,0,.i64⟩),
  (148,⟨0,1,8,[.aR],[],0,0,.i64⟩),
  (149,⟨0,1,8,[.aR],[],0,0,.i64⟩),
  (150,⟨1,4,32,[.int 0,.int 0,.int 0,.int 0],[(0,2,true),(2,1,false),(3,1,false)],0,0,.i64⟩),
  (151,⟨1,4,32,[.int 0,.int 0,.int 0,.int 0],[(0,2,true),(2,1,false),(3,1,false)],0,0,.i64⟩),
  (152,⟨1,11,152,[.aP,.aP,.int 0,.int 0,.int 0,.int 0,.int 0,.aP,.aP,.int 0,.int 0],[(0,3,true),(3,4,true),(7,1,false),(8,1,false),(9,1,false),(10,1,false)],0,0,.i64⟩),
  (153,⟨1,11,152,[.aP,.aP,.int 0,.int 0,.int 0,.int 0,.int 0,.aP,.aP,.int 0,.int 0],[(0,3,true),(3,4,true),(7,1,false),(8,1,false),(9,1,false),(10,1,false)],0,0,.i64⟩),
  (154,⟨0,1,8,[.aR],[],0,0,.i64⟩),
  (155,⟨1,3,32,[.int 0,.str BY,.int 0],[(0,1,false),(1,1,false),(2,1,false)],0,0,.i64⟩),
  (156,⟨1,3,32,[.int 0,.str BY,.int 0],[(0,1,false),(1,1,false),(2,1,false)],0,0,.i64⟩),
  (157,⟨2,1,24,[.aP],[],167,0,.i64⟩),
  (158,⟨1,6,72,[.int 0,.str BY,.int 0,.int 0,.bool false,.aP],[(0,3,true),(3,1,false),(4,1,false),(5,1,false)],0,0,.i64⟩),
  (159,⟨1,6,72,[.int 0,.str BY,.int 0,.int 0,.bool false,.aP],[(0,3,true),(3,1,false),(4,1,false),(5,1,false)],0,0,.i64⟩),
  (160,⟨0,1,8,[.aR],[],0,0,.i64⟩),
  (161,⟨1,4,56,[.int 0,.str BY,.int 0,.aP],[(0,3,true),(3,1,false)],0,0,.i64⟩),
  (162,⟨1,4,56,[.int 0,.str BY,.int 0,.aP],[(0,3,true),(3,1,false)],0,0,.i64⟩),
  (163,⟨0,1,8,[.aR],[],0,0,.i64⟩),
  (164,⟨0,1,8,[.aR],[],0,0,.i64⟩),
  (165,⟨0,1,8,[.aR],[],0,0,.i64⟩),
  (166,⟨1,2,16,[.int 0,.int 0],[(0,1,false),(1,1,false)],0,0,.i64⟩),
  (167,⟨1,2,16,[.int 0,.int 0],[(0,1,false),(1,1,false)],0,0,.i64⟩),
  (168,⟨0,1,8,[.aR],[],0,0,.i64⟩),
  (169,⟨0,1,8,[.aR],[],0,0,.i64⟩),
  (171,⟨0,1,8,[.aR],[],0,0,.i64⟩),
  (173,⟨0,1,8,[.aR],[],0,0,.i64⟩),
  (174,⟨0,1,8,[.aR],[],0,0,.i64⟩),
  (175,⟨2,1,24,[.aP],[],213,0,.i64⟩),
  (176,⟨0,1,8,[.aR],[],0,0,.i64⟩),
  (177,⟨0,1,8,[.aR],[],0,0,.i64⟩),
  (178,⟨0,1,8,[.aR],[],0,0,.i64⟩),
  (179,⟨5,1,8,[.ik .u64 0],[],0,0,.u64⟩),
  (180,⟨0,1,8,[.aR],[],0,0,.i64⟩),
  (182,⟨0,1,8,[.aR],[],0,0,.i64⟩),
  (183,⟨0,1,8,[.aR],[],0,0,.i64⟩),
  (184,⟨3,2,16,[.int 0,.int 0],[],3,2,.i64⟩),
  (185,⟨2,1,24,[.aP],[],184,0,.i64⟩),
  (186,⟨0,1,8,[.aR],[],0,0,.i64⟩),
  (188,⟨0,1,8,[.aR],[],0,0,.i64⟩),
  (189,⟨0,1,8,[.aR],[],0,0,.i64⟩),
  (191,⟨0,1,8,[.aR],[],0,0,.i64⟩),
  (192,⟨0,1,8,[.aR],[],0,0,.i64⟩),
  (193,⟨7,1,8,[.ae],[],198,0,.i64⟩),
  (195,⟨0,1,8,[.aR],[],0,0,.i64⟩),
  (196,⟨2,1,24,[.aP],[],156,0,.i64⟩),
  (197,⟨1,10,144,[.aP,.aP,.int 0,.int 0,.int 0,.int 0,.int 0,.int 0,.aP,.aP],[(0,3,true),(3,1,false),(4,1,false),(5,1,false),(6,1,false),(7,1,false),(8,1,false),(9,1,false)],0,0,.i64⟩),
  (198,⟨1,10,144,[.aP,.aP,.int 0,.int 0,.int 0,.int 0,.int 0,.int 0,.aP,.aP],[(0,3,true),(3,1,false),(4,1,false),(5,1,false),(6,1,false),(7,1,false),(8,1,false),(9,1,false)],0,0,.i64⟩),
  (199,⟨0,1,8,[.aR],[],0,0,.i64⟩),
  (200,⟨0,1,8,[.aR],[],0,0,.i64⟩),
  (201,⟨0,1,8,[.aR],[],0,0,.i64⟩),
  (202,⟨0,1,8,[.aR],[],0,0,.i64⟩),
  (203,⟨0,1,8,[.aR],[],0,0,.i64⟩),
  (204,⟨0,1,8,[.aR],[],0,0,.i64⟩),
  (205,⟨0,1,8,[.aR],[],0,0,.i64⟩),
  (206,⟨0,1,8,[.aR],[],0,0,.i64⟩),
  (207,⟨0,1,8,[.aR],[],0,0,.i64⟩),
  (208,⟨0,1,8,[.aR],[],0,0,.i64⟩),
  (209,⟨0,1,8,[.aR],[],0,0,.i64⟩),
  (211,⟨0,1,8,[.aR],[],0,0,.i64⟩),
  (212,⟨1,5,64,[.int 0,.str BY,.int 0,.int 0,.aP],[(0,1,false),(1,1,false),(2,1,false),(3,1,false),(4,1,false)],0,0,.i64⟩),
  (213,⟨1,5,64,[.int 0,.str BY,.int 0,.int 0,.aP],[(0,1,false),(1,1,false),(2,1,false),(3,1,false),(4,1,false)],0,0,.i64⟩),
  (215,⟨0,1,8,[.aR],[],0,0,.i64⟩),
  (216,⟨0,1,8,[.aR],[],0,0,.i64⟩),
  (217,⟨0,1,8,[.aR],[],0,0,.i64⟩),
  (218,⟨5,1,8,[.int 0],[],0,0,.i64⟩),
  (220,⟨0,1,8,[.aR],[],0,0,.i64⟩),
  (221,⟨0,1,8,[.aR],[],0,0,.i64⟩),
  (222,⟨0,1,8,[.aR],[],0,0,.i64⟩),
  (223,⟨0,1,8,[.aR],[],0,0,.i64⟩),
  (224,⟨0,1,8,[.aR],[],0,0,.i64⟩),
  (225,⟨5,1,4,[.ik .u32 0],[],0,0,.u32⟩),
  (226,⟨0,1,8,[.aR],[],0,0,.i64⟩),
  (227,⟨5,1,8,[.ik .u64 0],[],0,0,.u64⟩),
  (229,⟨0,1,8,[.aR],[],0,0,.i64⟩),
  (230,⟨3,24,24,[.ik .u8 0,.ik .u8 0,.ik .u8 0,.ik .u8 0,.ik .u8 0,.ik .u8 0,.ik .u8 0,.ik .u8 0,.ik .u8 0,.ik .u8 0,.ik .u8 0,.ik .u8 0,.ik .u8 0,.ik .u8 0,.ik .u8 0,.ik .u8 0,.ik .u8 0,.ik .u8 0,.ik .u8 0,.ik .u8 0,.ik .u8 0,.ik .u8 0,.ik .u8 0,.ik .u8 0],[],5,24,.i64⟩),
  (231,⟨0,1,8,[.aR],[],0,0,.i64⟩),
  (233,⟨0,1,8,[.aR],[],0,0,.i64⟩),
  (234,⟨5,1,8,[.int 0],[],0,0,.i64⟩),
  (236,⟨0,1,8,[.aR],[],0,0,.i64⟩),
  (237,⟨7,1,8,[.ae],[],280,0,.i64⟩),
  (238,⟨0,1,8,[.aR],[],0,0,.i64⟩),
  (239,⟨0,1,8,[.aR],[],0,0,.i64⟩),
  (240,⟨0,1,8,[.aR],[],0,0,.i64⟩),
  (241,⟨0,1,8,[.aR],[],0,0,.i64⟩),
  (242,⟨0,1,8,[.aR],[],0,0,.i64⟩),
  (243,⟨0,1,8,[.aR],[],0,0,.i64⟩),
  (244,⟨0,1,8,[.aR],[],0,0,.i64⟩),
  (245,⟨0,1,8,[.aR],[],0,0,.i64⟩),
  (246,⟨0,1,8,[.aR],[],0,0,.i64⟩),
  (247,⟨0,1,8,[.aR],[],0,0,.i64⟩),
  (248,⟨7,1,8,[.ae],[],251,0,.i64⟩),
  (249,⟨2,1,24,[.aP],[],288,0,.i64⟩),
  (250,⟨1,10,96,[.ae,.aR,.aR,.int 0,.int 0,.int 0,.aP,.int 0,.int 0,.int 0],[(0,1,false),(1,1,false),(2,1,false),(3,1,false),(4,1,false),(5,1,false),(6,1,false),(7,2,true),(9,1,false)],0,0,.i64⟩),
  (251,⟨1,10,96,[.ae,.aR,.aR,.int 0,.int 0,.int 0,.aP,.int 0,.int 0,.int 0],[(0,1,false),(1,1,false),(2,1,false),(3,1,false),(4,1,false),(5,1,false),(6,1,false),(7,2,true),(9,1,false)],0,0,.i64⟩),
  (252,⟨0,1,8,[.aR],[],0,0,.i64⟩),
  (253,⟨0,1,8,[.aR],[],0,0,.i64⟩),
  (254,⟨0,1,8,[.aR],[],0,0,.i64⟩),
  (255,⟨0,1,8,[.aR],[],0,0,.i64⟩),
  (256,⟨0,1,8,[.aR],[],0,0,.i64⟩),
  (257,⟨0,1,8,[.aR],[],0,0,.i64⟩),
  (258,⟨7,1,8,[.ae],[],260,0,.i64⟩),
  (259,⟨1,6,96,[.ae,.ae,.aP,.int 0,.aP,.aP],[(0,1,false),(1,1,false),(2,1,false),(3,1,false),(4,1,false),(5,1,false)],0,0,.i64⟩),
  (260,⟨1,6,96,[.ae,.ae,.aP,.int 0,.aP,.aP],[(0,1,false),(1,1,false),(2,1,false),(3,1,false),(4,1,false),(5,1,false)],0,0,.i64⟩),
  (261,⟨0,1,8,[.aR],[],0,0,.i64⟩),
  (262,⟨0,1,8,[.aR],[],0,0,.i64⟩),
  (263,⟨0,1,8,[.aR],[],0,0,.i64⟩),
  (264,⟨0,1,8,[.aR],[],0,0,.i64⟩),
  (265,⟨0,1,8,[.aR],[],0,0,.i64⟩),
  (266,⟨5,1,8,[.ik .u64 0],[],0,0,.u64⟩),
  (267,⟨0,1,8,[.aR],[],0,0,.i64⟩),
  (268,⟨0,1,8,[.aR],[],0,0,.i64⟩),
  (269,⟨0,1,8,[.aR],[],0,0,.i64⟩),
  (270,⟨7,1,8,[.ae],[],3,0,.i64⟩),
  (271,⟨0,1,8,[.aR],[],0,0,.i64⟩),
  (272,⟨0,1,8,[.aR],[],0,0,.i64⟩),
  (273,⟨3,20,160,[.ik .u64 0,.ik .u64 0,.ik .u64 0,.ik .u64 0,.ik .u64 0,.ik .u64 0,.ik .u64 0,.ik .u64 0,.ik .u64 0,.ik .u64 0,.ik .u64 0,.ik .u64 0,.ik .u64 0,.ik .u64 0,.ik .u64 0,.ik .u64 0,.ik .u64 0,.ik .u64 0,.ik .u64 0,.ik .u64 0],[],227,20,.i64⟩),
  (274,⟨3,65,65,[.ik .u8 0,.ik .u8 0,.ik .u8 0,.ik .u8 0,.ik .u8 0,.ik .u8 0,.ik .u8 0,.ik .u8 0,.ik .u8 0,.ik .u8 0,.ik .u8 0,.ik .u8 0,.ik .u8 0,.ik .u8 0,.ik .u8 0,.ik .u8 0,.ik .u8 0,.ik .u8 0,.ik .u8 0,.ik .u8 0,.ik .u8 0,.ik .u8 0,.ik .u8 0,.ik .u8 0,.ik .u8 0,.ik .u8 0,.ik .u8 0,.ik .u8 0,.ik .u8 0,.ik .u8 0,.ik .u8 0,.ik .u8 0,.ik .u8 0,.ik .u8 0,.ik .u8 0,.ik .u8 0,.ik .u8 0,.ik .u8 0,.ik .u8 0,.ik .u8 0,.ik .u8 0,.ik .u8 0,.ik .u8 0,.ik .u8 0,.ik .u8 0,.ik .u8 0,.ik .u8 0,.ik .u8 0,.ik .u8 0,.ik .u8 0,.ik .u8 0,.ik .u8 0,.ik .u8 0,.ik .u8 0,.ik .u8 0,.ik .u8 0,.ik .u8 0,.ik .u8 0,.ik .u8 0,.ik .u8 0,.ik .u8 0,.ik .u8 0,.ik .u8 0,.ik .u8 0,.ik .u8 0],[],5,65,.i64⟩),
  (275,⟨0,1,8,[.aR],[],0,0,.i64⟩),
  (277,⟨0,1,8,[.aR],[],0,0,.i64⟩),
  (278,⟨0,1,8,[.aR],[],0,0,.i64⟩),
  (279,⟨1,3,48,[.str BY,.str BY,.dr true],[(0,1,false),(1,1,false),(2,1,false)],0,0,.i64⟩),
  (280,⟨1,3,48,[.str BY,.str BY,.dr true],[(0,1,false),(1,1,false),(2,1,false)],0,0,.i64⟩),
  (281,⟨0,1,8,[.aR],[],0,0,.i64⟩),
  (283,⟨0,1,8,[.aR],[],0,0,.i64⟩),
  (284,⟨0,1,8,[.aR],[],0,0,.i64⟩),
  (285,⟨0,1,8,[.aR],[],0,0,.i64⟩),
  (286,⟨0,1,8,[.aR],[],0,0,.i64⟩),
  (287,⟨1,10,144,[.int 0,.int 0,.bool false,.aP,.int 0,.int 0,.aP,.aP,.aP,.int 0],[(0,1,false),(1,1,false),(2,1,false),(3,1,false),(4,2,true),(6,1,false),(7,1,false),(8,1,false),(9,1,false)],0,0,.i64⟩),
  (288,⟨1,10,144,[.int 0,.int 0,.bool false,.aP,.int 0,.int 0,.aP,.aP,.aP,.int 0],[(0,1,false),(1,1,false),(2,1,false),(3,1,false),(4,2,true),(6,1,false),(7,1,false),(8,1,false),(9,1,false)],0,1,.i64⟩),
  (289,⟨7,1,8,[.ae],[],288,0,.i64⟩),
  (290,⟨0,1,8,[.aR],[],0,0,.i64⟩),
  (291,⟨0,1,8,[.aR],[],0,0,.i64⟩),
  (292,⟨0,1,8,[.aR],[],0,0,.i64⟩),
  (293,⟨0,1,8,[.aR],[],0,0,.i64⟩),
  (294,⟨0,1,8,[.aR],[],0,0,.i64⟩),
  (295,⟨7,1,8,[.ae],[],159,0,.i64⟩),
  (296,⟨0,1,8,[.aR],[],0,0,.i64⟩),
  (297,⟨0,1,8,[.aR],[],0,0,.i64⟩),
  (298,⟨0,1,8,[.aR],[],0,0,.i64⟩),
  (299,⟨0,1,8,[.aR],[],0,0,.i64⟩),
  (300,⟨0,1,8,[.aR],[],0,0,.i64⟩),
  (301,⟨0,1,8,[.aR],[],0,0,.i64⟩),
  (302,⟨7,1,8,[.ae],[],266,0,.i64⟩),
  (303,⟨0,1,8,[.aR],[],0,0,.i64⟩),
  (304,⟨0,1,8,[.aR],[],0,0,.i64⟩),
  (305,⟨0,1,8,[.aR],[],0,0,.i64⟩),
  (306,⟨7,1,8,[.ae],[],308,0,.i64⟩),
  (307,⟨1,1,16,[.str BY],[(0,1,false)],0,0,.i64⟩),
  (308,⟨1,1,16,[.str BY],[(0,1,false)],0,0,.i64⟩),
  (309,⟨0,1,8,[.aR],[],0,0,.i64⟩),
  (310,⟨0,1,8,[.aR],[],0,0,.i64⟩),
  (311,⟨0,1,8,[.aR],[],0,0,.i64⟩),
  (312,⟨0,1,8,[.aR],[],0,0,.i64⟩),
  (313,⟨0,1,8,[.aR],[],0,0,.i64⟩),
  (314,⟨0,1,8,[.aR],[],0,0,.i64⟩),
  (315,⟨0,1,8,[.aR],[],0,0,.i64⟩),
  (316,⟨3,32,32,[.ik .u8 0,.ik .u8 0,.ik .u8 0,.ik .u8 0,.ik .u8 0,.ik .u8 0,.ik .u8 0,.ik .u8 0,.ik .u8 0,.ik .u8 0,.ik .u8 0,.ik .u8 0,.ik .u8 0,.ik .u8 0,.ik .u8 0,.ik .u8 0,.ik .u8 0,.ik .u8 0,.ik .u8 0,.ik .u8 0,.ik .u8 0,.ik .u8 0,.ik .u8 0,.ik .u8 0,.ik .u8 0,.ik .u8 0,.ik .u8 0,.ik .u8 0,.ik .u8 0,.ik .u8 0,.ik .u8 0,.ik .u8 0],[],5,32,.i64⟩),
  (317,⟨3,64,64,[.ik .u8 0,.ik .u8 0,.ik .u8 0,.ik .u8 0,.ik .u8 0,.ik .u8 0,.ik .u8 0,.ik .u8 0,.ik .u8 0,.ik .u8 0,.ik .u8 0,.ik .u8 0,.ik .u8 0,.ik .u8 0,.ik .u8 0,.ik .u8 0,.ik .u8 0,.ik .u8 0,.ik .u8 0,.ik .u8 0,.ik .u8 0,.ik .u8 0,.ik .u8 0,.ik .u8 0,.ik .u8 0,.ik .u8 0,.ik .u8 0,.ik .u8 0,.ik .u8 0,.ik .u8 0,.ik .u8 0,.ik .u8 0,.ik .u8 0,.ik .u8 0,.ik .u8 0,.ik .u8 0,.ik .u8 0,.ik .u8 0,.ik .u8 0,.ik .u8 0,.ik .u8 0,.ik .u8 0,.ik .u8 0,.ik .u8 0,.ik .u8 0,.ik .u8 0,.ik .u8 0,.ik .u8 0,.ik .u8 0,.ik .u8 0,.ik .u8 0,.ik .u8 0,.ik .u8 0,.ik .u8 0,.ik .u8 0,.ik .u8 0,.ik .u8 0,.ik .u8 0,.ik .u8 0,.ik .u8 0,.ik .u8 0,.ik .u8 0,.ik .u8 0,.ik .u8 0],[],5,64,.i64⟩),
  (319,⟨0,1,8,[.aR],[],0,0,.i64⟩),
  (320,⟨1,4,40,[.ae,.ae,.ae,.str BY],[(0,1,false),(1,1,false),(2,1,false),(3,1,false)],0,0,.i64⟩),
  (321,⟨1,4,40,[.ae,.ae,.ae,.str BY],[(0,1,false),(1,1,false),(2,1,false),(3,1,false)],0,0,.i64⟩),
  (322,⟨3,0,0,[],[],16,0,.i64⟩),
  (323,⟨1,0,0,[],[(0,0,true)],0,0,.i64⟩),
  (324,⟨1,0,0,[],[(0,0,true)],0,0,.i64⟩),
  (325,⟨5,1,1,[.ik .u8 0],[],0,0,.u8⟩),
  (326,⟨5,1,1,[.ik .u8 0],[],0,0,.u8⟩),
  (327,⟨0,1,8,[.aR],[],0,0,.i64⟩),
  (328,⟨5,1,4,[.ik .i32 0],[],0,0,.i32⟩),
  (329,⟨5,1,4,[.ik .i32 0],[],0,0,.i32⟩),
  (330,⟨1,11,48,[.ik .u64 0,.ik .u64 0,.ik .u32 0,.ik .u8 0,.ik .u8 0,.ik .u8 0,.ik .u8 0,.aR,.ae,.ik .i32 0,.ik .i32 0],[(0,1,false),(1,1,false),(2,1,false),(3,1,false),(4,1,false),(5,1,false),(6,1,false),(7,1,false),(8,1,false),(9,1,false),(10,1,false)],0,0,.i64⟩),
  (331,⟨1,11,48,[.ik .u64 0,.ik .u64 0,.ik .u32 0,.ik .u8 0,.ik .u8 0,.ik .u8 0,.ik .u8 0,.aR,.ae,.ik .i32 0,.ik .i32 0],[(0,1,false),(1,1,false),(2,1,false),(3,1,false),(4,1,false),(5,1,false),(6,1,false),(7,1,false),(8,1,false),(9,1,false),(10,1,false)],0,0,.i64⟩)]
def fI : M5 prog tab:=M5.of (by kernel_rfl)
def eG : eO :=
 (156,[.int .i64,.str,.int .i64]) ::
 (167,[.int .i64,.int .i64]) ::
 (29,[.int .i64,.int .i64]) ::
 (88,[.int .i64,.int .i64]) ::
 (151,[.int .i64,.int .i64,.int .i64,.int .i64]) ::
 (51,[.int .i64,.int .i64,.int .i64,.int .i64]) ::
 (55,[.int .i64,.int .i64,.int .i64,.int .i64,.str]) ::
 []
def vA : gJ prog eG:=gJ.of y7
def mixed : prog.follows .mixedOrders=true:=y7
def go {a:bD} {n:Nat} (b:a.n=n) {c:Code} {ts:Ts} {os:Os} {Q:Qt} (h:fS prog tab eG a n c ts os Q):j6 prog a c ts os Q:=by
 subst b;exact yh fI vA c ts os Q h
def I7 {a:bD} {n:Nat} (b:a.n=n) {x y:Code} {ts:Ts} {os:Os} {Q:Qt} (h:fS prog tab eG a n (.seq x y) ts os Q):j6 prog a (.seq x y) ts os Q:=go b h
def P7 {a:bD} {n:Nat} (b:a.n=n) {id:Nat} {l:Array Oper} {ts:Ts} {os:Os} {Q:Qt} (h:fS prog tab eG a n (.region id l false) ts os Q):j6 prog a (.region id l false) ts os Q:=go b h
def R5 {a:bD} {n:Nat} (b:a.n=n) {id:Nat} {x:Code} {ts:Ts} {os:Os} {Q:Qt} (h:fS prog tab eG a n (.block id x) ts os Q):j6 prog a (.block id x) ts os Q:=go b h
def O9 {a:bD} {n:Nat} (b:a.n=n) {c:Operand} {x y:Code} {ts:Ts} {os:Os} {Q:Qt} (h:fS prog tab eG a n (.cond c x y) ts os Q):j6 prog a (.cond c x y) ts os Q:=go b h
def P8 {a:bD} {n:Nat} (b:a.n=n) {id:Nat} {ts:Ts} {os:Os} {Q:Qt} (h:fS prog tab eG a n (.exit id) ts os Q):j6 prog a (.exit id) ts os Q:=go b h
def N9 {a:bD} {n:Nat} (b:a.n=n) {ts:Ts} {os:Os} {Q:Qt} (h:fS prog tab eG a n .skip ts os Q):j6 prog a .skip ts os Q:=go b h
def b7 {a:bD} {n:Nat} (b:a.n=n) {ts:Ts} {os:Os} {Q:Qt} (h:fS prog tab eG a n .ret ts os Q):j6 prog a .ret ts os Q:=go b h
def vw {a:bD} {n:Nat} (b:a.n=n) {id:Nat} {l:Array Oper} (hd:ef l.toList=true) {ts:Ts} {os:Os} {Q:Qt} (h:fe ts fun ts=>iY prog tab eG n l.toList 0 l.toList ts os [] (Q .normal)):j6 prog a (.region id l true) ts os Q :=
 j6.draw fI vA b mixed hd h
def Hi (a ms:Nat) {b:bD} {n:Nat} (c:b.n=n) {id:Nat} {l:Array Oper} (hd:ef l.toList=true) {ts:Ts} {os:Os} {Q:Qt} (h:fe ts fun ts=>iZ prog tab eG n l.toList a ms 0 l.toList ts os [] none (Q .normal)):j6 prog b (.region id l true) ts os Q :=
 j6.tX fI vA c mixed hd a ms h
def jt {a:bD} {n:Nat} (b:a.n=n) (k:Nat) {ops l:List Oper} {ts:Ts} {os:Os} {Q:Qt} (h:fe ts fun ts=>jl prog tab eG n ops (l.take k) ts os fun ts os=>cd prog a ops (l.drop k) ts os Q):cd prog a ops l ts os Q :=
 cd.chunk fI vA b k h
def xg {k n:Nat} (h:k<n) (a:n<=maxLen):I1 ((k:Int)+1):=by simp only[maxLen] at a;exact⟨d9,d9⟩
abbrev Fit (n B:Nat):Prop:=n*B<=140737488355328
abbrev wr (n:Int):Int:=IntKind.i64.wrap n
def u7 {n:Int} (h:I1 n):wr n=n:=IntWalk.i64_in n h
def Ip (a:AV):tc a a:=by
 cases a<;>simp only[tc]<;>first|exact sV _|exact yJ _
theorem CC : ∀l:List AV,d67 l l
 |[]=>trivial
 |a::l=>⟨Ip a,CC l⟩
def JM (a:AV):mL a a:=by
 cases a<;>simp only[mL]<;>first|exact sV _|exact CC _|exact yJ _
theorem kL : ∀{l l':List AV},l=l'->dZ l l'
 |[],_,rfl=>trivial
 |a::l,_,rfl=>⟨JM a,kL rfl⟩
def zH (a b:St):dG [.int a.cls,.str a.name,.int a.pos] [.int b.cls,.str b.name,.int b.pos]=decide (a=b):=by
 obtain⟨c,d,e⟩:=a;obtain⟨f,g,h⟩:=b;by_cases i:c=f<;>by_cases j:d=g<;>by_cases k:e=h<;>simp[dG,qY,i,j,k]
def Hh (a b:Ln):dG [.int a.cls,.int a.found] [.int b.cls,.int b.found]=decide (a=b):=by
 obtain⟨c,d⟩:=a;obtain⟨e,f⟩:=b;by_cases g:c=e<;>by_cases h:d=f<;>simp[dG,qY,g,h]
def Lk (a b:V):dG [.int a.k,.int a.n] [.int b.k,.int b.n]=decide (a=b):=by
 obtain⟨c,d⟩:=a;obtain⟨e,f⟩:=b;by_cases g:c=e<;>by_cases h:d=f<;>simp[dG,qY,g,h]
def LV (a b:Ins):dG [.int a.op,.int a.a,.int a.b,.int a.c,.str a.name] [.int b.op,.int b.a,.int b.b,.int b.c,.str b.name]=decide (a=b):=by
 obtain⟨d,e,f,g,h⟩:=a;obtain⟨i,j,k,l,m⟩:=b;by_cases n:d=i<;>by_cases o:e=j<;>by_cases p:f=k<;>by_cases q:g=l<;>by_cases r:h=m<;>simp[dG,qY,n,o,p,q,r]
inductive H9 (ρ σ:Type):Type where
 |ret (r:ρ)
 |next (s:σ)
def j4 {α:Type} (l:List α) (i:Int):Option α:=bif decide (0<=i) then l[i.toNat]? else none
def lv (s:ByteArray) (i:Int):Option UInt8:=bif decide (0<=i) then s[i.toNat]? else none
def l6 {α:Type} {l:List α} {i:Int} {x:α} (h:j4 l i=some x):0<=i/\l[i.toNat]?=some x:=by
 unfold j4 at h;by_cases a:0<=i
 ·rw[My a] at h;exact⟨a,h⟩
 ·rw[Mx a] at h;cases h
def D9 {α:Type} (l:List α) (k:Nat):j4 l (k:Int)=l[k]?:=by
 unfold j4;rw[My (Int.natCast_nonneg k)];rfl
def fZ {α:Type} {l:List α} {i:Int} {x:α} (h:j4 l i=some x):0<=i/\i<l.length:=by
 obtain⟨a,b⟩:=l6 h;have:=(Lx.1 b).1;exact⟨a,d9⟩
def M6 {α b:Type} {x:Option α} {f:α->Option b} {r:b} (h:x.bind f=some r):∃a,x=some a/\f a=some r:=by
 cases x with
 |none=>cases h
 |some a=>exact⟨a,rfl,h⟩
def Le {a:Type} {b:Bool} {x y:Option a} {r:a} (h:(bif b then x else y)=some r) {X Y:Prop} (c:b=true->x=some r->X) (d:b=false->y=some r->Y):iw.match_1 (motive:=fun _ _ _=>Prop) b X Y (fun X _=>X) (fun _ Y=>Y):=by
 cases b
 ·exact d rfl h
 ·exact c rfl h
def d37 {b:Bool} {X Y:Prop} (a:b=true) (c:X):iw.match_1 (motive:=fun _ _ _=>Prop) b X Y (fun X _=>X) (fun _ Y=>Y):=by subst a;exact c
def nt {b:Bool} {X Y:Prop} (a:b=false) (c:Y):iw.match_1 (motive:=fun _ _ _=>Prop) b X Y (fun X _=>X) (fun _ Y=>Y):=by subst a;exact c
def iz {a:Type} {b:Bool} {x:Option a} {r:a} (h:(bif b then x else none)=some r):b=true/\x=some r:=by
 cases b
 ·cases h
 ·exact⟨rfl,h⟩
def ly (p:ByteArray×Bool):AV×AV:=(.str p.1,.bool p.2)
def fo {α:Type} [DecidableEq α] (k:α):List (α×Bool)->Bool
 |[]=>false
 |p::l=>if k=p.1 then p.2 else fo k l
def eF {α:Type} [DecidableEq α] (k:α) (b:Bool):List (α×Bool)->List (α×Bool)
 |[]=>[(k,b)]
 |p::l=>if k=p.1 then(k,b)::l else p::eF k b l
theorem y6 {α:Type} [DecidableEq α] (k:α) (b:Bool):∀l:List (α×Bool),(eF k b l).length<=l.length+1
 |[]=>It _
 |p::l=>by
  rw[eF];split
  ·simp
  ·simpa using y6 k b l
theorem yM {α:Type} [DecidableEq α] {f:α->AV} (c:∀a b,qM (f a) (f b)=some (decide (a=b))) (k:α) (b:Bool):∀(l:List (α×Bool)) (i:Nat),∃r,iv (f k) (l.map fun p=>(f p.1,.bool p.2)) i=some r /\
  (match r with|none=>AV.bool false|some p=>p.2)=.bool (fo k l)/\∀pre:List (AV×AV),pre.length=i->mD (f k) (.bool b) (pre++l.map fun p=>(f p.1,.bool p.2)) r=pre++(eF k b l).map fun p=>(f p.1,.bool p.2)
 |[],i=>⟨none,rfl,rfl,fun pre _=>by simp[mD,eF]⟩
 |p::l,i=>by
  obtain⟨r,e,g,j⟩:=yM c k b l (i+1);by_cases h:k=p.1
  ·refine⟨some (i,.bool p.2),by simp[iv,c,h],by simp[fo,h],fun pre d=>?_⟩;subst d;simp[mD,eF,h]
  ·refine⟨r,by simp[iv,c,h,e],by simp only[fo,Mt h];exact g,fun pre d=>?_⟩;have:=j (pre++[(f p.1,.bool p.2)]) (by simp[d]);simp only[eF,Mt h,ML,MO,List.singleton_append] at this⊢;exact this
def Lg {m:List (ByteArray×Bool)} {k:ByteArray} {A B C D:Prop} (a:A) (b:B) (c:C) (d:D) {K:AV->Prop} (H:K (.bool (fo k m))) :
  A/\B/\C/\D/\∃r,iv (.str k) (m.map ly) 0=some r/\∀q,q=(match r with|none=>AV.bool false|some p=>p.2)->K q:=by
 obtain⟨r,e,g,_⟩:=yM (f:=AV.str) (fun _ _=>rfl) k false m 0;exact⟨a,b,c,d,r,e,fun q h=>by rw[h,g];exact H⟩
def Hf {m:List (ByteArray×Bool)} {k:ByteArray} {v:Bool} {A B:Prop} (a:A) (b:B) (g:IN (m.length+1) 140737488355328=true) {K:List (AV×AV)->Prop} (H:K ((eF k v m).map ly)) :
  A/\B/\∃r,iv (.str k) (m.map ly) 0=some r/\(mD (.str k) (.bool v) (m.map ly) r).length<=maxLen/\∀q,q=mD (.str k) (.bool v) (m.map ly) r->K q:=by
 obtain⟨r,d,_,c⟩:=yM (f:=AV.str) (fun _ _=>rfl) k v m 0;have c:=c [] rfl;have e:mD (.str k) (.bool v) (m.map ly) r=(eF k v m).map ly:=c;refine⟨a,b,r,d,?_,fun q h=>by rw[h,e];exact H⟩;rw[e,MP];have:=y6 k v m;have:=MR g;simp only[maxLen];omega
section
variable {α:Type} {enc:α->List AV}
def O1 {l:List α} {K:Nat->Prop} (H:l.length<=maxLen->K l.length):∀n:Nat,n=(l.map enc).length->n<=maxLen->K n:=fun n e h=>by
 rw[MP] at e;subst e;exact H h
def H5 {l:List α} {i:Int} {x:α} (h:j4 l i=some x) {K:List AV->Prop} (H:K (enc x)):0<=i/\i<((l.map enc).length:Int)/\∀a,(l.map enc)[i.toNat]?=some a->cc a->K a:=by
 obtain⟨c,d⟩:=l6 h;refine⟨c,by rw[MP];exact(fZ h).2,fun a b _=>?_⟩;rw[Mb,d] at b;cases b;exact H
def W9 {l:List α} {k:Nat} {x:α} (h:l[k]?=some x) {K:List AV->Prop} (H:K (enc x)):0<=(k:Int)/\(k:Int)<((l.map enc).length:Int)/\∀a,(l.map enc)[k]?=some a->cc a->K a :=
 H5 (i:=(k:Int)) (by rw[D9];exact h) H
def X8 {l:List α} {i:Int} {x:α} (h:j4 l i=some x) {K:Prop} (H:K):0<=i/\i<((l.map enc).length:Int)/\K :=
 ⟨(l6 h).1,by rw[MP];exact(fZ h).2,H⟩
def K6 {l:List α} {i:Nat} {x:α} (h:l[i]?=some x) {K:List AV->Prop} (H:K (enc x)):i<(l.map enc).length/\∀a,(l.map enc)[i]?=some a->K a:=by
 refine⟨by rw[MP];exact(Lx.1 h).1,fun a b=>?_⟩;rw[Mb,h] at b;cases b;exact H
def DA {l:List α} {i:Nat} {x c:α} {b:List AV} (h:l[i]?=some x) (d:iU b (enc c)):bz ((l.map enc).set i b) ((l.set i c).map enc):=by
 induction l generalizing i with
 |nil=>simp at h
 |cons a l ih =>
  cases i with
  |zero=>exact⟨d,Q8 _⟩
  |succ i=>exact⟨sV _,ih (by simpa using h)⟩
def Ir {ls c q d:List (List AV)} (h:bz ls q) (e:bz c d):bz (ls++c) (q++d):=by
 induction ls generalizing q with
 |nil=>cases q with
  |nil=>exact e
  |cons=>exact h.elim
 |cons a ls ih=>cases q with
  |nil=>exact h.elim
  |cons b q=>exact⟨h.1,ih h.2⟩
def vR {l l2:List α} {a:List (List AV)} (b:bz a (l2.map enc)):bz (l.map enc++a) ((l++l2).map enc):=by
 rw[List.map_append];exact Ir (Q8 _) b
def Ij {n:Nat} {z:List AV} {x:α} (h:iU z (enc x)):bz (MC n z) ((MC n x).map enc):=by
 induction n with
 |zero=>trivial
 |succ n ih=>exact⟨h,ih⟩
def ES {l l2:List α} {a:List (List AV)} {B C:Nat} (d:IN ((l.length+l2.length)*B) C=true) (b:bz a (l2.map enc)) {K:List (List AV)->Prop} (H:K ((l++l2).map enc)) :
  ((l.map enc).length+a.length)*B<=C/\∃q,bz (l.map enc++a) q/\K q:=by
 have c:=(yY b).1;rw[MP] at c;refine⟨?_,_,vR b,H⟩;rw[MP,c];exact MR d
def IY {α:Type} {enc:α->List AV} (l:List α) (n:Nat):bz ((l.map enc).drop n) ((l.drop n).map enc):=by
 rw[List.map_drop];exact Q8 _
def mN {a:Int} {B:Int} {z:List AV} {x:α} (b:(decide (0<=a) && decide (a<=140737488355328) && decide (a*B<=140737488355328))=true) (c:iU z (enc x)) {K:List (List AV)->Prop} (H:K ((MC a.toNat x).map enc)) :
  a=a/\0<=a/\a<=140737488355328/\a*B<=140737488355328/\∃q,bz (MC a.toNat z) q/\K q:=by
 simp only[IT,Mz] at b;exact⟨rfl,b.1.1,b.1.2,b.2,_,Ij c,H⟩
def j8 {l:List α} {b:Int} {X Y:Prop} (a:(decide (0<=b) && decide (b<=(l.length:Int)))=true) (c:X) (d:Y) {K:List (List AV)->Prop} (H:K ((l.take b.toNat).map enc)) :
  X/\Y/\0<=b/\b<=((l.map enc).length:Int)/\∀q,q=(l.map enc).take b.toNat->K q:=by
 simp only[IT,Mz] at a;refine⟨c,d,a.1,by rw[MP];exact a.2,fun q e=>?_⟩;rw[e,<-List.map_take];exact H
def LA {l:List α} {b:Int} {X Y c:Prop} (a:(decide (0<=b) && decide (b<=(l.length:Int)))=true) (d:X) (g:Y) {K:List (List AV)->Prop} (H:K ((l.drop b.toNat).map enc)) :
  X/\Y/\0<=b/\b<=((l.map enc).length:Int)/\(c\/∀q,q=(l.map enc).drop b.toNat->K q):=by
 simp only[IT,Mz] at a;refine⟨d,g,a.1,by rw[MP];exact a.2,.inr fun q e=>?_⟩;rw[e,<-List.map_drop];exact H
def d25 {l:List α} {b:Int} {X Y c K:Prop} (a:(decide (0<=b) && decide (b<=(l.length:Int)))=true) (d:X) (e:Y) (H:c) :
  X/\Y/\0<=b/\b<=((l.map enc).length:Int)/\(c\/K):=by
 simp only[IT,Mz] at a;exact⟨d,e,a.1,by rw[MP];exact a.2,.inl H⟩
end
def AS {s:ByteArray} {i:Int} {u:UInt8} (h:lv s i=some u) {K:UInt8->Prop} (H:K u):0<=i/\i<(s.size:Int)/\∀u,s[i.toNat]?=some u->K u:=by
 unfold lv at h;by_cases a:0<=i
 ·rw[My a] at h;have h:s[i.toNat]?=some u:=h;have hl:i.toNat<s.size:=by
   rcases Nat.lt_or_ge i.toNat s.size with b|b
   ·exact b
   ·rw[getElem?_neg s i.toNat d9] at h;cases h
  exact⟨a,d9,fun d c=>by rw[h] at c;cases c;exact H⟩
 ·rw[Mx a] at h;cases h
def Ht {a b:Int} (c:0<b) (e:b<=4611686018427387904) {K:Prop} (H:K):b≠0/\I1 (a.tmod b)/\K:=by
 refine⟨d9,?_,H⟩;unfold I1;have g:=Int.tmod_lt_of_pos a c;have d:=Int.tmod_lt_of_pos (-a) c;rw[Int.neg_tmod] at d;omega
def Hp {l:List Int} {s:ByteArray} {C:Nat} (a:IN (l.length+s.size) C=true) {K:List (List AV)->Prop} (H:K ((l++eY s).map fun n=>[AV.ik .u8 n])) :
  (l.map fun n=>[AV.ik .u8 n]).length+s.size<=C/\∃q,bz (l.map (fun n=>[AV.ik .u8 n])++(eY s).map fun n=>[AV.ik .u8 n]) q/\K q :=
 ⟨by rw[MP];exact MR a,_,Q8 _,by rw[<-List.map_append];exact H⟩
def EJ {p:Prop} [Decidable p] (h:decide p=true) {K:Prop} (H:K):p/\K:=⟨of_decide_eq_true h,H⟩
def KI {α:Type} {l:List α} {k:Nat} (h:[]=l.drop k):decide ((k:Int)<(l.length:Int))=false:=by
 have:=List.drop_eq_nil_iff.1 h.symm;exact Mx d9
def eK {α:Type} {l r:List α} {k:Nat} {x:α} (h:x::r=l.drop k):l[k]?=some x/\r=l.drop (k+1)/\decide ((k:Int)<(l.length:Int))=true:=by
 have a:(l.drop k)[0]?=some x:=by rw[<-h];rfl
 rw[Md] at a;have a:l[k]?=some x:=a;refine⟨a,?_,My (by have:=(Lx.1 a).1;omega)⟩;have:=congrArg List.tail h;rw[List.tail_drop] at this;exact this
def U9 {α:Type} {l:List α} {k:Nat} {x:α} (h:l[k]?=some x) (hl:l.length<=maxLen):I1 ((k:Int)+1):=xg (Lx.1 h).1 hl
def LX {n:Int} {k:Nat} (h:0=(n-k).toNat):decide ((k:Int)<n)=false:=Mx d9
def d98 {n:Int} {k m:Nat} (h:m+1=(n-k).toNat):m=(n-((k+1:Nat):Int)).toNat/\decide ((k:Int)<n)=true:=⟨d9,My d9⟩
def mA {n:Int} {k:Nat} (h:decide ((k:Int)<n)=true) (a:cc [.int n]):I1 ((k:Int)+1):=by
 have h:=of_decide_eq_true h;have a:I1 n:=a.1;exact⟨d9,by have:=a.2;omega⟩
section
variable {P:Program} {Γ:bD}
theorem j6.AR {c:Code} {ts:Ts} {os:Os} {Q:Qt} {id:Nat} (h:j6 P Γ c ts os fun e d b=>match e with
  |.normal=>Q .normal d b
  |.exit k=>match AT k id with
   |true=>Q .normal d b
   |false=>Q (.exit k) d b
  |.ret=>Q .ret d b):j6 P Γ (.block id c) ts os Q:=by
 refine⟨fun a w r=>wp_block (wp_mono (h.run a w r) fun e s w' ⟨ex,d,b,n,g,l⟩=>?_)⟩
 match e,ex,n,g with
 |.normal,.normal,_,g=>exact⟨.normal,d,b,trivial,g,l⟩
 |.exit i,.exit j,n,g =>
  have o:i=j:=n;subst o;simp only at g;split at g
  ·rename_i m;have q:=MG m;simp only[Exit.inBlock,Mu q];exact⟨.normal,d,b,trivial,g,l⟩
  ·rename_i m;have p:¬i=id:=fun e=>by rw[e] at m;simp at m
   simp only[Exit.inBlock,Mt p];exact⟨.exit i,d,b,rfl,g,l⟩
 |.ret,.ret,_,g=>exact⟨.ret,d,b,trivial,g,l⟩
theorem j6.oU {x y:Code} {ts:Ts} {os:Os} {Q:Qt} (h:∀a:Qt,(∀ts os,j6 P Γ y ts os Q->a .normal ts os)->(∀id ts os,Q (.exit id) ts os->a (.exit id) ts os)->(∀ts os,Q .ret ts os->a .ret ts os)->j6 P Γ x ts os a):j6 P Γ (.seq x y) ts os Q :=
 j6.seq (h _ (fun _ _ h=>h) (fun _ _ _ h=>h) (fun _ _ h=>h))
theorem j6.wm {c:Code} {ts:Ts} {os:Os} {Q:Qt} {b:Nat} (h:∀a:Qt,(∀ts os,Q .normal ts os->a .normal ts os)->(∀ts os,Q .normal ts os->a (.exit b) ts os)->(∀id ts os,AT id b=false->Q (.exit id) ts os->a (.exit id) ts os)->(∀ts os,Q .ret ts os->a .ret ts os)->j6 P Γ c ts os a):j6 P Γ (.block b c) ts os Q :=
 j6.AR (h _ (fun _ _ h=>h) (fun _ _ h=>by simpa using h) (fun id _ _ d h=>by simp only[d];exact h) (fun _ _ h=>h))
def JQ {ι:Type} (St:ι->Ts) (a:ι->Os) (p:ι->Prop):Qt:=fun _ ts os=>∃i b,p i/\da ts os (St i) (a i) b
theorem j6.jH {ι:Type} (St:ι->Ts) (k:ι->Os) {c:Code} {ts:Ts} {os:Os} {Q:Qt} (h:∀j:Qt,(∀d b,Z8 Γ d b (JQ St k fun _=>True)->j .normal d b)->(∀id ts os,Q (.exit id) ts os->j (.exit id) ts os)->(∀ts os,Q .ret ts os->j .ret ts os)->j6 P Γ c ts os j)
  (s:∀i,((St i).all fun p=>Nat.blt p.1 Γ.n)=true) (q:∀i,Q .normal (St i) (k i)):j6 P Γ c ts os Q :=
by
 have h:=h (fun e d b=>match e with
  |.normal=>Z8 Γ d b (JQ St k fun _=>True)
  |.exit id=>Q (.exit id) d b
  |.ret=>Q .ret d b) (fun _ _ h=>h) (fun _ _ _ h=>h) (fun _ _ h=>h)
 refine⟨fun a w t=>wp_mono (h.run a w t) fun e o w' ⟨ex,d,b,l,g,m⟩=>?_⟩;cases ex with
 |normal =>
  obtain⟨x,v,⟨i,y,_,u⟩,r⟩:=Z8.run g o w' m;exact⟨.normal,_,_,l,q i,u.rel (s i) r⟩
 |exit id=>exact⟨.exit id,d,b,l,g,m⟩
 |ret=>exact⟨.ret,d,b,l,g,m⟩
def d26 : Ts->Ts->Prop
 |[],_=>True
 |(t,a)::r,ts=>lk ts t=some a/\d26 r ts
theorem Ah {ts:Ts}:∀{a:Ts},d26 a ts->∀t x,lk a t=some x->lk ts t=some x
 |(k,y)::r,h,t,x,hl=>by
  rw[l9] at hl;split at hl
  ·rename_i e;subst e;cases hl;exact h.1
  ·exact Ah h.2 t x hl
theorem E8.af {ts h:Ts} {os g:Os} {a:Act} {w:World} (p:d26 h ts) (n:jc g os) (r:E8 Γ ts os a w):E8 Γ h g a w:=by
 obtain⟨c,⟨i,j,k,l,d⟩,m⟩:=r;have e:=sY n;exact⟨c,⟨i,j,fun t x hl=>k t x (Ah p t x hl),l.sub e,⟨d.cq,d.tape,d.output,d.size,d.aw,d.ar,d.af,fun id o b hl q=>d.bA _ _ b (e id o hl) q⟩⟩,m⟩
def fm {tab:U2} {b:List ResultVar} {ts:Ts} {os:Os} {av:AV} {upd:Os} {news:List Nat} {a:List (Nat×Nat)} {r:List AV} (c:o0 tab ts os b=some r:=by rfl) (d:mL (zD r) (av.bY (rn a)):=by repeat (first|exact trivial|exact rfl|(refine AN ?_ ?_))) (e:qQ (rn a) os upd:=by repeat (first|exact trivial|exact rfl|(refine AN ?_ ?_)))
  (g:tT (rn a) upd=true:=by rfl) (h:d22 a=true:=by rfl) (j:(upd.all fun p=>news.elem p.1 || IN Go.Proofs.YtibjcppjfkamhaaGreatDoor.top p.1)=true:=by rfl) (k:(av.ids.all fun i=>(lk upd i).isSome || IN Go.Proofs.YtibjcppjfkamhaaGreatDoor.top i)=true:=by rfl)
  (l:(upd.all fun p=>p.2.ids.all fun i=>(lk upd i).isSome || IN Go.Proofs.YtibjcppjfkamhaaGreatDoor.top i)=true:=by rfl):Fin tab b ts os av upd news a r:=⟨c,d,e,g,h,j,k,l⟩
section
variable {os:Os} {K:Kt} {f:Nat} {ins ins':List AV} {need upd:Os} {news:List Nat} {av:AV}
def cA (h:Spec P f need ins' av upd news) (b:K av (need.map (·.1)) news upd) (a:dZ ins ins':=by repeat (first|exact trivial|exact rfl|(refine AN ?_ ?_))) (d:jc need os:=by repeat (first|exact trivial|exact rfl|(refine AN ?_ ?_))) (c:(need.all fun p=>kO news p.2.ids)=true:=by rfl):L9 P f ins os K:=L9.a_ h a d c b
def cF (h:Spec P f need ins' av upd news) (b:K av (((cr os ins).2++need).map (·.1)) news (upd++I6 (cr os ins).2)) (a:dZ (cr os ins).1 ins':=by repeat (first|exact trivial|exact rfl|(refine AN ?_ ?_))) (d:jc need os:=by repeat (first|exact trivial|exact rfl|(refine AN ?_ ?_))) (hd:(need.all fun p=>(lk (cr os ins).2 p.1).isNone)=true:=by rfl)
  (c:(need.all fun p=>kO news p.2.ids)=true:=by rfl):L9 P f ins os K:=L9.fz h a d hd c b
def cD (h:Spec P f [] ins' av [] []) (b:K av ((cZ os ins).2.map (·.1)) [] []) (a:dZ (cZ os ins).1 ins':=by repeat (first|exact trivial|exact rfl|(refine AN ?_ ?_))) (c:ns av=true:=by rfl):L9 P f ins os K:=L9.tf h a c b
def qB (h:Spec P f [] ins' av upd news) (d:ln upd) (b:K av ((cZ os ins).2.map (·.1)) news upd) (a:dZ (cZ os ins).1 ins':=by repeat (first|exact trivial|exact rfl|(refine AN ?_ ?_))) (c:qJ av=true:=by rfl):L9 P f ins os K:=L9.tg h a c d b
end
theorem j6.mM {ι:Type} (St:ι->Ts) (l:ι->Os) (m:ι->Nat) {c:Code} {ts:Ts} {os:Os} {Q:Qt} (v:ι) (E:List (Nat×Nat)) (J:da ts os (St v) (l v) E) (H:∀i,((St i).all fun p=>Nat.blt p.1 Γ.n)=true)
  (R:∀i,∀t:Qt,(∀d b,Z8 Γ d b (JQ St l fun j=>m j<m i)->t .normal d b)->(∀id ts os,Q (.exit id) ts os->t (.exit id) ts os)->(∀ts os,Q .ret ts os->t .ret ts os)->j6 P Γ c (St i) (l i) t):j6 P Γ (.loop c) ts os Q:=by
 have D:∀i,j6 P Γ c (St i) (l i) fun e d b=>match e with
   |.normal=>Z8 Γ d b (JQ St l fun j=>m j<m i)
   |.exit id=>Q (.exit id) d b
   |.ret=>Q .ret d b:=fun i=>R i _ (fun _ _ h=>h) (fun _ _ _ h=>h) (fun _ _ h=>h)
 refine⟨fun a w r=>?_⟩;let I:Act->World->Prop:=fun a w=>∃i,E8 Γ (St i) (l i) a w;have A:I a w:=⟨v,J.rel (H v) r⟩;have o:∀a w,∃n,I a w->(∃i,m i=n/\E8 Γ (St i) (l i) a w)/\∀i,E8 Γ (St i) (l i) a w->n<=m i:=by
  intro a w;by_cases u:I a w
  ·obtain⟨i,hi⟩:=u;obtain⟨n,⟨j,G,z⟩,L⟩:=exists_least (p:=fun n=>∃i,m i=n/\E8 Γ (St i) (l i) a w) ⟨m i,i,rfl,hi⟩;exact⟨n,fun _=>⟨⟨j,G,z⟩,fun k N=>L (m k) ⟨k,rfl,N⟩⟩⟩
  ·exact⟨0,fun h=>absurd h u⟩
 refine wp_loop I (fun a w=>Classical.choose (o a w)) A fun a w u=>?_;obtain⟨⟨i,G,z⟩,_⟩:=Classical.choose_spec (o a w) u;refine wp_mono ((D i).run a w z) fun e F w' ⟨ex,d,b,C,q,g⟩=>?_
 match e,ex,C,q with
 |.normal,.normal,_,q =>
  obtain⟨T,S,⟨j,U,O,s⟩,M⟩:=Z8.run q F w' g;have B:=s.rel (H j) M;refine⟨⟨j,B⟩,?_⟩;have:=(Classical.choose_spec (o F w') ⟨j,B⟩).2 j B;omega
 |.exit x,.exit y,C,q=>exact⟨.exit y,d,b,C,q,g⟩
 |.ret,.ret,_,q=>exact⟨.ret,d,b,trivial,q,g⟩
def aT {P:Prop} (h:P:=by repeat (first|exact trivial|exact rfl|(refine AN ?_ ?_))):P:=h
def oI {α:Type} {a b:α} (h:some a=some b):a=b:=Option.some.inj h
mutual
def AV.kh (id sz:Nat) (ls:List (List AV)):AV->AV
 |.aL j=>bif AT j id then .sl sz ls else .aL j
 |.fn f b=>.fn f (AV.ca id sz ls b)
 |.agg b=>.agg (AV.ca id sz ls b)
 |.ab b=>.ab (AV.ca id sz ls b)
 |a=>a
def AV.ca (id sz:Nat) (ls:List (List AV)):List AV->List AV
 |[]=>[]
 |a::l=>a.kh id sz ls::AV.ca id sz ls l
end
mutual
theorem Rd.kh {c c':Ctx} {w:World} {id sz:Nat} {ls:List (List AV)} (b:∀v a,Rd c w v a->Rd c' w v a) (g:∀v,Rd c w v (.aL id)->Rd c' w v (.sl sz ls)):∀(a:AV) {v:Value},Rd c w v a->Rd c' w v (a.kh id sz ls)
 |.aL j,v,h=>by
  unfold AV.kh;cases i:AT j id
  ·exact b _ _ h
  ·have:=MG i;subst this;exact g v h
 |.fn f d,v,h=>by
  obtain⟨us,rfl,e⟩:=h.qZ;exact .fn (y9.ca b g d e)
 |.agg d,v,h=>by
  obtain⟨us,rfl,e⟩:=h.cY;exact .agg (y9.ca b g d e)
 |.ab d,v,h=>by
  obtain⟨us,rfl,e⟩:=h.fy;exact .ab (y9.ca b g d e)
 |.any,_,h=>b _ _ h
 |.int _,_,h=>b _ _ h
 |.ik _ _,_,h=>b _ _ h
 |.bool _,_,h=>b _ _ h
 |.str _,_,h=>b _ _ h
 |.sl _ _,_,h=>b _ _ h
 |.ptr _ _,_,h=>b _ _ h
 |.fp _,_,h=>b _ _ h
 |.db _ _,_,h=>b _ _ h
 |.dV _ _ _,_,h=>b _ _ h
 |.ep _ _ _ _,_,h=>b _ _ h
 |.aP,_,h=>b _ _ h
 |.fR _,_,h=>b _ _ h
 |.ae,_,h=>b _ _ h
 |.aR,_,h=>b _ _ h
 |.mp _,_,h=>b _ _ h
 |.cN _,_,h=>b _ _ h
 |.np _,_,h=>b _ _ h
 |.dr _,_,h=>b _ _ h
 |.ad _,_,h=>b _ _ h
theorem y9.ca {c c':Ctx} {w:World} {id sz:Nat} {ls:List (List AV)} (e:∀v a,Rd c w v a->Rd c' w v a) (d:∀v,Rd c w v (.aL id)->Rd c' w v (.sl sz ls)):∀(b:List AV) {vs:List Value},y9 c w vs b->y9 c' w vs (AV.ca id sz ls b)
 |[],_,.nil=>.nil
 |a::b,_,.cons h t=>.cons (Rd.kh e d a h) (y9.ca e d b t)
end
def Obj.EV (id sz:Nat) (ls:List (List AV)):Obj->Obj
 |.box a e=>.box (AV.ca id sz ls a) e
 |o=>o
def kg (id sz:Nat) (ls:List (List AV)):Ts->Ts
 |[]=>[]
 |(t,a)::r=>(t,a.kh id sz ls)::kg id sz ls r
def jB (id sz:Nat) (ls:List (List AV)):Os->Os
 |[]=>[]
 |(k,o)::r=>(k,o.EV id sz ls)::jB id sz ls r
theorem yb (id sz:Nat) (ls:List (List AV)) (t:Nat):∀ts:Ts,lk (kg id sz ls ts) t=(lk ts t).map (AV.kh id sz ls)
 |[]=>rfl
 |(k,a)::r=>by
  rw[kg,l9,l9,yb id sz ls t r];split<;>rfl
theorem yW (id sz:Nat) (ls:List (List AV)) (t:Nat):∀ts:Os,lk (jB id sz ls ts) t=(lk ts t).map (Obj.EV id sz ls)
 |[]=>rfl
 |(k,a)::r=>by
  rw[jB,l9,l9,yW id sz ls t r];split<;>rfl
theorem E8.ax {ts:Ts} {os:Os} (id:Nat) {sz e:Nat} {ls:List (List AV)} (C:lk os id=some (.row sz ls e)) {a:Act} {w:World} (F:E8 Γ ts os a w):E8 Γ (kg id sz ls ts) ((id,.aF)::jB id sz ls os) a w:=by
 obtain⟨g,⟨O,Q,R,A,S⟩,T⟩:=F;have j:∀i o,lk [(id,Obj.row sz ls e)] i=some o->lk os i=some o:=fun i o hl=>by
  rw[l9] at hl;split at hl
  ·rename_i e1;subst e1;cases hl;exact C
  ·cases hl
 have n:=A.sub j;have L:=aW.freeze n;have m:T9 (g.fz [(id,.row sz ls e)]) w (I6 [(id,.row sz ls e)]++os):=A.frame j L (fun _ h=>(by cases h)) (fun _ _ _ _ _ h=>(by cases h));have J:∀v a,Rd g w v a->Rd (g.fz [(id,.row sz ls e)]) w v a:=fun v a F=>Rd.mono (c:=g) (c':=g.fz [(id,.row sz ls e)]) (fun _ _=>rfl) (fun _ h=>MA h) (fun _ _=>⟨rfl,rfl⟩) F;have I:∀v,Rd g w v (.aL id)->Rd (g.fz [(id,.row sz ls e)]) w v (.sl sz ls):=fun v V=>nP n (j5 _ _ _) V;have k:∀i o,lk ((id,Obj.aF)::jB id sz ls os) i=some o->∃l,lk (I6 [(id,Obj.row sz ls e)]++os) i=some l/\(∀b,aZ (g.fz [(id,.row sz ls e)]) i o b↔aZ (g.fz [(id,.row sz ls e)]) i l b)/\dN (g.fz [(id,.row sz ls e)]) w i o:=fun i o hl=>by
  have U:=hl;rw[l9] at hl;split at hl
  ·rename_i e1;subst e1;cases hl;exact⟨.aF,by simp[I6,j5],fun _=>Iff.rfl,trivial⟩
  ·rename_i e1;rw[yW] at hl;obtain⟨l,s,rfl⟩:=ME.1 hl;have r:lk (I6 [(id,Obj.row sz ls e)]++os) i=some l:=by simp only[I6,List.cons_append,List.nil_append];rw[F7 _ _ e1];exact s
   have u:=m.rep i l r;refine⟨l,r,fun b=>?_,?_⟩
   ·cases l<;>exact Iff.rfl
   ·cases l with
    |box N e2 =>
     obtain⟨us,G,H⟩:=A.rep i _ s;exact⟨us,G,y9.ca J I N H⟩
    |_=>exact u
 refine⟨g.fz [(id,.row sz ls e)],⟨O,Q,fun t x hl=>?_,⟨fun i o hl=>?_,fun i o b hl q=>?_,fun i M o l b E hl D q B=>?_,m.aw⟩,?_⟩,T⟩
 ·rw[yb] at hl;obtain⟨y,X,rfl⟩:=ME.1 hl;obtain⟨v,G,H⟩:=R t y X;exact⟨v,G,Rd.kh J I y H⟩
 ·obtain⟨_,_,_,h⟩:=k i o hl;exact h
 ·obtain⟨z,g1,p,_⟩:=k i o hl;exact m.lt i z b g1 ((p b).1 q)
 ·obtain⟨z,g1,p,_⟩:=k i o hl;obtain⟨o2,Y,Z,_⟩:=k M l D;exact m.sep i M z o2 b E g1 Y ((p b).1 q) ((Z b).1 B)
 ·have d:Inv Γ (g.fz [(id,.row sz ls e)]) w (I6 [(id,.row sz ls e)]++os):=S.post A j L (fun _ h=>(by cases h)) (fun _ _ _ _ x W=>(by cases W));exact⟨d.cq,d.tape,d.output,d.size,d.aw,d.ar,d.af,fun i o b hl q=>by
   obtain⟨z,g1,p,_⟩:=k i o hl;exact d.bA i z b g1 ((p b).1 q)⟩
theorem j6.ax {c:Code} {ts:Ts} {os:Os} {Q:Qt} (id:Nat) {sz e:Nat} {ls:List (List AV)} (b:lk os id=some (.row sz ls e)) (h:j6 P Γ c (kg id sz ls ts) ((id,.aF)::jB id sz ls os) Q):j6 P Γ c ts os Q :=
 ⟨fun a w d=>h.run a w (d.ax id b)⟩
theorem Z8.ax {ts:Ts} {os:Os} {Q:Qt} (id:Nat) {sz e:Nat} {ls:List (List AV)} (b:lk os id=some (.row sz ls e)) (h:Z8 Γ (kg id sz ls ts) ((id,.aF)::jB id sz ls os) Q):Z8 Γ ts os Q :=
 ⟨fun a w c=>h.run a w (c.ax id b)⟩
theorem Z8.bK {ts:Ts} {os:Os} {Q:Qt} (t id sz e:Nat) (hl:lk ts t=some .aP) (b:F9 [id] ts=true) (c:F8 [id] [(id,.row sz [] e)] os=true) (h:Z8 Γ ((t,.aL id)::ts) ((id,.row sz [] e)::os) Q):Z8 Γ ts os Q :=
 ⟨fun a w d=>h.run a w (d.bK t id sz e hl b c)⟩
end
section
open Go.ChangeShapes Go.WideShapes Go.ChangeAt Go.RowKit Go.Deep
def tS (W:World):Ctx:=⟨fun b=>b<W.heap.size,fun _=>0,fun _=>undef⟩
theorem Spec.law {P:Program} {f:Nat} {ins:List AV} (hS:Spec P f [] ins (.bool true) [] []) {W:World} {args:Array Value} (h:y9 (tS W) W args.toList ins) :
  Calls P f args W fun e d=>e=.returned (.bool true)/\Below W.heap.size W d:=by
 have c:∀(id:Nat) (o:Obj),lk ([]:Os) id=some o->False:=fun id o h=>by cases h
 refine(hS.2.2 (tS W) W args ⟨fun id o h=>(c id o h).elim,fun id o b h=>(c id o h).elim,fun id l o m b _ h=>(c id o h).elim,fun b g=>g⟩ h).mono ?_;rintro e d ⟨v,c',rfl,a,j⟩;exact⟨by rw[j.bP],a.cq,a.tape,a.output,a.size,fun k i=>a.af k i fun⟨id,o,h,_⟩=>c id o h⟩
def gb (n:Int):Prop:=I1 n
def tn (s:ByteArray):Prop:=s.size<=maxLen
def okB (_:Bool):Prop:=True
def mP {b:Type} (ok:b->Prop) (l:List b):Prop:=l.length<=maxLen/\∀a∈l,ok a
def gW (_:Int):Nat:=1
def pf (s:ByteArray):Nat:=s.size+1
def FA (_:Bool):Nat:=1
def dp {a:Type} (bk:a->Nat) (l:List a):Nat:=(l.map bk).sum+1
def Cw {b:Type} (bk:b->Nat) (a:b) (l:List b):dp bk (a::l)=bk a+dp bk l:=by simp only[dp,ML,MT];omega
def yU {b:Type} {bk:b->Nat} (h:∀a,1<=bk a) (l:List b):l.length+1<=dp bk l:=by
 induction l with
 |nil=>simp[dp]
 |cons a l ih=>rw[Cw,MB];have:=h a;omega
def KQ {b:Type} {bk:b->Nat} {l:List b} {a:b} (h:a∈l):bk a+1<=dp bk l:=by
 induction l with
 |nil=>cases h
 |cons x l ih =>
  rw[Cw];rcases Ly.1 h with rfl|h
  ·simp only[dp];omega
  ·have:=ih h;omega
def IB {H:Type} {l:List (DataW H)} (h:Rows.uptoSmall H l=true):Rows.uptoBulkAll l<=1048576:=of_decide_eq_true h
structure U7 (P:Program) (t:TypeId) (sz:Nat) {α:Type} (enc:α->List AV) (ok:α->Prop) (bk:α->Nat):Prop where
 out:∀{H:Type} {eH:TypeId×Value->H} {w:World} {sp:Nat->Bool} {held:Bool} {aE:Nat} {cs:List Value} {x:DataW H×List MemPlace},DataW.trod eH P w 0 sp held aE t cs=some x ->
  ∃a:α,H6 (fun b=>b<w.heap.size) w cs (enc a)/\cs.length=sz/\(∀u∈cs,u.oneCell'=true)/\ok a/\bk a<=Rows.uptoBulk x.1
section
variable {P:Program}
theorem U7.int {t:TypeId} (b:P.underlying t=some (.int .i64)):U7 P t 1 fN gb gW:=⟨fun h=>by
 obtain⟨n,rfl,rfl,c⟩:=DataW.trod_int b h;have a:I1 n:=by
  have:IntKind.i64.min<=n/\n<=IntKind.i64.max:=by simpa[Lit.wf] using c
  exact this
 exact⟨n,.cons (.int a) .nil,rfl,by simp[Value.oneCell'],a,It _⟩⟩
theorem U7.str {t:TypeId} (b:P.underlying t=some .string):U7 P t 1 d76 tn pf:=⟨fun h=>by
 obtain⟨s,rfl,rfl,a⟩:=DataW.trod_string b h;exact⟨s,.cons (.str a) .nil,rfl,by simp[Value.oneCell'],a,by simp[pf,Rows.uptoBulk]⟩⟩
theorem U7.bool {t:TypeId} (a:P.underlying t=some .bool):U7 P t 1 (fun b:Bool=>[AV.bool b]) okB FA:=⟨fun h=>by
 obtain⟨b,rfl,rfl⟩:=DataW.trod_bool a h;exact⟨b,.cons (.bool b) .nil,rfl,by simp[Value.oneCell'],trivial,It _⟩⟩
def sa {w:World} {b o:Nat} {v:Value} (h:w.cell? ⟨b,o,none⟩=some v):b<w.heap.size:=by
 unfold World.cell? at h;cases a:w.heap[b]? with
 |none=>rw[a] at h;cases h
 |some x=>exact(Array.getElem?_eq_some_iff.1 a).1
theorem EC {H a:Type} (bk:a->Nat):∀(n:Nat) (g:_root_.Fin n->a) (D:Nat->DataW H),(∀i:_root_.Fin n,bk (g i)<=Rows.uptoBulk (D i))->((List.ofFn g).map bk).sum<=Rows.uptoBulkAll ((List.range n).map D)
 |0,g,D,_=>l8
 |n+1,g,D,h=>by
  have ih:=EC bk n (fun i=>g i.succ) (fun i=>D (i+1)) (fun i=>by simpa using h i.succ);have b:=h 0;rw[List.ofFn_succ,List.range_succ_eq_map];simp only[ML,MT,List.map_map,Rows.uptoBulkAll];have e:(D∘Nat.succ)=fun i=>D (i+1):=rfl;rw[e];have c:bk (g 0)<=Rows.uptoBulk (D 0):=b;omega
theorem U7.slice {t e:TypeId} {sz:Nat} {z:Type} {enc:z->List AV} {ok:z->Prop} {bk:z->Nat} (ht:P.underlying t=some (.slice e)) (Z:P.cellsOf e=sz) (W:0<sz) (L:U7 P e sz enc ok bk) :
  U7 P t 1 (fun l:List z=>[AV.sl sz (l.map enc)]) (mP ok) (dp bk):=⟨fun {H eH w sp U aE d x} h=>by
 rcases open_slice ht h with⟨rfl,rfl⟩|⟨a,len,cap,m,n,D,Pl,rfl,hb,hl,V,M,rfl,hi⟩
 ·refine⟨[],.cons ?_ .nil,rfl,by simp[Value.oneCell'],⟨by simp[maxLen],l8⟩,by simp[dp,Rows.uptoBulk]⟩;exact Rf.sl (A:=none) (c:=0) (ls:=[]) (fun _=>[]) 0 0 l8 (by simp[maxLen]) (fun h=>absurd h l8) (fun i d h=>by simp at h) (fun i d h=>by simp at h) (fun i d h=>by simp at h) (fun i d h=>by simp at h)
 ·have hlm:len<=m:=by rw[M];split<;>omega
  have r:∀i:_root_.Fin len,∃y:z,(∃d:List Value,(H6 (fun b=>b<w.heap.size) w d (enc y)/\d.length=sz/\∀u∈d,u.oneCell'=true)/\∀(j:Nat) (u:Value),d[j]?=some u->w.cell? ((a.add (i*sz)).add j)=some u)/\ok y/\bk y<=Rows.uptoBulk (D i):=by
   intro i;obtain⟨I,C,Q⟩:=hi i d9;obtain⟨y,S,R,B,aS,J⟩:=L.out Q;rw[Z] at C;obtain⟨_,p,k⟩:=World.cells?_some C;refine⟨y,⟨I,⟨S,R,B⟩,fun j u E=>?_⟩,aS,J⟩;rw[k j (by rw[<-p];exact(Lx.1 E).1),E]
  let g:_root_.Fin len->z:=fun i=>(r i).choose;have v:=fun i=>(r i).choose_spec;have p:(List.ofFn g).length=len:=l8;have get:∀(i:Nat) (d:List AV),((List.ofFn g).map enc)[i]?=some d->∃hi:i<len,d=enc (g ⟨i,hi⟩):=by
   intro i d h;rw[Mb,ME] at h;obtain⟨y,B,Y⟩:=h;obtain⟨f,e1⟩:=Lx.1 B;simp only[List.length_ofFn] at f;exact⟨f,by rw[<-Y,<-e1];simp⟩
  have O:0<len->∃b o,a=⟨b,o,none⟩/\b<w.heap.size:=by
   intro N;obtain⟨⟨d,⟨S,R,_⟩,k⟩,_⟩:=v ⟨0,N⟩;have q:=k 0 d[0] (IS d9);have B:((a.add (0*sz)).add 0)=a:=by simp[Addr.add]
   simp only at q;rw[B] at q;have G:a.spot=none:=by
    unfold World.cell? at q;split at q
    ·cases G:a.spot with
     |none=>rfl
     |some s=>rw[G] at q;simp at q
    ·cases q
   obtain⟨b,o,s⟩:=a;simp only at G;subst G;exact⟨b,o,rfl,sa q⟩
  refine⟨List.ofFn g,.cons ?_ .nil,rfl,by simp[Value.oneCell'],⟨by rw[p];omega,fun y hy=>?_⟩,?_⟩
  ·have F:len=((List.ofFn g).map enc).length:=l8;by_cases N:0<len
   ·obtain⟨b,o,T,K⟩:=O N
    suffices key:Rf (fun b=>b<w.heap.size) w (.slice (some a) ((List.ofFn g).map enc).length cap) (.sl sz ((List.ofFn g).map enc)) by
     rw[<-F] at key;exact key
    refine Rf.sl (fun i=>if h:i<len then(v ⟨i,h⟩).1.choose else[]) b o (by rw[<-F];exact hl) V (fun _=>⟨by rw[T],K⟩) (fun i d h=>?_) (fun i d h j u E=>?_) (fun i d h=>?_) (fun i d h u X=>?_)<;>obtain⟨f,rfl⟩:=get i d h
    ·rw[dif_pos f];exact(v ⟨i,f⟩).1.choose_spec.1.2.1
    ·rw[dif_pos f] at E;have:=(v ⟨i,f⟩).1.choose_spec.2 j u E;rw[T] at this;simpa only[gI] using this
    ·rw[dif_pos f];exact(v ⟨i,f⟩).1.choose_spec.1.1
    ·rw[dif_pos f] at X;exact(v ⟨i,f⟩).1.choose_spec.1.2.2 u X
   ·have q:len=0:=d9;subst q;have e0:((List.ofFn g).map enc)=[]:=l8;rw[e0];exact Rf.sl (A:=some a) (c:=cap) (ls:=[]) (fun _=>[]) 0 0 l8 V (fun h=>absurd h l8) (fun i d h=>by simp at h) (fun i d h=>by simp at h) (fun i d h=>by simp at h) (fun i d h=>by simp at h)
  ·obtain⟨i,rfl⟩:=List.mem_ofFn.1 hy;exact(v i).2.1
  ·have:=EC bk len g D fun i=>(v i).2.2;simp only[dp,Rows.uptoBulk];omega⟩
end
def Dd {c:Ctx} {w:World} {v:Value} {a:AV} (h:H6 c.Φ w [v] [a]):Rd c w v a:=by
 cases h with|cons h _=>exact .fz h
end
section
variable {Γ:bD}
def xO {a:Type} {l:List a} {k:Nat} {x:a} (h:l[k]?=some x):l.set k x=l:=by
 apply Mf;intro j;rw[MQ];split
 ·rename_i e;subst e;split
  ·exact h.symm
  ·rw[MV d9]
 ·rfl
theorem H6.oV {Φ:Nat->Prop} {w:World}:∀{vs:List Value} {b:List AV},H6 Φ w vs b->∀(n:Nat) {v:Value} {a:AV},vs[n]?=some v->Rf Φ w v a->H6 Φ w vs (b.set n a)
 |_,_,.nil,n,_,_,h,_=>by simp at h
 |_,_,.cons h t,0,_,_,e,k=>by simp at e;subst e;exact .cons k t
 |_,_,.cons h t,n+1,_,_,e,k=>.cons h (H6.oV t n (by simpa using e) k)
theorem E8.oH {ts:Ts} {os:Os} (r i off j j':Nat) {sz e isz ie:Nat} {ls d:List (List AV)} {q:List AV} {v:Value} (Z:lk os r=some (.row sz ls e)) (X:lk os j=some (.row isz d ie)) (J:lk os j'=some (.eqv j v))
  (hi:ls[i]?=some q) (Y:q[off]?=some (.ad v)) (g:AT r j=false) (m:AT r j'=false) (p:AT j j'=false) {a:Act} {w:World} (B:E8 Γ ts os a w) :
  E8 Γ ts ((r,.row sz (ls.set i (q.set off (.sl isz d))) e)::(j,.aF)::(j',.aF)::os) a w:=by
 have g:=H7 g;have m:=H7 m;have p:=H7 p;refine E8.ghost (need:=[(r,.row sz ls e),(j,.row isz d ie),(j',.eqv j v)]) (upd:=[(r,.row sz (ls.set i (q.set off (.sl isz d))) e),(j,.aF),(j',.aF)]) (news:=[]) [] B ⟨Z,X,J,trivial⟩ rfl rfl rfl fun c aS=>?_;have E:lk [(r,Obj.row sz ls e),(j,.row isz d ie),(j',.eqv j v)] r=some (.row sz ls e):=j5 _ _ _;have C:lk [(r,Obj.row sz ls e),(j,.row isz d ie),(j',.eqv j v)] j=some (.row isz d ie):=by rw[F7 _ _ g,j5]
 have M:lk [(r,Obj.row sz ls e),(j,.row isz d ie),(j',.eqv j v)] j'=some (.eqv j v):=by rw[F7 _ _ m,F7 _ _ p,j5]
 have W:∀x o,lk [(j,Obj.row isz d ie)] x=some o->lk [(r,Obj.row sz ls e),(j,.row isz d ie),(j',.eqv j v)] x=some o:=fun x o h=>by
  obtain⟨rfl,rfl⟩:=eU h;exact C
 have hv:c.hd j=v:=aS.rep j' _ M;have z:Rd c w v (.aL j):=by
  obtain⟨css,N,Q,O⟩:=aS.rep j _ C;obtain⟨A,cap,e1,T,U⟩:=N.head;rw[<-hv,e1];exact .aL (by rw[e1]) T U
 have L:Rf (c.fz [(j,.row isz d ie)]).Φ w v (.sl isz d):=(nP (aS.sub W) (j5 _ _ _) z).rf (by simp[AV.ids]);have qh:∀id,(lk [(r,Obj.row sz (ls.set i (q.set off (.sl isz d))) e),(j,.aF),(j',.aF)] id).isSome=true↔id=r\/id=j\/id=j':=fun id=>by
  rw[l9,l9,l9];by_cases k:r=id<;>by_cases l:j=id<;>by_cases G:j'=id<;>simp[k,l,G,lk]<;>omega
 refine⟨c.fz [(j,.row isz d ie)],⟨rfl,rfl,rfl,It _,fun b h=>.inl h,fun b H=>?_,fun _ _ _=>rfl,fun _ _=>⟨rfl,rfl⟩,⟨fun id o hl=>?_,fun id o b hl f=>?_,fun id id' o o' b t hl K f I=>?_,fun b H=>?_⟩,fun id o b hl f=>?_⟩,fun t' y hy=>(by cases hy)⟩
 ·rcases H with h|⟨id,o,k,l⟩
  ·exact .inl h
  ·obtain⟨rfl,rfl⟩:=eU k;exact .inr (.inr ⟨id,_,C,(qh id).2 (.inr (.inl rfl)),l⟩)
 ·rcases bU hl with⟨rfl,rfl⟩|⟨_,rfl,rfl⟩|⟨_,_,rfl,rfl⟩
  ·obtain⟨css,N,Q,O⟩:=aS.rep id _ E;refine⟨css,N,by simpa using Q,fun n us F D s=>?_⟩;have R:∀{us:List Value} {S:List AV},H6 c.Φ w us S->H6 (c.fz [(j,.row isz d ie)]).Φ w us S:=fun h=>h.mono (fun _ _=>rfl) fun _ h=>.inl h;rw[MQ] at s;split at s
   ·rename_i V;subst V;split at s
    ·cases s;have P:=O i us q D hi;obtain⟨u,v1,v2⟩:=P.get Y;have D:u=v:=by cases v2;rfl
     subst D;exact(R P).oV off v1 L
    ·cases s
   ·exact R (O n us F D s)
  ·trivial
  ·trivial
 ·rcases bU hl with⟨rfl,rfl⟩|⟨_,rfl,rfl⟩|⟨_,_,rfl,rfl⟩
  ·have k:=aS.lt id _ b E f;refine⟨k.1,fun h=>?_⟩;rcases h with h|⟨x,o,l,G⟩
   ·exact k.2 h
   ·obtain⟨rfl,rfl⟩:=eU l;exact aS.sep id x _ _ b g E C f G
  ·exact f.elim
  ·exact f.elim
 ·rcases bU hl with⟨rfl,rfl⟩|⟨_,rfl,rfl⟩|⟨_,_,rfl,rfl⟩<;>rcases bU K with⟨rfl,rfl⟩|⟨_,rfl,rfl⟩|⟨_,_,rfl,rfl⟩<;>first|exact t rfl|exact f.elim|exact I.elim
 ·rcases H with h|⟨id,o,k,l⟩
  ·exact aS.aw b h
  ·obtain⟨rfl,rfl⟩:=eU k;exact(aS.lt id _ b C l).1
 ·rcases bU hl with⟨rfl,rfl⟩|⟨_,rfl,rfl⟩|⟨_,_,rfl,rfl⟩
  ·exact .inr ⟨id,_,E,(qh id).2 (.inl rfl),f⟩
  ·exact f.elim
  ·exact f.elim
theorem j6.oH {P:Program} {c:Code} {ts:Ts} {os:Os} {Q:Qt} (r i off j j':Nat) {sz e isz ie:Nat} {ls m:List (List AV)} {d:List AV} {v:Value} (p:lk os r=some (.row sz ls e)) (n:lk os j=some (.row isz m ie)) (f:lk os j'=some (.eqv j v))
  (hi:ls[i]?=some d) (o:d[off]?=some (.ad v)) (g:AT r j=false) (k:AT r j'=false) (l:AT j j'=false) (h:j6 P Γ c ts ((r,.row sz (ls.set i (d.set off (.sl isz m))) e)::(j,.aF)::(j',.aF)::os) Q):j6 P Γ c ts os Q :=
 ⟨fun a w b=>h.run a w (b.oH r i off j j' p n f hi o g k l)⟩
theorem E8.flat {ts:Ts} {os:Os} (t id k:Nat) {sz e isz ie:Nat} {l:List (List AV×List (List AV))} (hl:lk ts t=some (.cN id)) (N:lk os id=some (.nest sz e isz ie l)) (P:AT k id=false)
  (L:F9 [k] ts=true) (M:F8 [k] [(k,.row sz (dy isz l) e),(id,.aF)] os=true) {a:Act} {w:World} (F:E8 Γ ts os a w) :
  E8 Γ ((t,.aL k)::ts) ((k,.row sz (dy isz l) e)::(id,.aF)::os) a w:=by
 have P:=H7 P;refine E8.ghost (need:=[(id,.nest sz e isz ie l)]) (upd:=[(k,.row sz (dy isz l) e),(id,.aF)]) (news:=[k]) [(t,.aL k)] F ⟨N,trivial⟩ L M (by simp[j5]) fun c aS=>?_;have m:lk [(id,Obj.nest sz e isz ie l)] id=some (.nest sz e isz ie l):=j5 _ _ _;obtain⟨h,z,e1,U,h3,h4,h5⟩:=aS.rep id _ m;have inner:∀p∈Z0 z,∀b,p.1.v.ownBlock=some b->aZ c id (.nest sz e isz ie l) b:=fun p j b d=>by
  refine⟨p.1.v,?_,d⟩;rw[e1];simp only[ec,Ly,MM];obtain⟨q,Q,rfl⟩:=MM.1 j;exact .inr ⟨q,Q,rfl⟩
 have f:∀b,h.v.ownBlock=some b->aZ c id (.nest sz e isz ie l) b:=fun b d=>⟨h.v,by rw[e1];simp[ec],d⟩;let s:Nat->Prop:=fun b=>c.Φ b\/∃p∈Z0 z,p.1.v.ownBlock=some b;let c':Ctx:={ (c.aQ k h.v) with Φ:=s };have B:c'.hd k=h.v:=by simp[c',Ctx.aQ]
 have r:∀b,aZ c id (.nest sz e isz ie l) b->Touch c [(id,.nest sz e isz ie l)] [(k,.row sz (dy isz l) e),(id,.aF)] b:=fun b d=>⟨id,_,m,by rw[F7 _ _ P,j5];rfl,d⟩;have D:∀b,h.v.ownBlock=some b->¬s b:=by
  rintro b d (G|⟨p,j,G⟩)
  ·exact(aS.lt id _ b m (f b d)).2 G
  ·obtain⟨q,Q,rfl⟩:=MM.1 j;exact h5 b q d Q G
 refine⟨c',⟨rfl,rfl,rfl,It _,fun b d=>.inl d,fun b d=>?_,fun _ _ _=>rfl,fun x G=>⟨rfl,?_⟩,⟨fun x o hl=>?_,fun x o b hl g=>?_,fun x x' o o' b C hl O g K=>?_,fun b d=>?_⟩,fun x o b hl g=>?_⟩,fun t' y hy=>?_⟩
 ·rcases d with d|⟨p,j,d⟩
  ·exact .inl d
  ·exact .inr (.inr (r b (inner p j b d)))
 ·have:x≠k:=by simpa using G
  simp[c',Ctx.aQ,this]
 ·rcases cn hl with⟨rfl,rfl⟩|⟨_,rfl,rfl⟩
  ·show O5 s w (c'.hd x) sz (dy isz l) e;rw[B];obtain⟨css,q1,q2,q3⟩:=h3;refine⟨css,q1,by rw[q2];simp only[u6,dy,MP,<-U],fun i us W hu I=>?_⟩;have hz:∃p,z[i]?=some p/\W=p.2.1++[.sl isz p.2.2]:=by
    rw[<-U] at I;simp only[dy,List.map_map] at I;rw[Mb,ME] at I;obtain⟨p,j,rfl⟩:=I;exact⟨p,j,rfl⟩
   obtain⟨p,j,rfl⟩:=hz;have ho:(u6 z)[i]?=some (p.2.1++[.ad p.1.v]):=by simp[u6,j]
   have h0:=q3 i us _ hu ho;have E:(p.1,p.2.2)∈Z0 z:=MM.2 ⟨p,MI j,rfl⟩;obtain⟨T,r1,r2,r3⟩:=h4.1 _ E;have R:Rf s w p.1.v (.sl isz p.2.2):=r1.rf r2 r3 (fun _ d=>.inl d) fun b d=>.inr ⟨_,E,d⟩;have V:H6 s w us (p.2.1++[.ad p.1.v]):=h0.mono (fun _ _=>rfl) fun _ d=>.inl d;have ah:(p.2.1++[AV.ad p.1.v])[p.2.1.length]?=some (.ad p.1.v):=l8;obtain⟨u,u1,u2⟩:=V.get ah;have S:u=p.1.v:=by cases u2;rfl
   subst S;have:=V.oV p.2.1.length u1 R;simpa using this
  ·trivial
 ·rcases cn hl with⟨rfl,rfl⟩|⟨_,rfl,rfl⟩
  ·have g:h.v.ownBlock=some b:=by rw[<-B];exact g
   exact⟨(aS.lt id _ b m (f b g)).1,D b g⟩
  ·exact g.elim
 ·rcases cn hl with⟨rfl,rfl⟩|⟨_,rfl,rfl⟩<;>rcases cn O with⟨rfl,rfl⟩|⟨_,rfl,rfl⟩<;>first|exact C rfl|exact g.elim|exact K.elim
 ·rcases d with d|⟨p,j,d⟩
  ·exact aS.aw b d
  ·exact(aS.lt id _ b m (inner p j b d)).1
 ·rcases cn hl with⟨rfl,rfl⟩|⟨_,rfl,rfl⟩
  ·have g:h.v.ownBlock=some b:=by rw[<-B];exact g
   exact .inr (r b (f b g))
  ·exact g.elim
 ·obtain⟨rfl,rfl⟩:=xP hy;refine⟨_,hl,fun v hv=>?_⟩;obtain⟨A,n,cap,vs,X,H,Y,Z⟩:=hv.ko;rw[e1] at H;have J:h.v=.slice A n cap:=by
   injection H with H
   have:=congrArg (fun a:Array Value=>a.toList.head?) H;simpa using this
  rw[X];exact .aL (by rw[B,J]) Y Z
theorem j6.flat {P:Program} {c:Code} {ts:Ts} {os:Os} {Q:Qt} (t id k:Nat) {sz e isz ie:Nat} {l:List (List AV×List (List AV))} (hl:lk ts t=some (.cN id)) (g:lk os id=some (.nest sz e isz ie l)) (i:AT k id=false)
  (d:F9 [k] ts=true) (f:F8 [k] [(k,.row sz (dy isz l) e),(id,.aF)] os=true) (h:j6 P Γ c ((t,.aL k)::ts) ((k,.row sz (dy isz l) e)::(id,.aF)::os) Q):j6 P Γ c ts os Q :=
 ⟨fun a w b=>h.run a w (b.flat t id k hl g i d f)⟩
theorem E8.bu {ts:Ts} {os:Os} (id:Nat) {sz e:Nat} {ls:List (List AV)} (q:List (List AV)) (f:lk os id=some (.row sz ls e)) (g:bz ls q) {a:Act} {w:World} (d:E8 Γ ts os a w):E8 Γ ts ((id,.row sz q e)::os) a w :=
 E8.ghost (need:=[(id,.row sz ls e)]) (upd:=[(id,.row sz q e)]) (news:=[]) [] d ⟨f,trivial⟩ rfl rfl rfl fun c aS =>
  ⟨c,aW.bu (U:=[]) ⟨rfl,rfl,rfl,It _,fun _ h=>h,fun _ h=>.inl h,fun _ _ _=>rfl,fun _ _=>⟨rfl,rfl⟩,aS,fun i o b hl j=>.inr ⟨i,o,hl,by rw[hl];rfl,j⟩⟩ g,fun l y k=>(by cases k)⟩
theorem j6.bu {P:Program} {c:Code} {ts:Ts} {os:Os} {Q:Qt} (id:Nat) {sz e:Nat} {ls:List (List AV)} (q:List (List AV)) (d:lk os id=some (.row sz ls e)) (f:bz ls q) (h:j6 P Γ c ts ((id,.row sz q e)::os) Q):j6 P Γ c ts os Q :=
 ⟨fun a w b=>h.run a w (b.bu id q d f)⟩
end
def Hj {a:Type} (e:a->List AV):Option a->AV
 |none=>.ae
 |some x=>.fp (e x)
section
variable {Γ:bD}
theorem y9.aQ {c:Ctx} {w:World} {vs:List Value} {d:List AV} {g:Nat} {v:Value} (h:y9 c w vs d) (f:(AV.au d).all (fun i=>!Nat.beq i g)=true):y9 (c.aQ g v) w vs d :=
 y9.mono (c:=c) (c':=c.aQ g v) (fun _ _=>rfl) (fun _ h=>h) (fun id a=>⟨rfl,by
  have:=MK.1 f id a;have b:id≠g:=fun e=>by subst e;simp at this
  simp[Ctx.aQ,b]⟩) h
def cP {a:Type} {l:List a} {k:Nat} {x:a} (h:l[k]?=some x):l.set k x=l:=xO h
theorem E8.eX {ts:Ts} {os:Os} (b off id sz e:Nat) {f:List AV} {j:Nat} (C:lk os b=some (.box f j)) (ah:f[off]?=some .aP) (hi:(AV.au f).all (fun i=>!Nat.beq i id)=true) (l:AT b id=false)
  (r:F9 [id] ts=true) (s:F8 [id] [(b,.box (f.set off (.aL id)) j),(id,.row sz [] e)] os=true) {a:Act} {w:World} (m:E8 Γ ts os a w) :
  E8 Γ ts ((b,.box (f.set off (.aL id)) j)::(id,.row sz [] e)::os) a w:=by
 have l:=H7 l;refine E8.ghost (need:=[(b,.box f j)]) (upd:=[(b,.box (f.set off (.aL id)) j),(id,.row sz [] e)]) (news:=[id]) [] m ⟨C,trivial⟩ r s (by simp[l9,l]) fun c aS=>⟨c.aQ id (.slice none 0 0),?_,fun K y E=>(by cases E)⟩;have u:lk [(b,Obj.box f j)] b=some (.box f j):=j5 _ _ _;have p:(c.aQ id (.slice none 0 0)).hd id=.slice none 0 0:=by simp[Ctx.aQ]
 obtain⟨us,F,G⟩:=aS.rep b _ u;refine aW.same aS rfl (fun i hi=>⟨rfl,by have:i≠id:=(by simpa using hi);simp[Ctx.aQ,this]⟩) (fun x o hl=>?_) (fun x o d hl k=>?_) (fun x L o J d g hl t k q=>?_)
 ·rcases cn hl with⟨rfl,rfl⟩|⟨_,rfl,rfl⟩
  ·refine⟨us,F,?_⟩;have B:=G.aQ (v:=.slice none 0 0) hi;obtain⟨v,H,I⟩:=B.get ah;have D:=I.bL;subst D;have:=B.set off (v:=.slice none 0 0) (a:=.aL id) (.aL (n:=0) (cap:=0) (A:=none) p (It _) (by simp[maxLen]))
   rwa [cP H] at this
  ·exact⟨[],by rw[p];exact⟨.inl ⟨rfl,rfl⟩,l8,l8⟩,rfl,fun i us f h=>by simp at h⟩
 ·rcases cn hl with⟨rfl,rfl⟩|⟨_,rfl,rfl⟩
  ·exact⟨x,_,u,by rw[hl];rfl,k⟩
  ·have k:((c.aQ x (.slice none 0 0)).hd x).ownBlock=some d:=k;rw[p] at k;cases k
 ·have z:∀d,((c.aQ id (.slice none 0 0)).hd id).ownBlock=some d->False:=fun d h=>by rw[p] at h;cases h
  rcases cn hl with⟨rfl,rfl⟩|⟨_,rfl,rfl⟩<;>rcases cn t with⟨rfl,rfl⟩|⟨_,rfl,rfl⟩
  ·exact g rfl
  ·exact z d q
  ·exact z d k
  ·exact g rfl
theorem j6.eX {P:Program} {c:Code} {ts:Ts} {os:Os} {Q:Qt} (b off id sz e:Nat) {d:List AV} {g:Nat} (m:lk os b=some (.box d g)) (ah:d[off]?=some .aP) (hi:(AV.au d).all (fun i=>!Nat.beq i id)=true) (l:AT b id=false)
  (j:F9 [id] ts=true) (k:F8 [id] [(b,.box (d.set off (.aL id)) g),(id,.row sz [] e)] os=true) (h:j6 P Γ c ts ((b,.box (d.set off (.aL id)) g)::(id,.row sz [] e)::os) Q):j6 P Γ c ts os Q :=
 ⟨fun a w f=>h.run a w (f.eX b off id sz e m ah hi l j k)⟩
theorem E8.jM {ts:Ts} {os:Os} (b off j g:Nat) {k:List AV} {m sz e:Nat} {ls:List (List AV)} (G:lk os b=some (.box k m)) (ah:k[off]?=some (.aL j)) (H:lk os j=some (.row sz ls e)) (hi:(AV.au k).all (fun i=>!Nat.beq i g)=true)
  (f:AT b j=false) (q:AT b g=false) (r:AT j g=false)
  (z:F9 [g] ts=true) (B:F8 [g] [(b,.box (k.set off (.aL g)) m),(g,.row sz ls e),(j,.aF)] os=true) {a:Act} {w:World} (t:E8 Γ ts os a w) :
  E8 Γ ts ((b,.box (k.set off (.aL g)) m)::(g,.row sz ls e)::(j,.aF)::os) a w:=by
 have f:=H7 f;have q:=H7 q;have r:=H7 r;refine E8.ghost (need:=[(b,.box k m),(j,.row sz ls e)]) (upd:=[(b,.box (k.set off (.aL g)) m),(g,.row sz ls e),(j,.aF)]) (news:=[g]) [] t ⟨G,H,trivial⟩ z B (by simp[l9,q]) fun c aS=>⟨c.aQ g (c.hd j),?_,fun T y I=>(by cases I)⟩;have D:lk [(b,Obj.box k m),(j,.row sz ls e)] b=some (.box k m):=j5 _ _ _;have E:lk [(b,Obj.box k m),(j,.row sz ls e)] j=some (.row sz ls e):=by rw[F7 _ _ f,j5]
 have u:(c.aQ g (c.hd j)).hd g=c.hd j:=by simp[Ctx.aQ]
 obtain⟨us,O,F⟩:=aS.rep b _ D;have N:O5 c.Φ w (c.hd j) sz ls e:=aS.rep j _ E;refine aW.same aS rfl (fun i hi=>⟨rfl,by have:i≠g:=(by simpa using hi);simp[Ctx.aQ,this]⟩) (fun x o hl=>?_) (fun x o d hl l=>?_) (fun x U o S d s hl C l p=>?_)
 ·rcases bU hl with⟨rfl,rfl⟩|⟨_,rfl,rfl⟩|⟨_,_,rfl,rfl⟩
  ·refine⟨us,O,?_⟩;obtain⟨v,Q,R⟩:=F.get ah;have P:=F.aQ (v:=c.hd j) hi;obtain⟨A,n,cap,J,K,L,M⟩:=R.bJ;have:=P.set off (v:=v) (a:=.aL g) (by rw[J];exact .aL (by rw[u,K]) L M)
   rwa [cP Q] at this
  ·show O5 c.Φ w ((c.aQ x (c.hd j)).hd x) sz ls e;rw[u];exact N
  ·trivial
 ·rcases bU hl with⟨rfl,rfl⟩|⟨_,rfl,rfl⟩|⟨_,_,rfl,rfl⟩
  ·exact⟨x,_,D,by rw[hl];rfl,l⟩
  ·have l:((c.aQ x (c.hd j)).hd x).ownBlock=some d:=l;rw[u] at l;exact⟨j,_,E,by rw[F7 _ _ f,F7 _ _ (Ne.symm r),j5];rfl,l⟩
  ·exact l.elim
 ·have apart:∀d,((c.aQ g (c.hd j)).hd g).ownBlock=some d->d≠c.μ b:=fun d h e=>by
   rw[u] at h;exact aS.sep j b _ _ d (Ne.symm f) E D h e
  rcases bU hl with⟨rfl,rfl⟩|⟨_,rfl,rfl⟩|⟨_,_,rfl,rfl⟩<;>rcases bU C with⟨rfl,rfl⟩|⟨_,rfl,rfl⟩|⟨_,_,rfl,rfl⟩<;>first|exact s rfl|exact l.elim|exact p.elim|exact apart d l p|exact apart d p l
theorem j6.jM {P:Program} {c:Code} {ts:Ts} {os:Os} {Q:Qt} (b off j g:Nat) {d:List AV} {k sz e:Nat} {ls:List (List AV)} (q:lk os b=some (.box d k)) (ah:d[off]?=some (.aL j)) (r:lk os j=some (.row sz ls e)) (hi:(AV.au d).all (fun i=>!Nat.beq i g)=true)
  (n:AT b j=false) (o:AT b g=false) (p:AT j g=false)
  (l:F9 [g] ts=true) (m:F8 [g] [(b,.box (d.set off (.aL g)) k),(g,.row sz ls e),(j,.aF)] os=true) (h:j6 P Γ c ts ((b,.box (d.set off (.aL g)) k)::(g,.row sz ls e)::(j,.aF)::os) Q):j6 P Γ c ts os Q :=
 ⟨fun a w f=>h.run a w (f.jM b off j g q ah r hi n o p l m)⟩
theorem E8.eC {ts:Ts} {os:Os} (id:Nat) {h:List AV} {e:Nat} (b:List AV) (i:lk os id=some (.box h e)) (k:dZ h b) {a:Act} {w:World} (g:E8 Γ ts os a w):E8 Γ ts ((id,.box b e)::os) a w :=
 E8.ghost (need:=[(id,.box h e)]) (upd:=[(id,.box b e)]) (news:=[]) [] g ⟨i,trivial⟩ rfl rfl rfl fun c aS =>
  ⟨c,aW.same aS rfl (fun _ _=>⟨rfl,rfl⟩) (fun x o hl=>by
   obtain⟨rfl,rfl⟩:=eU hl;obtain⟨us,n,p⟩:=aS.rep x _ (j5 _ _ _);exact⟨us,n,rW k p⟩) (fun x o d hl l=>by
   obtain⟨rfl,rfl⟩:=eU hl;exact⟨x,_,j5 _ _ _,by rw[j5];rfl,l⟩) (fun x s o q d f hl j _=>by
   obtain⟨rfl,_⟩:=eU hl;obtain⟨rfl,_⟩:=eU j;exact absurd rfl f),fun r y m=>(by cases m)⟩
theorem j6.eC {P:Program} {c:Code} {ts:Ts} {os:Os} {Q:Qt} (id:Nat) {i:List AV} {e:Nat} (b:List AV) (f:lk os id=some (.box i e)) (g:dZ i b) (h:j6 P Γ c ts ((id,.box b e)::os) Q):j6 P Γ c ts os Q :=
 ⟨fun a w d=>h.run a w (d.eC id b f g)⟩
theorem Z8.eC {ts:Ts} {os:Os} {Q:Qt} (id:Nat) {g:List AV} {e:Nat} (b:List AV) (d:lk os id=some (.box g e)) (f:dZ g b) (h:Z8 Γ ts ((id,.box b e)::os) Q):Z8 Γ ts os Q :=
 ⟨fun a w c=>h.run a w (c.eC id b d f)⟩
end
def bf {a:Type} (p:a->Bool) (d:a) (l:List a):List a×Nat:=match l.findIdx? p with
 |some k=>(l,k)
 |none=>(l++[d],l.length)
def xX {a:Type} {l:List a} {k:Nat} {x:a} (h:l[k]?=some x):l.take (k+1)=l.take k++[x]:=by
 rw[List.take_add_one,h];rfl
def uL (z:List (Hd×List AV×List (List AV))) (x:Hd×List AV×List (List AV)):u6 (z++[x])=u6 z++[x.2.1++[.ad x.1.v]]:=by simp[u6]
def vH (z:List (Hd×List AV×List (List AV))) (x:Hd×List AV×List (List AV)):Z0 (z++[x])=Z0 z++[(x.1,x.2.2)]:=by simp[Z0]
def jb {z:List (Hd×List AV×List (List AV))} {a:Type} {l:List a} {f:a->List AV×List (List AV)} (h:z.map (·.2)=l.map f):z.length=l.length:=by
 have:=congrArg List.length h;simpa using this
def fw {a:Type} (p:a->Bool) (l:List a):Int:=match l.findIdx? p with
 |some i=>i
 |none=>-1
def nV {a:Type} (p:a->Bool) (x:a) (l:List a):(x::l).findIdx? p=if p x=true then some 0 else(l.findIdx? p).map (·+1):=by
 rw[List.findIdx?_cons]
def vZ {a:Type} (p:a->Bool) (l:List a):(∃(k:Nat) (x:a),fw p l=(k:Int)/\l[k]?=some x/\p x=true/\l.findIdx? p=some k)\/(fw p l=-1/\l.findIdx? p=none):=by
 unfold fw;cases h:l.findIdx? p with
 |none=>exact .inr ⟨rfl,rfl⟩
 |some k =>
  obtain⟨b,c,_⟩:=List.findIdx?_eq_some_iff_getElem.1 h;exact .inl ⟨k,l[k],rfl,IS b,c,rfl⟩
theorem List.ai {a:Type}:∀{l:List a} {n:Nat} (h:n<l.length),(l[n]::l.eraseIdx n).Perm l
 |x::l,0,_=>.refl _
 |x::l,n+1,h=>by
  have ih:=List.ai (l:=l) (n:=n) (by simpa using h);exact(List.Perm.swap x _ _).trans (ih.cons x)
def xF {a:Type} {l:List a} {k:Nat} {x:a} (h:l[k]?=some x) {f:a->a}:l.modify k f=l.set k (f x):=by
 apply Mf;intro j;rw[List.getElem?_modify,MQ];split
 ·rename_i e;subst e;rw[h,Mu (Lx.1 h).1];rfl
 ·cases l[j]?<;>rfl
theorem set_perm {b:Type}:∀{l:List b} {k:Nat} {a:b},k<l.length->(l.set k a).Perm (a::l.eraseIdx k)
 |x::l,0,a,_=>.refl _
 |x::l,k+1,a,h=>((set_perm (l:=l) (k:=k) (a:=a) (by simpa using h)).cons x).trans (List.Perm.swap _ _ _)
def Dw {a c:Type} {z:List (Hd×c)} {l:List a} {f:a->c} (h:z.map (·.2)=l.map f) {k:Nat} {x:a} (i:l[k]?=some x):∃g,z[k]?=some (g,f x):=by
 have:(z.map (·.2))[k]?=some (f x):=by rw[h];simp[i]
 rw[Mb,ME] at this;obtain⟨⟨g,b⟩,d,e⟩:=this;exact⟨g,by rw[d,<-e]⟩
end Go.Proofs.YtibjcppjfkamhaaGreatDoor
