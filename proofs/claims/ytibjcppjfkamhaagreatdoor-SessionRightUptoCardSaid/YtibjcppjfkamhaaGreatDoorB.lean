import Derived.Orders
import Derived.Still
import Derived.Test.YtibjcppjfkamhaaGreatDoorProg
import Derived.KernelRfl
import Derived.Test.YtibjcppjfkamhaaGreatDoorRows
import Derived.Deep.Slices
import Derived.JoinedCond
import Derived.Test.YtibjcppjfkamhaaGreatDoorA
set_option linter.unusedVariables false
set_option linter.defProp false
set_option linter.unusedSimpArgs false
namespace Go.Proofs.YtibjcppjfkamhaaGreatDoor
open Go.RowKit Go.Proofs.Tryz
open _root_.And renaming intro->AN
open _root_.Bool renaming and_eq_true->IT,not_true->MH
open _root_.ByteArray renaming empty->BY
open _root_.List renaming getElem?_eq_getElem->IS,getElem?_eq_some_iff->ME,mem_cons->MG,replicate->MI,map->MJ,length_append->MK,length_cons->ML,mem_of_getElem?->MP,all_eq_true->MR,map_cons->MS,mem_append->MT,mem_map->MU,append_assoc->MV,length_map->MW,getElem?_set->MY,getElem?_append_right->Ma,sum_cons->Mb,length_set->Mc,getElem?_eq_none->Md,mem_singleton->Mh,getElem?_map->Mj,getElem?_drop->Mm,ext_getElem?->Mn,getElem?_append_left->Mp,length_take->Mq,mem_cons_of_mem->Mr,getElem?_take->Mu,length_singleton->Mx,getElem?_cons_zero->My
open _root_.Nat renaming beq->AT,ble->IN,le_refl->It,eq_of_beq_eq_true->MN,blt->MX,le_of_ble_eq_true->MZ,zero_add->Mi,add_assoc->Mo,mul_le_mul_right->Mt
open _root_.Option renaming map_eq_some_iff->MM,map_some->Mf
open _root_.Or renaming inl->MF
abbrev bz := List (Nat×Nat×TypeId)
abbrev Hs := List (Nat×Nat×Nat)
theorem aS.mk' {c c':Ctx} {w w':World} {need upd:Os} {news:List Nat} (aO:Q5 c w need) (d:c'.Φ=c.Φ) (cX:w'.os=w.os) (tape:w'.tape=w.tape) (output:w'.output=w.output) (size:w.heap.size<=w'.heap.size)
  (ab:∀b,b<w.heap.size->¬Touch c need upd b->w'.heap[b]?=w.heap[b]?) (ctx:∀id,id ∉ news->c'.μ id=c.μ id/\c'.hd id=c.hd id) (rep:∀id o,lk upd id=some o->dH c' w' id o)
  (az:∀id o b,lk upd id=some o->aW c' id o b->(w.heap.size<=b/\b<w'.heap.size)\/Touch c need upd b)
  (sep:∀id e o f b,id≠e->lk upd id=some o->lk upd e=some f->aW c' id o b->¬aW c' e f b):aS c w c' w' need upd news:=by
 refine⟨cX,tape,output,size,fun b a=>by rw[d];exact a,fun b a=>.inl (by rw[d] at a;exact a),ab,ctx,⟨rep,fun id o b hl g=>?_,sep,fun b a=>?_⟩,fun id o b hl g=>(az id o b hl g).imp (·.1) (fun h=>h)⟩
 ·rw[d];rcases az id o b hl g with h|⟨i,f,j,_,k⟩
  ·exact⟨h.2,fun a=>by have:=aO.aq b a;omega⟩
  ·have:=aO.lt i f b j k;exact⟨d9,this.2⟩
 ·rw[d] at a;have:=aO.aq b a;omega
def fj : Hs->Nat->Option (Nat×Nat)
 |[],_=>none
 |(i,o,x)::r,off=>bif AT o off then some (i,x) else fj r off
def eD : Hs->Nat->Hs
 |[],_=>[]
 |(i,o,x)::r,off=>bif AT o off then eD r off else(i,o,x)::eD r off
def nv : Hs->Bool
 |[]=>true
 |(_,o,_)::r=>(fj r o).isNone && nv r
def Cb {d:Hs} {off:Nat} (h:fj d off=none):∀i,¬eW d i off:=by
 rintro i ⟨x,b⟩
 induction d with
 |nil=>cases b
 |cons p r ih =>
  obtain⟨a,o,y⟩:=p;rw[fj] at h;cases c:AT o off with
  |true=>rw[c] at h;cases h
  |false =>
   rw[c] at h;rcases MG.1 b with e|b
   ·cases e;simp at c
   ·exact ih h b
def xk {c:Hs} {off i x:Nat} (h:fj c off=some (i,x)):(i,off,x)∈c:=by
 induction c with
 |nil=>cases h
 |cons p r ih =>
  obtain⟨a,o,y⟩:=p;rw[fj] at h;cases b:AT o off with
  |true=>rw[b] at h;cases h;rw[MN b];simp
  |false=>rw[b] at h;exact Mr _ (ih h)
def nW {g:Hs} {off i o x:Nat}:(i,o,x)∈eD g off↔(i,o,x)∈g/\o≠off:=by
 induction g with
 |nil=>simp[eD]
 |cons p r ih =>
  obtain⟨a,h,y⟩:=p;rw[eD];cases d:AT h off with
  |true =>
   have:=MN d;subst this;simp only[Mz,ih,MG,Prod.mk.injEq];constructor
   ·exact fun⟨b,c⟩=>⟨.inr b,c⟩
   ·rintro⟨⟨_,b,_⟩|b,c⟩
    ·exact absurd b c
    ·exact⟨b,c⟩
  |false =>
   have f:h≠off:=fun e=>by rw[e] at d;simp at d
   simp only[N0,MG,ih,Prod.mk.injEq];constructor
   ·rintro(⟨rfl,rfl,rfl⟩|⟨b,c⟩)
    ·exact⟨.inl ⟨rfl,rfl,rfl⟩,f⟩
    ·exact⟨.inr b,c⟩
   ·rintro⟨b|b,c⟩
    ·exact .inl b
    ·exact .inr ⟨b,c⟩
def CV {d:Hs} (f:nv d=true) {off i x g j:Nat} (h:fj d off=some (i,x)) (b:(g,off,j)∈d):g=i/\j=x:=by
 induction d with
 |nil=>cases b
 |cons p r ih =>
  obtain⟨a,o,y⟩:=p;simp only[nv,IT] at f;rw[fj] at h;cases c:AT o off with
  |true =>
   rw[c] at h;cases h;have:=MN c;subst this;rcases MG.1 b with e|b
   ·cases e;exact⟨rfl,rfl⟩
   ·have:=Cb (by simpa using f.1) g ⟨j,b⟩;exact this.elim
  |false =>
   rw[c] at h;rcases MG.1 b with e|b
   ·cases e;simp at c
   ·exact ih f.2 h b
def xa (css:List (List Value)) (a:bz) (b:Hs):∃L:List Value,∀v,v∈L↔∃i off,bN css a b i off v:=by
 classical
 refine⟨css.flatten.filter fun v=>decide (∃i off,bN css a b i off v),fun v=>?_⟩;rw[List.mem_filter,NA];refine⟨fun h=>h.2,fun h=>⟨?_,h⟩⟩;obtain⟨i,off,us,p,c,_,d,_⟩:=h;exact List.mem_flatten.2 ⟨us,MP c,MP d⟩
def nX (L:List Value):eZ (.tuple L.toArray)=L:=by simp[eZ]
def dC (b:bz):List AV->Nat->List AV
 |[],_=>[]
 |a::l,o=>(match lk b o with|some _=>AV.any|none=>a)::dC b l (o+1)
theorem d96 {Φ:Nat->Prop} {w:World} {b:bz}:∀{c:List AV} {us:List Value} (o:Nat),us.length=c.length->(∀off u a,us[off]?=some u->c[off]?=some a->lk b (o+off)=none->Rf Φ w u a)->H5 Φ w us (dC b c o)
 |[],[],_,_,_=>.nil
 |a::c,u::us,o,hl,h=>by
  rw[dC];refine .cons ?_ (d96 (o+1) (by simpa using hl) fun off u a d e f=>h (off+1) u a (by simpa using d) (by simpa using e) (by rw[<-f];congr 1;omega));split
  ·exact .any u
  ·rename_i g;exact h 0 u a rfl rfl (by simpa using g)
 |[],_::_,_,h,_=>by cases h
 |_::_,[],_,h,_=>by cases h
theorem dc.jw {Φ:Nat->Prop} {hd:Nat->Value} {w:World} {b:bz} {k:Hs} {l:List (List AV)} {css:List (List Value)} (h:dc Φ hd w b k l css) {i:Nat} {us:List Value} {c:List AV} (d:css[i]?=some us) (e:l[i]?=some c):H5 Φ w us (dC b c 0) :=
 d96 0 (h.cell i us c d e).1 fun off u a f g j=>(h.cell i us c d e).2 off u a f g (by simpa using j)
section
variable {P:Program} {tab:R9} {o:Oper} {ev:Ev} {os:Os} {K:Kt}
def yo (os:Os) (x:AV) (K:Kt):Prop :=
 match x with
 |.aK id=>match lk os id with
  |some (.deep _ _ _ l _ _)=>∀n:Nat,n=l.length->n<=maxLen->K (.int n) [id] [] []
  |_=>False
 |_=>False
def pj {c:Ctx} {w:World} {id sz e sh:Nat} {a:bz} {l:List (List AV)} {k:Hs} {v:Value} (b:dH c w id (.deep sz e a l k sh)) (r:Rd c w v (.aK id)):∃A cap,v=.slice A l.length cap/\c.hd id=.slice A l.length cap/\l.length<=cap/\cap<=maxLen:=by
 obtain⟨A,n,cap,e1,f,i,j⟩:=r.bF;obtain⟨css,m,p,y,z⟩:=b;obtain⟨q,d,g,u,x⟩:=m.head;rw[f] at g;injection g with s h t
 have:n=l.length:=by rw[h,p.len]
 subst this;exact⟨A,cap,e1,f,i,j⟩
def KR (k:M9 P tab) {x:Operand} {t:TypeId} {ti:TI} (hl:lk tab t=some ti) (m:ti.kind=2) (j:o.op=.call { callee:=.builtin .len,args:=#[x],argTypes:=#[t] }) (h:yo os (ev x) K):Y6 P o ev os K:=by
 unfold yo at h;split at h
 ·rename_i id s;split at h
  ·rename_i sz e d l n sh f;have q:=(k t ti hl).af m;have get:∀(c:Ctx) (w:World) (b:Operand->Value),dH c w id (.deep sz e d l n sh)->(∀z∈o.op.operands.toList,Rd c w (b z) (ev z))->∃A cap,b x=.slice A l.length cap/\l.length<=maxLen:=fun c w b a g=>by
    have r:=g x (by simp[j,Op.operands,Go.Call.operands]);rw[s] at r;obtain⟨A,cap,e1,_,u,v⟩:=pj a r;exact⟨A,cap,e1,d9⟩
   refine .have (p:=l.length<=maxLen) (fun c w b aO g=>?_) fun i=>.read f (fun c w b a g=>?_) (h _ rfl i)
   ·obtain⟨A,cap,_,i⟩:=get c w b (aO.rep id _ f) g;exact i
   ·obtain⟨A,cap,e1,_⟩:=get c w b a g;exact⟨_,by simp[execOp,j,resolve,invoke,builtin,Builtin.len_,run_underlying q,e1,goInt],.fz (.int (po i))⟩
  ·exact h.elim
 ·exact h.elim
def we (tab:R9) (os:Os) (t:TypeId) (x i:AV) (K:Kt):Prop :=
 match lk tab t,x,i with
 |some ti,.aK id,.int i=>match lk os id,lk tab ti.elem with
  |some (.deep sz _ _ l _ _),some te=>ti.kind=2/\te.size=sz/\0<=i/\i<(l.length:Int)/\K (.ep id i.toNat sz 0) [id] [] []
  |_,_=>False
 |_,_,_=>False
def H2 (q:M9 P tab) {t:TypeId} {x m:Operand} (f:o.op=.indexAddr t x m) (h:we tab os t (ev x) (ev m) K):Y6 P o ev os K:=by
 unfold we at h;split at h
 ·rename_i ti id i k H hi;split at h
  ·rename_i sz e p l Q sh te b j;obtain⟨F,rfl,C,D,h⟩:=h;have G:=(q t ti k).af F;have E:=q _ te j;refine .read b (fun c w U a s=>?_) h;have v:=s x (by simp[f,Op.operands]);have y:=s m (by simp[f,Op.operands]);rw[H] at v;rw[hi] at y;obtain⟨A,cap,e1,r,M,N⟩:=pj a v;obtain⟨css,I,J,R,S⟩:=a;have d:0<css.length:=by rw[J.len];omega
   obtain⟨g,T,n,u,O,_⟩:=I.cells (IS d);rw[r] at u;injection u with z L B
   subst z B;refine⟨_,by simp only[execOp,f];rw[e1,y.ah.1,Sem.run_bind,run_indexAt_slice G E C D];rfl,.ep (off:=0) r⟩
  ·exact h.elim
 ·exact h.elim
def yR (tab:R9) (os:Os) (t:TypeId) (x:AV) (K:Kt):Prop :=
 match lk tab t,x with
 |some ti,.ep id i sz off=>match lk os id with
  |some (.deep b _ a l d sh)=>match AT sz b with
   |true=>match lk a off with
    |none=>i<l.length/\∀c,l[i]?=some c->match kM ti (dC a c 0) off with
     |some av=>K av [id] [] []
     |none=>False
    |some (isz,ie)=>match fj d off with
     |some (j,y)=>ti.kind=2/\j=i/\i<l.length/\off<sz/\ti.size=1/\K (.aK y) [id] [] []
     |none=>False
   |false=>False
  |_=>False
 |_,_=>False
theorem Dc {c:Type}:∀{off:Nat} {l:List c} {a:c},l[off]?=some a->bB off 1 l=some [a]
 |0,b::l,a,h=>by simp at h;subst h;simp[bB]
 |off+1,b::l,a,h=>by rw[bB];exact Dc (by simpa using h)
 |_,[],a,h=>by simp at h
theorem wy {Φ:Nat->Prop} {w:World}:∀us:List Value,H5 Φ w us (us.map .aU)
 |[]=>.nil
 |u::us=>.cons (.aU u) (wy us)
def JF (hT:M9 P tab) {t:TypeId} {x:Operand} (J:o.op=.load t x) (h:yR tab os t (ev x) K):Y6 P o ev os K:=by
 have run:∀(k:Operand->Value) (w:World),(execOp k o).run P w=((Instr.loadAt t (k x)).run P w).andThen fun v w'=>.ok (.value v) w':=fun k w=>by simp[execOp,J]
 unfold yR at h;split at h
 ·rename_i ti id i sz off N W;have C:=hT t ti N;split at h
  ·rename_i sz' e B l hs sh G;split at h
   ·rename_i M;obtain rfl:=MN M;have get:∀(c:Ctx) (w:World) (k:Operand->Value) (us:List Value),dH c w id (.deep sz e B l hs sh)->Rd c w (k x) (.ep id i sz off)->(∃css,K5 w (c.hd id) sz e css/\css[i]?=some us) ->
      ∃g p,k x=.pointer (some ⟨g,p+off,none⟩)/\∀j u,us[j]?=some u->w.cell? ⟨g,p+j,none⟩=some u:=fun c w k us d q ⟨css,s,a⟩=>by
     obtain⟨g,x0,m,cap,e1,hh⟩:=q.oK;obtain⟨T,X,R,V,hg,D⟩:=s.cells a;have e2:T=g/\X=x0:=by rw[hh] at V;injection V with e _ _;injection e with e;injection e with e e' _;exact⟨e.symm,e'.symm⟩
     obtain⟨rfl,rfl⟩:=e2;exact⟨T,X+i*sz,e1,D⟩
    split at h
    ·rename_i E;obtain⟨hi,h⟩:=h;have F:l[i]?=some l[i]:=IS hi;have h:=h _ F;split at h
     ·rename_i av r;refine .read G (fun c w k d L=>?_) h;have q:=L x (by simp[J,Op.operands]);rw[W] at q;have f:=d;obtain⟨css,s,z,h4,h5⟩:=d;have a:css[i]?=some (css[i]'(by rw[z.len];exact hi)):=IS _;obtain⟨g,p,e1,D⟩:=get c w k _ f q ⟨css,s,a⟩;obtain⟨v,H,I⟩:=pL (b:=g) (p:=p) C r (.bC (z.jw a F)) D;exact⟨v,by rw[run,e1,H];rfl,I⟩
     ·exact h.elim
    ·rename_i isz ie E;split at h
     ·rename_i j y ad;obtain⟨hk,rfl,hi,U,hs1,h⟩:=h;refine .read G (fun c w k d L=>?_) h;have q:=L x (by simp[J,Op.operands]);rw[W] at q;have f:=d;obtain⟨css,s,z,h4,h5⟩:=d;have a:css[j]?=some (css[j]'(by rw[z.len];exact hi)):=IS _;generalize css[j]'(by rw[z.len];exact hi)=us at a;have hul:=s.len us (MP a);have O:us[off]?=some (us[off]' d9):=IS _;generalize us[off]' d9=u at O;obtain⟨g,p,e1,D⟩:=get c w k _ f q ⟨css,s,a⟩;have r:kM ti (us.map AV.aU) off=some (.aU u):=by
       have ha:ti.agg=false:=(by simp[TI.agg,hk]);have:(us.map AV.aU)[off]?=some (.aU u):=by rw[Mj,O];rfl
       unfold kM;rw[ha,Dc this]
      obtain⟨v,H,I⟩:=pL (b:=g) (p:=p) C r (.bC (wy (Φ:=c.Φ) (w:=w) us)) D;have Q:=I.jE;subst Q;obtain⟨e3,A,n,cap,S,Y,Z⟩:=z.hole j off y us v (xk ad) a O;refine⟨v,by rw[run,e1,H];rfl,?_⟩;rw[S];exact .aK (by rw[<-e3,S]) Y Z
     ·exact h.elim
   ·exact h.elim
  ·exact h.elim
 ·exact h.elim
theorem K5.write {t:TypeId} {ti:TI} (X:X4 P t ti) {w:World} {hdv:Value} {sz e i off:Nat} {css:List (List Value)} {us A:List Value} (n:K5 w hdv sz e css) {g I m cap:Nat} (O:hdv=.slice (some ⟨g,I,none⟩) m cap)
  (l:css[i]?=some us) {v:Value} (G:v.cells.toList.length=ti.size) (N:∀u∈v.cells.toList,u.oneCell'=true) (E:X9 off v.cells.toList us=some A) :
  ∃w',(Instr.storeAt t (.pointer (some ⟨g,I+i*sz+off,none⟩)) v).run P w=.ok () w'/\K5 w' hdv sz e (css.set i A)/\(∀k,k≠g->w'.heap[k]?=w.heap[k]?)/\w'.heap.size=w.heap.size/\w'.os=w.os/\w'.tape=w.tape/\w'.output=w.output:=by
 have Q:i<css.length:=(ME.1 l).1;rcases n.bV with⟨F,hn⟩|⟨g',x',p,J,a,F,D,U,V,c3,L,W⟩
 ·omega
 ·rw[O] at F;injection F with q S T
  injection q with q
  injection q with q B
  subst q B T;have H:=L d9;have r:=xC css i off us v.cells.toList A n.len l E;have C:=fC sz css n.len;have s:a.toList.length=(p+cap)*sz:=by rw[<-c3];simp
  have R:p*sz<=a.toList.length:=by rw[s];exact Mt _ d9
  have y:(a.toList.take (p*sz)).length=p*sz:=by rw[Mq];omega
  have c:a.toList=a.toList.take (p*sz)++(css.flatten++(a.toList.drop (p*sz)).drop (css.length*sz)):=by
   rw[<-W,List.take_append_drop,List.take_append_drop]
  have j:=wC (a.toList.take (p*sz)) (BV ((a.toList.drop (p*sz)).drop (css.length*sz)) r);rw[<-c,y] at j;have x:w.heap[g]?=some (.cells a.toList.toArray e):=by simpa using D
  obtain⟨w',Y,Z,q3,q4,q5,q6,q7⟩:=wH (P:=P) X G x N j;have f:us∈css:=MP l;have b:∀us∈css.set i A,us.length=sz:=fun us' z=>by
   rcases List.mem_or_eq_of_mem_set z with h|h
   ·exact n.len us' h
   ·rw[h,(fS E).1];exact n.len _ f
  have d:=fC sz (css.set i A) b;refine⟨w',by rw[H,Mo];exact Y,⟨.inr ⟨g,I,p,cap,_,by rw[O,Mc,S],Z,by rw[Mc];exact U,V,?_,L,?_⟩,b,fun us' z=>?_⟩,q3,q4,q5,q6,q7⟩
  ·have M:a.toList.length=(p+cap)*sz:=s;rw[c,MK,MK,C] at M;rw[List.size_toArray,MK,MK,d,Mc];exact M
  ·rw[List.toList_toArray,List.drop_left' y,List.take_left' (by rw[d])]
  ·rcases List.mem_or_eq_of_mem_set z with h|h
   ·exact n.one us' h
   ·rw[h];intro u z;rcases vO E u z with h|h
    ·exact N u h
    ·exact n.one _ f u h
theorem bN.set {css:List (List Value)} {a:bz} {s c:Hs} {i:Nat} {us r:List Value} (k:css[i]?=some us) (b:∀off p,lk a off=some p->¬eW c i off->r[off]?=us[off]?) (q:∀j off,eW c j off↔eW s j off) {j off:Nat} {v:Value} :
  bN (css.set i r) a c j off v↔bN css a s j off v:=by
 have n:i<css.length:=(ME.1 k).1;constructor
 ·rintro⟨us',p,d,f,l,m⟩;rw[MY] at d;split at d
  ·rename_i e;subst e;cases d;exact⟨us,p,k,f,by rw[<-b off p f m];exact l,fun h=>m ((q _ _).2 h)⟩
  ·exact⟨us',p,d,f,l,fun h=>m ((q _ _).2 h)⟩
 ·rintro⟨us',p,d,f,l,m⟩;have g:¬eW c j off:=fun h=>m ((q _ _).1 h);by_cases e:i=j
  ·subst e;rw[k] at d;cases d;exact⟨r,p,by rw[MY,N2 rfl,N2 n],f,by rw[b off p f g];exact l,g⟩
  ·exact⟨us',p,by rw[MY,N1 e];exact d,f,l,g⟩
theorem aS.e9 {c:Ctx} {w w':World} {id sz e sh i g:Nat} {a:bz} {l l':List (List AV)} {f d:Hs} {css:List (List Value)} {us q:List Value} (aO:Q5 c w [(id,.deep sz e a l f sh)]) (T:dc c.Φ c.hd w a f l css)
  (R:∀v,v∈eZ (c.hd sh)↔∃i off,bN css a f i off v) (G:∀i off v b,bN css a f i off v->(c.hd id).ownBlock=some b->v.ownBlock=some b->False) (s:(c.hd id).ownBlock=some g) (u:css[i]?=some us)
  (L:K5 w' (c.hd id) sz e (css.set i q)) (C:∀k,k≠g->w'.heap[k]?=w.heap[k]?) (O:w'.heap.size=w.heap.size) (H:w'.os=w.os) (I:w'.tape=w.tape) (J:w'.output=w.output)
  (m:∀off p,lk a off=some p->¬eW d i off->q[off]?=us[off]?) (M:∀j off,eW d j off↔eW f j off)
  (hD:(∀v j off,bN (css.set i q) a d j off v↔bN css a f j off v)->dc c.Φ c.hd w a d l' (css.set i q)) :
  aS c w c w' [(id,.deep sz e a l f sh)] [(id,.deep sz e a l' d sh)] []:=by
 have A:=aO.lt id _ g (j5 _ _ _) (.inl s);have n:∀v j off,bN (css.set i q) a d j off v↔bN css a f j off v:=fun v j off=>bN.set u m M;have y:∀b,c.Φ b->w'.heap[b]?=w.heap[b]?:=fun b t=>C b fun e=>A.2 (e▸t);have r:∀b,aW c id (.deep sz e a l f sh) b->Touch c [(id,.deep sz e a l f sh)] [(id,.deep sz e a l' d sh)] b:=fun b x=>⟨id,_,j5 _ _ _,by rw[j5];rfl,x⟩;refine aS.mk' aO rfl H I J d9 (fun b _ N=>C b fun e=>N (r b (.inl (by rw[s,e])))) (fun _ _=>⟨rfl,rfl⟩) (fun F o hl=>?_) (fun F o b hl x=>?_) (fun F Q o S b B hl z=>?_)
 ·obtain⟨rfl,rfl⟩:=fD hl;refine⟨_,L,(hD n).ab y (fun _ h=>h) (fun _ _ _ _=>rfl) (fun j off v b D E=>C b fun e=>?_),fun v=>?_,fun j off v b D=>G j off v b ((n v j off).1 D)⟩
  ·exact G j off v b ((n v j off).1 D) (by rw[s,e]) E
  ·rw[R v];exact⟨fun⟨j,off,h⟩=>⟨j,off,(n v j off).2 h⟩,fun⟨j,off,h⟩=>⟨j,off,(n v j off).1 h⟩⟩
 ·obtain⟨rfl,rfl⟩:=fD hl;exact .inr (r b x)
 ·obtain⟨rfl,rfl⟩:=fD hl;obtain⟨e,_⟩:=fD z;exact absurd e.symm B
def xq (tab:R9) (os:Os) (t:TypeId) (x y:AV) (K:Kt):Prop :=
 match lk tab t,y.cells?,x with
 |some ti,some vs,.ep id i sz off=>match lk os id with
  |some (.deep b e a l c sh)=>match AT sz b,AT vs.length ti.size with
   |true,true=>match lk a off with
    |none=>AV.au vs=[]/\(a.all fun p=>MX p.1 off || IN (off+vs.length) p.1)=true/\(c.all fun p=>(lk a p.2.1).isSome)=true/\i<l.length/\∀f,l[i]?=some f->match X9 off vs f with
     |some d=>∃q,q=l.set i d/\K .any [id] [] [(id,.deep b e a q c sh)]
     |none=>False
    |some _=>match vs,fj c off with
     |[.aK y],some (j,_)=>nv c=true/\j=i/\i<l.length/\off<b/\K .any [id] [] [(id,.deep b e a l ((i,off,y)::eD c off) sh)]
     |_,_=>False
   |_,_=>False
  |_=>False
 |_,_,_=>False
def Hw (hT:M9 P tab) {t:TypeId} {x y:Operand} (ho:o.op=.store t x y) (h:xq tab os t (ev x) (ev y) K):Y6 P o ev os K:=by
 have run:∀(H:Operand->Value) (w w':World),(Instr.storeAt t (H x) (H y)).run P w=.ok () w'->(execOp H o).run P w=.ok .skip w':=fun H w w' h=>by simp[execOp,ho,h]
 unfold xq at h;split at h
 ·rename_i ti vs id i sz off hti hvs hx;have hTi:=hT t ti hti;split at h
  ·rename_i sz' e D l X sh hid;split at h
   ·rename_i hsz Z;obtain rfl:=MN hsz;have Z:=MN Z;have base:∀(c:Ctx) (w:World) (H:Operand->Value),Q5 c w [(id,.deep sz e D l X sh)]->(∀z∈o.op.operands.toList,Rd c w (H z) (ev z))->i<l.length->off+ti.size<=sz ->
      ∃css us rs g w',dc c.Φ c.hd w D X l css/\K5 w (c.hd id) sz e css/\(∀v,v∈eZ (c.hd sh)↔∃i off,bN css D X i off v)/\(∀i off v b,bN css D X i off v->(c.hd id).ownBlock=some b->v.ownBlock=some b->False)/\(c.hd id).ownBlock=some g/\css[i]?=some us /\
       X9 off (H y).cells.toList us=some rs/\(execOp H o).run P w=.ok .skip w'/\K5 w' (c.hd id) sz e (css.set i rs)/\(∀k,k≠g->w'.heap[k]?=w.heap[k]?)/\w'.heap.size=w.heap.size/\w'.os=w.os/\w'.tape=w.tape/\w'.output=w.output/\us.length=sz:=fun c w H aO hr hi hoff=>by
     have r1:=hr x (by simp[ho,Op.operands]);have r2:=hr y (by simp[ho,Op.operands]);rw[hx] at r1;obtain⟨css,p1,C,p3,p4⟩:=aO.rep id _ (j5 _ _ _);obtain⟨g,x0,m,cap,e1,hh⟩:=r1.oK;obtain⟨rv,h1⟩:=kG r2 hvs;have f:css[i]?=some (css[i]'(by rw[C.len];exact hi)):=IS _;generalize css[i]'(by rw[C.len];exact hi)=us at f;have Y:=p1.len us (MP f);have E:(H y).cells.toList.length=ti.size:=by rw[rv.length];exact Z
     obtain⟨rs,s⟩:=iu off (H y).cells.toList us (by rw[E,Y];exact hoff);obtain⟨w',q1,q2,q3,q4,q5,q6,q7⟩:=K5.write (P:=P) hTi p1 hh f E h1 s;exact⟨css,us,rs,g,w',C,p1,p3,p4,by rw[hh];rfl,f,s,run H w w' (by rw[e1];exact q1),q2,q3,q4,q5,q6,q7,Y⟩
    split at h
    ·obtain⟨hids,hcols,hhc,hi,h⟩:=h;have S:l[i]?=some l[i]:=IS hi;have h:=h _ S;generalize l[i]=cs at S h;split at h
     ·rename_i cs' O;obtain⟨q,rfl,h⟩:=h;refine fun _=>⟨_,[(id,.deep sz e D l X sh)],_,[],fun c w H aO hr=>?_,fun i ob h=>fY h hid,fun _ h=>(by cases h),h⟩;have hlen:off+ti.size<=sz:=by
       obtain⟨css,p1,C,_⟩:=aO.rep id _ (j5 _ _ _);have f:css[i]?=some (css[i]'(by rw[C.len];exact hi)):=IS _;have h1:=(C.cell i _ _ f S).1;have h2:=p1.len _ (MP f);have h3:=(fS O).2;omega
      obtain⟨css,us,rs,g,w',C,p1,p3,p4,hb,f,s,V,hR,ho',hs',k1,k2,k3,Y⟩:=base c w H aO hr hi hlen;rw[V];obtain⟨rv,h1⟩:=kG (hr y (by simp[ho,Op.operands])) hvs;have rf:=rv.jw hids;have E:(H y).cells.toList.length=vs.length:=rv.length;have Q:∀d p,lk D d=some p->¬(off<=d/\d<off+vs.length):=fun d p hp=>by
       have:=MR.1 hcols _ (dR hp);simp only[Bool.or_eq_true] at this;rcases this with h|h
       ·have:=MZ h;omega
       ·have:=MZ h;omega
      refine⟨c,aS.e9 aO C p3 p4 hb f hR ho' hs' k1 k2 k3 (fun d p hp _=>?_) (fun _ _=>Iff.rfl) (fun hI=>⟨by simp[C.len],fun k us' F G J=>?_,fun k us' F d isz ie u G J L B N=>?_,fun k d x us' u R G B=>?_,fun a1 a2 a3 a4 a5 a6 b i1 i2=>C.apart a1 a2 a3 a4 a5 a6 b ((hI _ _ _).1 i1) ((hI _ _ _).1 i2)⟩),Rd.dM _⟩
      ·rw[Y2 s,N1 (by rw[E];exact Q d p hp)]
      ·rw[MY] at G J;by_cases I:i=k
       ·subst I;rw[N2 rfl,N2 (ME.1 f).1] at G;rw[N2 rfl,N2 hi] at J;cases G;cases J;have W:=C.cell i us cs f S;refine⟨by rw[(fS s).1,(fS O).1];exact W.1,fun d u a B M hn=>?_⟩;rw[Y2 s,E] at B;rw[Y2 O] at M;by_cases hin:off<=d/\d<off+vs.length
        ·rw[N2 hin] at B M;obtain⟨v,hv,hva⟩:=rf.get M;rw[B] at hv;cases hv;exact hva
        ·rw[N1 hin] at B M;exact W.2 d u a B M hn
       ·rw[N1 I] at G J;exact C.cell k us' F G J
      ·rw[MY] at G J;by_cases I:i=k
       ·subst I;rw[N2 rfl,N2 (ME.1 f).1] at G;rw[N2 rfl,N2 hi] at J;cases G;cases J;rw[Y2 s,E,N1 (Q d _ L)] at B;rw[Y2 O,N1 (Q d _ L)];exact C.inner i us cs d isz ie u f S L B N
       ·rw[N1 I] at G J;exact C.inner k us' F d isz ie u G J L B N
      ·rw[MY] at G;by_cases I:i=k
       ·subst I;rw[N2 rfl,N2 (ME.1 f).1] at G;cases G;have L:=MR.1 hhc _ R;obtain⟨p,hp⟩:=Option.isSome_iff_exists.1 L;rw[Y2 s,E,N1 (Q d p hp)] at B;exact C.hole i d x us u R f B
       ·rw[N1 I] at G;exact C.hole k d x us' u R G B
     ·exact h.elim
    ·rename_i p L;split at h
     ·rename_i y' j x' ad hvb;obtain⟨G,rfl,hi,hoff,h⟩:=h;refine fun _=>⟨_,[(id,.deep sz e D l X sh)],_,[],fun c w H aO hr=>?_,fun i ob h=>fY h hid,fun _ h=>(by cases h),h⟩;have h1s:ti.size=1:=by rw[<-Z];rfl
      obtain⟨css,us,rs,g,w',C,p1,p3,p4,hb,f,s,V,hR,ho',hs',k1,k2,k3,Y⟩:=base c w H aO hr hi d9;rw[V];obtain⟨rv,h1⟩:=kG (hr y (by simp[ho,Op.operands])) hvs;have T:∀k d,eW ((j,off,y')::eD X off) k d↔eW X k d:=fun k d=>by
       constructor
       ·rintro⟨z,hz⟩;rcases MG.1 hz with e|hz
        ·cases e;exact⟨_,xk ad⟩
        ·exact⟨z,(nW.1 hz).1⟩
       ·rintro⟨z,hz⟩;by_cases e:d=off
        ·subst e;obtain⟨rfl,rfl⟩:=CV G ad hz;exact⟨y',l9⟩
        ·exact⟨z,Mr _ (nW.2 ⟨hz,e⟩)⟩
      obtain⟨v,hvv,hrv⟩:∃v,(H y).cells.toList=[v]/\Rd c w v (.aK y'):=by
       revert rv;generalize (H y).cells.toList=vl;intro rv;cases rv with|cons a b=>cases b;exact⟨_,rfl,a⟩
      rw[hvv] at s;obtain⟨A,n,cap,e1,e2,e3,e4⟩:=hrv.bF;have hjo:eW ((j,off,y')::eD X off) j off:=⟨y',l9⟩;refine⟨c,aS.e9 aO C p3 p4 hb f hR ho' hs' k1 k2 k3 (fun d p hp N=>?_) T (fun hI=>⟨by simp[C.len],fun k us' F r J=>?_,fun k us' F d isz ie u r J hcl' B N=>?_,fun k d x us' u R r B=>?_,fun a1 a2 a3 a4 a5 a6 b i1 i2=>C.apart a1 a2 a3 a4 a5 a6 b ((hI _ _ _).1 i1) ((hI _ _ _).1 i2)⟩),Rd.dM _⟩
      ·have U:¬(off<=d/\d<off+[v].length):=by
        simp only[Mx];intro h';have:d=off:=d9;subst this;exact N hjo
       rw[Y2 s,N1 U]
      ·rw[MY] at r;by_cases I:j=k
       ·subst I;rw[N2 rfl,N2 (ME.1 f).1] at r;cases r;have W:=C.cell j us F f J;refine⟨by rw[(fS s).1];exact W.1,fun d u a B M hn=>?_⟩;have U:¬(off<=d/\d<off+[v].length):=by
         simp only[Mx];intro h';have:d=off:=d9;subst this;rw[L] at hn;cases hn
        rw[Y2 s,N1 U] at B;exact W.2 d u a B M hn
       ·rw[N1 I] at r;exact C.cell k us' F r J
      ·have hno':¬eW X k d:=fun h'=>N ((T _ _).2 h');rw[MY] at r;by_cases I:j=k
       ·subst I;rw[N2 rfl,N2 (ME.1 f).1] at r;cases r;have U:¬(off<=d/\d<off+[v].length):=by
         simp only[Mx];intro h';have:d=off:=d9;subst this;exact N hjo
        rw[Y2 s,N1 U] at B;exact C.inner j us F d isz ie u f J hcl' B hno'
       ·rw[N1 I] at r;exact C.inner k us' F d isz ie u r J hcl' B hno'
      ·rw[MY] at r;by_cases I:j=k
       ·subst I;rw[N2 rfl,N2 (ME.1 f).1] at r;cases r;rw[Y2 s] at B;by_cases e:d=off
        ·subst e;rw[N2 l9] at B;simp only[Nat.sub_self,My,Option.some.injEq] at B;subst B;have hx':x=y':=by
          rcases MG.1 R with e'|R
          ·cases e';rfl
          ·exact absurd rfl (nW.1 R).2
         subst hx';exact⟨by rw[e1,e2],A,n,cap,e1,e3,e4⟩
        ·rw[N1 (by simp only[Mx];omega)] at B;rcases MG.1 R with e'|R
         ·cases e';exact absurd rfl e
         ·exact C.hole j d x us u (nW.1 R).1 f B
       ·rw[N1 I] at r;rcases MG.1 R with e'|R
        ·cases e';exact absurd rfl I
        ·exact C.hole k d x us' u (nW.1 R).1 r B
     ·exact h.elim
   ·exact h.elim
  ·exact h.elim
 ·exact h.elim
theorem aS.deep {c:Ctx} {w w':World} {need:Os} {d sh sz e:Nat} {a:bz} {l:List (List AV)} {css:List (List Value)} {n:Value} (aO:Q5 c w need) (E:d≠sh) (t:lk need d=none) (y:lk need sh=none)
  (cX:w'.os=w.os) (tape:w'.tape=w.tape) (output:w'.output=w.output) (size:w.heap.size<=w'.heap.size) (f:Nat->Prop) (m:∀b,f b↔∃id o,lk need id=some o/\aW c id o b)
  (ab:∀b,b<w.heap.size->¬f b->w'.heap[b]?=w.heap[b]?) (O:K5 w' n sz e css)
  (hD:dc c.Φ c.hd w' a [] l css) (k:∀b,n.ownBlock=some b->w.heap.size<=b\/f b) (R:∀i off v b,bN css a [] i off v->v.ownBlock=some b->(w.heap.size<=b/\b<w'.heap.size)\/f b)
  (S:∀i off v b,bN css a [] i off v->n.ownBlock=some b->v.ownBlock=some b->False) :
  ∃L:List Value,aS c w ((c.aN d n).aN sh (.tuple L.toArray)) w' need ((d,.deep sz e a l [] sh)::(sh,.aF)::I7 need) [d,sh]:=by
 obtain⟨L,N⟩:=xa css a [];refine⟨L,?_⟩;have C:((c.aN d n).aN sh (.tuple L.toArray)).hd d=n:=by simp[Ctx.aN,E]
 have M:((c.aN d n).aN sh (.tuple L.toArray)).hd sh=.tuple L.toArray:=by simp[Ctx.aN]
 have Y:∀id,(lk (I7 need) id).isSome=(lk need id).isSome:=re need;have T:∀b,f b->Touch c need ((d,.deep sz e a l [] sh)::(sh,.aF)::I7 need) b:=fun b k=>by
  obtain⟨id,o,s,A⟩:=(m b).1 k;refine⟨id,o,s,?_,A⟩;have n1:d≠id:=fun e=>by rw[e,s] at t;cases t
  have n2:sh≠id:=fun e=>by rw[e,s] at y;cases y
  rw[E8 _ _ n1,E8 _ _ n2,Y,s];rfl
 have j:∀id o,lk ((d,Obj.deep sz e a l [] sh)::(sh,.aF)::I7 need) id=some o->(id=d/\o=.deep sz e a l [] sh)\/(id≠d/\o=.aF):=fun id o hl=>by
  rw[l8] at hl;split at hl
  ·rename_i e1;cases hl;exact .inl ⟨e1.symm,rfl⟩
  ·rename_i e1;rw[l8] at hl;split at hl
   ·cases hl;exact .inr ⟨fun h=>e1 h.symm,rfl⟩
   ·exact .inr ⟨fun h=>e1 h.symm,lq hl⟩
 have U:∀b,c.Φ b->w'.heap[b]?=w.heap[b]?:=fun b k=>ab b (aO.aq b k) fun Z=>by
  obtain⟨id,o,s,A⟩:=(m b).1 Z;exact(aO.lt id o b s A).2 k
 have vb:∀b,n.ownBlock=some b->(w.heap.size<=b/\b<w'.heap.size)\/f b:=fun b h=>by
  rcases k b h with B|B
  ·refine .inl ⟨B,?_⟩;rcases O.bV with⟨e1,_⟩|⟨g,x,p,cp,Q,e1,V,_⟩
   ·rw[e1] at h;cases h
   ·rw[e1] at h;injection h with h
    subst h;exact(Array.getElem?_eq_some_iff.1 V).1
  ·exact .inr B
 refine aS.mk' aO rfl cX tape output size (fun b k X=>ab b k fun h=>X (T b h)) (fun id r=>⟨rfl,?_⟩) (fun id o hl=>?_) (fun id o b hl q=>?_) (fun id J o o' b H hl G q F=>?_)
 ·simp only[MG,List.not_mem_nil,or_false,not_or] at r;simp[Ctx.aN,r.1,r.2]
 ·rcases j id o hl with⟨rfl,rfl⟩|⟨_,rfl⟩
  ·refine⟨css,by rw[C];exact O,⟨hD.len,hD.cell,hD.inner,fun i off x us u W=>(by cases W),hD.apart⟩,fun v=>by rw[M,nX];exact N v,fun i off v b z D=>S i off v b z (by rwa [C] at D)⟩
  ·trivial
 ·rcases j id o hl with⟨rfl,rfl⟩|⟨_,rfl⟩
  ·rcases q with q|⟨v,z,I⟩
   ·rw[C] at q;exact(vb b q).imp (fun h=>h) (T b)
   ·rw[M,nX] at z;obtain⟨i,off,hi⟩:=(N v).1 z;exact(R i off v b hi I).imp (fun h=>h) (T b)
  ·exact q.elim
 ·rcases j id o hl with⟨rfl,rfl⟩|⟨_,rfl⟩<;>rcases j J o' G with⟨rfl,rfl⟩|⟨_,rfl⟩<;>first|exact H rfl|exact q.elim|exact F.elim
def uv {c:Ctx} {w:World} {need:Os} {id sz e sh:Nat} {a:bz} {l:List (List AV)} (aO:Q5 c w need) (d:lk need id=some (.deep sz e a l [] sh)):∃css,K5 w (c.hd id) sz e css/\dc c.Φ c.hd w a [] l css /\
  (∀i off v b,bN css a [] i off v->(c.hd id).ownBlock=some b->v.ownBlock=some b->False)/\(∀i off v b,bN css a [] i off v->v.ownBlock=some b->aW c id (.deep sz e a l [] sh) b):=by
 obtain⟨css,f,g,h,j⟩:=aO.rep id _ d;exact⟨css,f,g,j,fun i off v b m k=>.inr ⟨v,(h v).2 ⟨i,off,m⟩,k⟩⟩
def nS {i off:Nat}:¬eW [] i off:=fun⟨_,h⟩=>by cases h
theorem bN.take {css:List (List Value)} {a:bz} {n i off:Nat} {v:Value} (h:bN (css.take n) a [] i off v):bN css a [] i off v:=by
 obtain⟨us,p,b,c,d,e⟩:=h;rw[Mu] at b;split at b
 ·exact⟨us,p,b,c,d,nS⟩
 ·cases b
theorem dc.take {Φ:Nat->Prop} {hd:Nat->Value} {w:World} {e:bz} {l:List (List AV)} {css:List (List Value)} (h:dc Φ hd w e [] l css) (n:Nat):dc Φ hd w e [] (l.take n) (css.take n):=by
 have g1:∀(i:Nat) us,(css.take n)[i]?=some us->css[i]?=some us:=fun i us c=>by
  rw[Mu] at c;split at c
  ·exact c
  ·cases c
 have k:∀(i:Nat) f,(l.take n)[i]?=some f->l[i]?=some f:=fun i us c=>by
  rw[Mu] at c;split at c
  ·exact c
  ·cases c
 exact⟨by simp[h.len],fun i us f c j=>h.cell i us f (g1 i us c) (k i f j),fun i us f off isz ie u c j a b d=>h.inner i us f off isz ie u (g1 i us c) (k i f j) a b d,fun i off x us u q=>(by cases q),
  fun i off v r g s b m p=>h.apart i off v r g s b m.take p.take⟩
def xX (tab:R9) (os:Os) (d:Nat) (t:TypeId) (x:AV) (c hi:Option AV) (K:Kt):Prop :=
 match lk tab t,x,c,hi with
 |some ti,.aK id,none,some (.int b)=>match lk os id,lk tab ti.elem with
  |some (.deep sz e a l [] _),some te=>match AT id d,AT id (d+700) with
   |false,false=>ti.kind=2/\te.size=sz/\0<=b/\b<=(l.length:Int)/\∀q,q=l.take b.toNat->K (.aK d) [id] [d,d+700] [(d,.deep sz e a q [] (d+700)),(d+700,.aF),(id,.aF)]
   |_,_=>False
  |_,_=>False
 |_,_,_,_=>False
def Hz (D:M9 P tab) (d:Nat) {t:TypeId} {x:Operand} {q hi:Option Operand} (u:o.op=.slice t x q hi none) (h:xX tab os d t (ev x) (cB ev q) (cB ev hi) K):Y6 P o ev os K:=by
 have run:∀(j:Operand->Value) (w:World) (v:Value),(Instr.sliceAt t (j x) (q.map j) (hi.map j) none).run P w=.ok v w->(execOp j o).run P w=.ok (.value v) w:=fun j w v h=>by simp[execOp,u,h]
 unfold xX at h;split at h
 ·rename_i ti id b B S O m;split at h
  ·rename_i sz e g l sh te s y;split at h
   ·rename_i k f;obtain⟨N,rfl,J,Y,h⟩:=h;have k:id≠d:=fun e=>by subst e;simp at k
    have f:id≠d+700:=fun e=>by rw[<-e] at f;simp at f
    have R:=(D t ti B).af N;obtain⟨rfl⟩:q=none:=by cases q<;>simp_all [cB]
    cases hi with
    |none=>simp[cB] at m
    |some z =>
     simp only[cB,Option.some.injEq] at m;refine fun _=>⟨_,[(id,.deep te.size e g l [] sh)],_,[d,d+700],fun c w j aO F=>?_,fun i ob h=>fY h s,fun i hi=>?_,h _ rfl⟩
     ·have G:=F x (by simp[u,Op.operands]);have H:=F z (by simp[u,Op.operands]);rw[S] at G;rw[m] at H;obtain⟨A,cap,e1,E,X,I⟩:=pj (aO.rep id _ (j5 _ _ _)) G;obtain⟨css,T,U,V,W⟩:=uv aO (j5 _ _ _);have p:(execOp j o).run P w=.ok (.value (.slice A b.toNat cap)) w:=by
       refine run j w _ ?_;rw[e1];simp only[Option.map_none,Mf,H.ah.1];exact um R (D _ te y) J d9
      have M:K5 w (.slice A b.toNat cap) te.size e (css.take b.toNat):=K5.take (by rw[<-E];exact T) d9;have n:(Value.slice A b.toNat cap).ownBlock=(c.hd id).ownBlock:=by rw[E];cases A<;>rfl
      obtain⟨L,Q⟩:=aS.deep (w':=w) (l:=l.take b.toNat) (sh:=d+700) aO (by omega:d≠d+700) (by rw[E8 _ _ k];rfl) (by rw[E8 _ _ f];rfl) rfl rfl rfl (It _) (aW c id (.deep te.size e g l [] sh)) (fun b=>by rw[tH]) (fun _ _ _=>rfl) M (U.take b.toNat)
       (fun r a=>.inr (.inl (by rw[<-n];exact a))) (fun i off v r C a=>.inr (W i off v r C.take a)) (fun i off v r C a=>V i off v r C.take (by rw[<-n];exact a))
      rw[p];exact⟨_,Q,.aK (by simp[Ctx.aN]) d9 I⟩
     ·simp only[MG,List.not_mem_nil,or_false] at hi;rcases hi with rfl|rfl
      ·rw[j5];rfl
      ·rw[E8 _ _ d9,j5];rfl
   ·exact h.elim
  ·exact h.elim
 ·exact h.elim
theorem bN.app {css b:List (List Value)} {a:bz} {i off:Nat} {v:Value} (h:bN (css++b) a [] i off v):(i<css.length/\bN css a [] i off v)\/(css.length<=i/\bN b a [] (i-css.length) off v):=by
 obtain⟨us,p,c,d,e,f⟩:=h;by_cases hi:i<css.length
 ·rw[Mp hi] at c;exact .inl ⟨hi,us,p,c,d,e,nS⟩
 ·rw[Ma d9] at c;exact .inr ⟨d9,us,p,c,d,e,nS⟩
theorem dc.append {Φ:Nat->Prop} {hd:Nat->Value} {w:World} {c:bz} {l l2:List (List AV)} {css e:List (List Value)} (h:dc Φ hd w c [] l css) (z:dc Φ hd w c [] l2 e)
  (B:∀i off v A f r b,bN css c [] i off v->bN e c [] A f r->v.ownBlock=some b->r.ownBlock=some b->False):dc Φ hd w c [] (l++l2) (css++e):=by
 have s:∀(i:Nat) us g,(css++e)[i]?=some us->(l++l2)[i]?=some g->(css[i]?=some us/\l[i]?=some g)\/(e[i-css.length]?=some us/\l2[i-css.length]?=some g):=fun i us g k j=>by
  by_cases hi:i<css.length
  ·rw[Mp hi] at k;rw[Mp (by rw[<-h.len];exact hi)] at j;exact .inl ⟨k,j⟩
  ·rw[Ma d9] at k;rw[Ma (by rw[<-h.len];omega),<-h.len] at j;exact .inr ⟨k,j⟩
 refine⟨by simp[h.len,z.len],fun i us g k j=>?_,fun i us g off isz ie u k j a b d=>?_,fun i off x us u G=>(by cases G),fun i off v A f r b C D t y=>?_⟩
 ·rcases s i us g k j with⟨m,n⟩|⟨m,n⟩
  ·exact h.cell i us g m n
  ·exact z.cell _ us g m n
 ·rcases s i us g k j with⟨m,n⟩|⟨m,n⟩
  ·exact h.inner i us g off isz ie u m n a b nS
  ·exact z.inner _ us g off isz ie u m n a b nS
 ·rcases C.app with⟨E,p⟩|⟨E,p⟩<;>rcases D.app with⟨F,q⟩|⟨F,q⟩
  ·exact h.apart i off v A f r b p q t y
  ·exact(B _ _ _ _ _ _ b p q t y).elim
  ·exact(B _ _ _ _ _ _ b q p y t).elim
  ·have:=z.apart _ off v _ f r b p q t y;exact⟨d9,this.2⟩
def xG (tab:R9) (os:Os) (d:Nat) (t g:TypeId) (x y:AV) (K:Kt):Prop :=
 match lk tab t,AT t g,x,y with
 |some ti,true,.aK id,.aK a=>match lk os id,lk os a,lk tab ti.elem with
  |some (.deep sz e b l [] _),some (.deep f h c l2 [] _),some te=>match AT id a,AT id d,AT a d,AT id (d+700),AT a (d+700) with
   |false,false,false,false,false=>ti.kind=2/\te.size=sz/\f=sz/\e=ti.elem/\c=b/\0<sz/\1<=te.bytes/\(l.length+l2.length)*te.bytes<=140737488355328/\∀q,q=l++l2->K (.aK d) [id,a] [d,d+700] [(d,.deep sz e b q [] (d+700)),(d+700,.aF),(id,.aF),(a,.aF)]
   |_,_,_,_,_=>False
  |_,_,_=>False
 |_,_,_,_=>False
def d10 (hT:M9 P tab) (d:Nat) {t t':TypeId} {x y:Operand} (ho:o.op=.call { callee:=.builtin .append,args:=#[x,y],argTypes:=#[t,t'] }) (h:xG tab os d t t' (ev x) (ev y) K):Y6 P o ev os K:=by
 unfold xG at h;split at h
 ·rename_i ti id g hti htt hx hy;obtain rfl:=MN htt;split at h
  ·rename_i sz e cols1 l sh sz2 B f l2 n te hid N hte;split at h
   ·rename_i U n2 n3 V W;have U:id≠g:=fun e=>by subst e;simp at U
    have n2:id≠d:=fun e=>by subst e;simp at n2
    have n3:g≠d:=fun e=>by subst e;simp at n3
    have V:id≠d+700:=fun e=>by rw[<-e] at V;simp at V
    have W:g≠d+700:=fun e=>by rw[<-e] at W;simp at W
    obtain⟨hk,rfl,rfl,rfl,rfl,O,hpb,p,h⟩:=h;refine fun _=>⟨_,[(id,.deep te.size ti.elem f l [] sh),(g,.deep te.size B f l2 [] n)],_,[d,d+700],fun c w ρ aO hr=>?_,fun i ob h=>?_,fun i hi=>?_,h _ rfl⟩
    ·have g1:lk [(id,Obj.deep te.size ti.elem f l [] sh),(g,.deep te.size B f l2 [] n)] id=some (.deep te.size ti.elem f l [] sh):=j5 _ _ _;have I:lk [(id,Obj.deep te.size ti.elem f l [] sh),(g,.deep te.size B f l2 [] n)] g=some (.deep te.size B f l2 [] n):=by rw[E8 _ _ U,j5]
     have r1:=hr x (by simp[ho,Op.operands,Go.Call.operands]);have r2:=hr y (by simp[ho,Op.operands,Go.Call.operands]);rw[hx] at r1;rw[hy] at r2;obtain⟨A,cap,e1,hh,b1,b2⟩:=pj (aO.rep id _ g1) r1;obtain⟨A2,cap2,e1',hh',b1',b2'⟩:=pj (aO.rep g _ I) r2;obtain⟨css,p1,p2,p3,Y⟩:=uv aO g1;obtain⟨j,s1,s2,s3,H⟩:=uv aO I;have R:Src c.Φ w te.size (c.hd g) (j.map fun us=>us.map AV.aU):=Src.jM (e:=B) ⟨j,s1,l9,fun i us cs hu hc=>by
      rw[Mj,hu] at hc;cases hc;exact wy us⟩
     have hl:css.length+(j.map fun us=>us.map AV.aU).length<=maxLen:=by
      have:(l.length+l2.length)*1<=(l.length+l2.length)*te.bytes:=Nat.mul_le_mul_left _ hpb;rw[MW,p2.len,s2.len];simp only[maxLen];omega
     obtain⟨v',w',q,Q,q1,q2,E,q4,q5⟩:=Af (P:=P) (hT t ti hti) hk (hT _ te hte) O o.type p1 R (by rw[MW,p2.len,s2.len];exact p) hl;have hcc:q=j:=by
      have F:∀(a b:List Value),H5 c.Φ w a (b.map AV.aU)->a=b:=by
       intro a b
       induction b generalizing a with
       |nil=>intro h;cases h;rfl
       |cons x b ih =>
        intro h;cases h with|cons r s =>
        cases r;rw[ih _ s]
      apply Mn;intro i;rw[MW] at q1;by_cases hi:i<j.length
      ·have r:j[i]?=some j[i]:=IS hi;have h3:q[i]?=some (q[i]' d9):=IS d9;rw[r,h3,F _ j[i] (q5 i _ _ h3 (by rw[Mj,r];rfl))]
      ·rw[Md d9,Md d9]
     subst hcc;have G:(execOp ρ o).run P w=.ok (.value v') w':=by
      simp[execOp,ho,resolve,invoke,builtin,e1,e1',<-hh,<-hh',Q]
     have z:∀b,aW c id (.deep te.size ti.elem f l [] sh) b->aW c g (.deep te.size B f l2 [] n) b->False:=fun b r s=>aO.sep id g _ _ b U g1 I r s;have k:∀b,(c.hd id).ownBlock=some b->aW c id (.deep te.size ti.elem f l [] sh) b:=fun b p=>.inl p;have X:∀b,(c.hd g).ownBlock=some b->aW c g (.deep te.size B f l2 [] n) b:=fun b p=>.inl p;have S:∀b,aW c id (.deep te.size ti.elem f l [] sh) b->b<w.heap.size:=fun b h=>(aO.lt id _ b g1 h).1;have D:∀b,aW c g (.deep te.size B f l2 [] n) b->b<w.heap.size:=fun b h=>(aO.lt g _ b I h).1;have M:∀b,c.Φ b->w'.heap[b]?=w.heap[b]?:=fun b p=>E.block b (aO.aq b p) fun e=>(aO.lt id _ b g1 (k b e.symm)).2 p;have k1:dc c.Φ c.hd w' f [] l css:=p2.ab M (fun _ h=>h) (fun _ _ _ h=>(by cases h)) fun i off v b C m=>E.block b (S b (Y i off v b C m)) fun e=>p3 i off v b C e.symm m;have k2:dc c.Φ c.hd w' f [] l2 q:=s2.ab M (fun _ h=>h) (fun _ _ _ h=>(by cases h)) fun i off v b C m=>E.block b (D b (H i off v b C m)) fun e=>z b (k b e.symm) (H i off v b C m);have u:∀b,v'.ownBlock=some b->w.heap.size<=b\/(c.hd id).ownBlock=some b:=fun b p=>by
      rcases q4 with h|h
      ·exact .inr (h▸p)
      ·exact .inl (h b p)
     obtain⟨L,hp⟩:=aS.deep (w':=w') (l:=l++l2) (sh:=d+700) (d:=d) aO (by omega:d≠d+700) (by rw[E8 _ _ n2,E8 _ _ n3];rfl) (by rw[E8 _ _ V,E8 _ _ W];rfl) E.os E.tape E.output E.size
      (fun b=>aW c id (.deep te.size ti.elem f l [] sh) b\/aW c g (.deep te.size B f l2 [] n) b) (fun b=>⟨fun h=>by
       rcases h with h|h
       ·exact⟨id,_,g1,h⟩
       ·exact⟨g,_,I,h⟩,fun⟨i,o',r,s⟩=>by
       rw[l8] at r;split at r
       ·rename_i e;subst e;cases r;exact .inl s
       ·obtain⟨rfl,rfl⟩:=fD r;exact .inr s⟩) (fun b p hn=>E.block b p fun e=>hn (.inl (k b e.symm))) q2
      (k1.append k2 fun i off v i' T v2 b a1 a2 Z c2=>z b (Y i off v b a1 Z) (H i' T v2 b a2 c2))
      (fun b p=>(u b p).imp (fun h=>h) fun h=>.inl (k b h)) (fun i off v b C m=>by
       rcases C.app with⟨_,h⟩|⟨_,h⟩
       ·exact .inr (.inl (Y i off v b h m))
       ·exact .inr (.inr (H _ off v b h m))) (fun i off v b C r s=>by
       rcases C.app with⟨_,h⟩|⟨_,h⟩
       ·rcases u b r with J|J
        ·have:=S b (Y i off v b h s);omega
        ·exact p3 i off v b h J s
       ·rcases u b r with J|J
        ·have:=D b (H _ off v b h s);omega
        ·exact z b (k b J) (H _ off v b h s))
     rw[G];refine⟨_,hp,?_⟩;obtain⟨A3,cap3,hv3,Z,c2⟩:=q2.head;rw[hv3];exact .aK (by simp[Ctx.aN]) Z c2
    ·rw[l8] at h;split at h
     ·rename_i e;subst e;cases h;exact hid
     ·obtain⟨rfl,rfl⟩:=fD h;exact N
    ·simp only[MG,List.not_mem_nil,or_false] at hi;rcases hi with rfl|rfl
     ·rw[j5];rfl
     ·rw[E8 _ _ d9,j5];rfl
   ·exact h.elim
  ·exact h.elim
 ·exact h.elim
def qO (os:Os) (b:bz):List AV->Nat->Option (List AV×Os)
 |[],_=>some ([],[])
 |a::r,o=>match qO os b r (o+1) with
  |some (e,g)=>match lk b o with
   |none=>match a.ids with
    |[]=>some (a::e,g)
    |_=>none
   |some (isz,ie)=>match a with
    |.aJ=>some (.sl isz []::e,g)
    |.aK y=>match lk os y with
     |some (.row c ls d)=>match AT isz c,AT ie d,lk g y with
      |true,true,none=>some (.sl isz ls::e,(y,.row c ls d)::g)
      |_,_,_=>none
     |_=>none
    |_=>none
  |none=>none
structure K4 (os:Os) (cols:bz) (a_ cs:List AV) (o:Nat) (g:Os):Prop where
 len:cs.length=a_.length
 sub:∀id ob,lk g id=some ob->lk os id=some ob
 cell:∀off a,cs[off]?=some a->lk cols (o+off)=none->a_[off]?=some a/\a.ids=[]
 tL:∀off isz ie,off<cs.length->lk cols (o+off)=some (isz,ie)->(a_[off]?=some .aJ/\cs[off]?=some (.sl isz []))\/∃y ls,a_[off]?=some (.aK y)/\lk g y=some (.row isz ls ie)/\cs[off]?=some (.sl isz ls)
 one:∀off off' y p p',lk cols (o+off)=some p->lk cols (o+off')=some p'->a_[off]?=some (.aK y)->a_[off']?=some (.aK y)->off=off'
 from_:∀id ob,lk g id=some ob->∃off p isz ls ie,lk cols (o+off)=some p/\a_[off]?=some (.aK id)/\ob=.row isz ls ie
theorem Cp {os:Os} {n:bz}:∀{a_ C:List AV} {o:Nat} {g:Os},qO os n a_ o=some (C,g)->K4 os n a_ C o g
 |[],C,o,g,h=>by
  simp only[qO,Option.some.injEq,Prod.mk.injEq] at h;obtain⟨rfl,rfl⟩:=h;exact⟨rfl,fun _ _ h=>(by cases h),fun off a h=>by simp at h,fun off isz ie h=>by simp at h,fun off c y p A _ _ h=>by simp at h,fun _ _ h=>(by cases h)⟩
 |a::r,C,o,g,h=>by
  rw[qO] at h;cases E:qO os n r (o+1) with
  |none=>rw[E] at h;cases h
  |some q =>
   obtain⟨D,g1⟩:=q;rw[E] at h;have ih:=Cp E;have sh:∀off,o+(off+1)=o+1+off:=fun off=>d9;simp only at h;split at h
   ·rename_i d;split at h
    ·rename_i B;simp only[Option.some.injEq,Prod.mk.injEq] at h;obtain⟨rfl,rfl⟩:=h;refine⟨by simp[ih.len],ih.sub,fun off b w t=>?_,fun off isz ie hl l=>?_,fun off c y p A k i j s=>?_,fun id ob u=>?_⟩
     ·cases off with
      |zero=>simp at w;subst w;exact⟨rfl,B⟩
      |succ off=>rw[sh] at t;simpa using ih.cell off b (by simpa using w) t
     ·cases off with
      |zero=>simp only[Nat.add_zero] at l;rw[d] at l;cases l
      |succ off=>rw[sh] at l;simpa using ih.tL off isz ie (by simpa using hl) l
     ·cases off with
      |zero=>simp only[Nat.add_zero] at k;rw[d] at k;cases k
      |succ off=>cases c with
       |zero=>simp only[Nat.add_zero] at i;rw[d] at i;cases i
       |succ c=>rw[sh] at k i;rw[ih.one off c y p A k i (by simpa using j) (by simpa using s)]
     ·obtain⟨off,p,isz,ls,ie,k,i,j⟩:=ih.from_ id ob u;exact⟨off+1,p,isz,ls,ie,by rw[sh];exact k,by simpa using i,j⟩
    ·cases h
   ·rename_i isz ie d;split at h
    ·simp only[Option.some.injEq,Prod.mk.injEq] at h;obtain⟨rfl,rfl⟩:=h;refine⟨by simp[ih.len],ih.sub,fun off b w t=>?_,fun off f m hl l=>?_,fun off c y p A k i j s=>?_,fun id ob u=>?_⟩
     ·cases off with
      |zero=>simp only[Nat.add_zero] at t;rw[d] at t;cases t
      |succ off=>rw[sh] at t;simpa using ih.cell off b (by simpa using w) t
     ·cases off with
      |zero=>simp only[Nat.add_zero] at l;rw[d] at l;cases l;exact .inl ⟨rfl,rfl⟩
      |succ off=>rw[sh] at l;simpa using ih.tL off f m (by simpa using hl) l
     ·cases off with
      |zero=>simp at j
      |succ off=>cases c with
       |zero=>simp at s
       |succ c=>rw[sh] at k i;rw[ih.one off c y p A k i (by simpa using j) (by simpa using s)]
     ·obtain⟨off,p,f,ls,m,k,i,j⟩:=ih.from_ id ob u;exact⟨off+1,p,f,ls,m,by rw[sh];exact k,by simpa using i,j⟩
    ·rename_i y;split at h
     ·rename_i f ls m L;split at h
      ·rename_i H I x;obtain rfl:=MN H;obtain rfl:=MN I;simp only[Option.some.injEq,Prod.mk.injEq] at h;obtain⟨rfl,rfl⟩:=h;have M:∀z ob,lk g1 z=some ob->lk ((y,Obj.row isz ls ie)::g1) z=some ob:=fun z ob F=>by
        rw[E8 _ _ (fun e=>by rw[e,F] at x;cases x)];exact F
       have other:∀off p,lk n (o+1+off)=some p->r[off]?=some (.aK y)->False:=fun off p k i=>by
        have hl:off<D.length:=by rw[ih.len];exact(ME.1 i).1
        rcases ih.tL off p.1 p.2 hl k with⟨j,_⟩|⟨G,v,j,s,_⟩
        ·rw[i] at j;cases j
        ·rw[i] at j;cases j;rw[x] at s;cases s
       refine⟨by simp[ih.len],fun id ob u=>?_,fun off b w t=>?_,fun off f m hl l=>?_,fun off c z p A k i j s=>?_,fun id ob u=>?_⟩
       ·rw[l8] at u;split at u
        ·rename_i e;subst e;cases u;exact L
        ·exact ih.sub id ob u
       ·cases off with
        |zero=>simp only[Nat.add_zero] at t;rw[d] at t;cases t
        |succ off=>rw[sh] at t;simpa using ih.cell off b (by simpa using w) t
       ·cases off with
        |zero=>simp only[Nat.add_zero] at l;rw[d] at l;cases l;exact .inr ⟨y,ls,rfl,j5 _ _ _,rfl⟩
        |succ off =>
         rw[sh] at l;rcases ih.tL off f m (by simpa using hl) l with h|⟨G,v,j,s,J⟩
         ·exact .inl (by simpa using h)
         ·exact .inr ⟨G,v,by simpa using j,M _ _ s,by simpa using J⟩
       ·cases off with
        |zero=>cases c with
         |zero=>rfl
         |succ c =>
          simp only[My,Option.some.injEq,AV.aK.injEq] at j;subst j;rw[sh] at i;exact(other c A i (by simpa using s)).elim
        |succ off=>cases c with
         |zero =>
          simp only[My,Option.some.injEq,AV.aK.injEq] at s;subst s;rw[sh] at k;exact(other off p k (by simpa using j)).elim
         |succ c=>rw[sh] at k i;rw[ih.one off c z p A k i (by simpa using j) (by simpa using s)]
       ·rw[l8] at u;split at u
        ·rename_i e;subst e;cases u;exact⟨0,(isz,ie),isz,ls,ie,by simpa using d,rfl,rfl⟩
        ·obtain⟨off,p,f,v,m,k,i,j⟩:=ih.from_ id ob u;exact⟨off+1,p,f,v,m,by rw[sh];exact k,by simpa using i,j⟩
      ·cases h
     ·cases h
    ·cases h
def xh (tab:R9) (os:Os) (ev:Ev) (d:Nat) (t:TypeId) (n:Nat) (b:Array (Nat×Operand)) (K:Kt):Prop :=
 match lk tab t,n,b.toList with
 |some ti,1,[(0,x)]=>match lk tab ti.elem,(ev x).cells? with
  |some te,some a_=>∃a c g,qO os a a_ 0=some (c,g)/\ti.kind=2/\te.size=a_.length/\te.size<=16777216/\0<te.size/\lk g d=none/\lk g (d+700)=none/\K (.aK d) (g.map (·.1)) [d,d+700] ((d,.deep te.size ti.elem a [c] [] (d+700))::(d+700,.aF)::I7 g)
  |_,_=>False
 |_,_,_=>False
def nn {c:Type} {a b:c} {i:Nat} (h:[a][i]?=some b):i=0/\b=a:=by
 cases i with
 |zero=>simp at h;exact⟨rfl,h.symm⟩
 |succ i=>simp at h
def ID (hT:M9 P tab) (d:Nat) {t:TypeId} {n:Nat} {q:Array (Nat×Operand)} (ho:o.op=.buildSlice t n q) (h:xh tab os ev d t n q K):Y6 P o ev os K:=by
 unfold xh at h;split at h
 ·rename_i ti x hti J;split at h
  ·rename_i te a_ hte hcs;obtain⟨r,M,g,hdc,hk,V,hmax,hpos,hgd,hgs,h⟩:=h;have D:=Cp hdc;have ht:=(hT t ti hti).af hk;have hE:=hT _ te hte;have hpa:q=#[(0,x)]:=by simpa using congrArg List.toArray J
   subst hpa;refine fun _=>⟨_,g,_,[d,d+700],fun c w R aO hr=>?_,D.sub,fun i hi=>?_,h⟩
   ·have r1:=hr x (by simp[ho,Op.operands]);obtain⟨rv,h1⟩:=kG r1 hcs;obtain⟨z,hz,hzo,hza⟩:=hE.bm w;have hzr:=lQ c.Φ w _ _ hzo;have hzl:z.cells.toList.length=te.size:=by rw[hzr.1.length,hE.zl]
    have G:(R x).cells.toList.length=te.size:=(by rw[rv.length,V]);generalize hus:(R x).cells.toList=us at rv h1 G;have hrun:(execOp R o).run P w=.ok (.value (.slice (some ⟨w.heap.size,0,none⟩) 1 1)) (w.alloc (.cells us.toArray ti.elem)):=by
     have Z:¬(1*te.size > 2 ^ 24):=d9;have h0:¬(1*te.size=0):=d9;have H:(Array.range (1*te.size)).map (z.cells[· % z.cells.size]!)=z.cells.toList.toArray:=by
      have:=wi z.cells.toList 1;rw[hzl] at this;apply Array.toList_inj.1;simpa[madeCells] using this
     obtain⟨rs,hrs⟩:=iu 0 us z.cells.toList d9;have hrs':rs=us:=by
      apply Mn;intro j;rw[Y2 hrs];by_cases hj:j<us.length
      ·rw[N2 d9];simp
      ·rw[N1 d9,Md d9,Md d9]
     have U:=bo 0 us 0 z.cells.toList rs (by simpa using hrs);have I:(R x).cells.zipIdx.foldl (fun(M:Array Value) (c,j)=>M.setIfInBounds (0+j) c) z.cells.toList.toArray=us.toArray:=by
      rw[<-hrs',<-U,<-hus,<-Array.foldl_toList];simp
     have hsz1:(R x).cells.size=te.size:=by rw[<-G,<-hus];simp
     have hsz2:z.cells.toList.toArray.size=te.size:=(by simpa using hzl);simp only[execOp,ho,Instr.buildSlice,Sem.run_bind,run_underlying ht,hE.ax,Result.andThen_ok,N1 Z,N1 h0,hz,Sem.run_pure,H];have T:Instr.fill (fun i=>some (i*te.size,te.size)) z.cells.toList.toArray [(0,R x)]=some us.toArray:=by
      simp only[Instr.fill,Nat.zero_mul];rw[N1 (by rw[hsz1,hsz2];simp)];exact congrArg some I
     have hpl:(Array.map (fun(p:Nat×Operand)=>(p.1,R p.2)) #[(0,x)]).toList=[(0,R x)]:=l9;simp[hpl,T,newRow]
    have s:∀b,b<w.heap.size->(w.alloc (.cells us.toArray ti.elem)).heap[b]?=w.heap[b]?:=fun b f=>alloc_old w _ f;have hR:K5 (w.alloc (.cells us.toArray ti.elem)) (.slice (some ⟨w.heap.size,0,none⟩) 1 1) te.size ti.elem [us]:=by
     have:=K5.made (w:=w) (sz:=te.size) (e:=ti.elem) (css:=[us]) (fun v k=>by rw[Mh.1 k];exact G) (fun v k u E=>by rw[Mh.1 k] at E;exact h1 u E) (by simp[maxLen]);simpa using this
    have N:∀off isz ie u,us[off]?=some u->lk r off=some (isz,ie)->(M[off]?=some (.sl isz [])/\u=.slice none 0 0)\/∃y ls,a_[off]?=some (.aK y)/\lk g y=some (.row isz ls ie)/\M[off]?=some (.sl isz ls)/\u=c.hd y:=fun off isz ie u E S=>by
     have hlt:off<M.length:=by rw[D.len,<-V,<-G];exact(ME.1 E).1
     rcases D.tL off isz ie hlt (by simpa using S) with⟨B,C⟩|⟨y,ls,B,C,X⟩
     ·obtain⟨v,k,hr⟩:=rv.get B;rw[E] at k;cases k;exact .inl ⟨C,hr.bH⟩
     ·obtain⟨v,k,hr⟩:=rv.get B;rw[E] at k;cases k;obtain⟨A,m,cap,e1,e2,_⟩:=hr.bF;exact .inr ⟨y,ls,B,C,X,by rw[e1,e2]⟩
    have F:∀off p u b,us[off]?=some u->lk r off=some p->u.ownBlock=some b->∃y ob,a_[off]?=some (.aK y)/\lk g y=some ob/\aW c y ob b:=fun off p u b E S f=>by
     rcases N off p.1 p.2 u E S with⟨_,rfl⟩|⟨y,ls,B,C,_,rfl⟩
     ·cases f
     ·exact⟨y,_,B,C,f⟩
    have hD:dc c.Φ c.hd (w.alloc (.cells us.toArray ti.elem)) r [] [M] [us]:=by
     refine⟨rfl,fun i us' cs' E S=>?_,fun i us' cs' off isz ie u E S a b _=>?_,fun i off x us u hm=>(by cases hm),fun i off v i' Q v' b Y W h4 h5=>?_⟩
     ·obtain⟨rfl,rfl⟩:=nn E;obtain⟨_,rfl⟩:=nn S;refine⟨by rw[G,D.len,V],fun off u a hu' ha hn=>?_⟩;obtain⟨B,C⟩:=D.cell off a ha (by simpa using hn);obtain⟨v,k,hr'⟩:=rv.get B;rw[hu'] at k;cases k;exact(Rd.rf C hr').mono (fun b f=>s b (aO.aq b f)) fun _ h=>h
     ·obtain⟨rfl,rfl⟩:=nn E;obtain⟨_,rfl⟩:=nn S;rcases N off isz ie u b a with⟨Y,rfl⟩|⟨y,ls,_,W,h4,rfl⟩
      ·exact⟨[],Y,[],⟨.inl ⟨rfl,rfl⟩,l9,l9⟩,rfl,fun i us M h=>by simp at h⟩
      ·exact⟨ls,h4,O7.ab (aO.rep y _ W) (fun b f=>s b (aO.aq b f)) (fun _ h=>h) fun b f=>s b (aO.lt y _ b W f).1⟩
     ·obtain⟨us1,p1,B,C,X,_⟩:=Y;obtain⟨us2,p2,b1,b2,b3,_⟩:=W;obtain⟨rfl,rfl⟩:=nn B;obtain⟨rfl,rfl⟩:=nn b1;obtain⟨y1,o1,c1,c2,c3⟩:=F off p1 v b X C h4;obtain⟨y2,o2,d1,d2,d3⟩:=F Q p2 v' b b3 b2 h5;refine⟨rfl,?_⟩;by_cases hy:y1=y2
      ·subst hy;exact D.one off Q y1 p1 p2 (by simpa using C) (by simpa using b2) c1 d1
      ·exact(aO.sep y1 y2 o1 o2 b hy c2 d2 c3 d3).elim
    have O:∀i off v b,bN [us] r [] i off v->v.ownBlock=some b->∃y ob,lk g y=some ob/\aW c y ob b:=fun i off v b k f=>by
     obtain⟨us1,p1,B,C,X,_⟩:=k;obtain⟨rfl,rfl⟩:=nn B;obtain⟨y1,o1,_,c2,c3⟩:=F off p1 v b X C f;exact⟨y1,o1,c2,c3⟩
    obtain⟨L,hp⟩:=aS.deep (w':=w.alloc (.cells us.toArray ti.elem)) (l:=[M]) (d:=d) (sh:=d+700) aO d9 hgd hgs rfl rfl rfl (by rw[mU];omega) (fun b=>∃id o,lk g id=some o/\aW c id o b) (fun b=>Iff.rfl) (fun b f _=>s b f) hR hD
     (fun b f=>.inl (by have f:some w.heap.size=some b:=f;cases f;exact It _)) (fun i off v b k f=>.inr (O i off v b k f)) (fun i off v b k f hb'=>by
      have f:some w.heap.size=some b:=f;cases f;obtain⟨y,ob,Y,W⟩:=O i off v _ k hb';have:=(aO.lt y ob _ Y W).1;omega)
    rw[hrun];exact⟨_,hp,.aK (by simp[Ctx.aN]) (It _) (by simp[maxLen])⟩
   ·simp only[MG,List.not_mem_nil,or_false] at hi;rcases hi with rfl|rfl
    ·rw[j5];rfl
    ·rw[E8 _ _ d9,j5];rfl
  ·exact h.elim
 ·exact h.elim
def vV {c:Ctx} {w:World} {g:Os} {id sz e sh:Nat} {f:bz} {l:List (List AV)} {v:Value} (aO:Q5 c w g) (r:lk g id=some (.deep sz e f l [] sh)) (D:Rd c w v (.aK id)):Rd (c.fz g) w v (.sl sz l):=by
 obtain⟨A,cap,e1,C,J,L⟩:=pj (aO.rep id _ r) D;obtain⟨css,E,t,M,F⟩:=uv aO r;have n:∀b,aW c id (.deep sz e f l [] sh) b->ck c g b:=fun b k=>.inr ⟨id,_,r,k⟩;refine .fz ?_;rw[e1,<-C];refine E.rf (Φ:=ck c g) t.len (fun i us d s y=>?_) (fun _ h=>h) fun b k=>n b (.inl k);obtain⟨G,H⟩:=t.cell i us d s y;have key:∀(us:List Value) (d:List AV),us.length=d.length->(∀(off:Nat) (u:Value) (a:AV),us[off]?=some u->d[off]?=some a->Rf (ck c g) w u a)->H5 (ck c g) w us d:=by
  intro us
  induction us with
  |nil=>intro d hl _;cases d with
   |nil=>exact .nil
   |cons a d=>cases hl
  |cons u us ih=>intro d hl h;cases d with
   |nil=>cases hl
   |cons a d=>exact .cons (h 0 u a rfl rfl) (ih d (by simpa using hl) fun off I z m q=>h (off+1) I z (by simpa using m) (by simpa using q))
 refine key us d G fun off u a m q=>?_;cases j:lk f off with
 |none=>exact(H off u a m q j).mono (fun _ _=>rfl) fun b k=>.inl k
 |some p =>
  obtain⟨isz,ie⟩:=p;obtain⟨ls,x,B⟩:=t.inner i us d off isz ie u s y j m nS;rw[q] at x;cases x;exact B.rf (fun b k=>.inl k) fun b k=>n b (F i off u b ⟨us,_,s,j,m,nS⟩ k)
structure gk (os:Os) (a_ r:List AV) (g:Os):Prop where
 sub:∀id o,lk g id=some o->lk os id=some o
 run:∀(c:Ctx) (w:World) (us:List Value),Q5 c w g->w9 c w us a_->w9 (c.fz g) w us r
theorem gJ.hU {a_ r:List AV} {g:Os} (h:gJ os a_ r g):gk os a_ r g:=⟨h.sub,h.run⟩
theorem gk.cG {id:Nat} {a b:AV} {o:Obj} {l r:List AV} {g:Os} (e:lk os id=some o) (f:∀(c:Ctx) (w:World) (v:Value) (g:Os),Q5 c w g->lk g id=some o->Rd c w v a->Rd (c.fz g) w v b) (H:gk os l r g):gk os (a::l) (b::r) ((id,o)::g):=by
 have j:∀i x,lk ((id,o)::g) i=some x->lk os i=some x:=fun i x h=>by
  rw[l8] at h;split at h
  ·rename_i e1;subst e1;cases h;exact e
  ·exact H.sub i x h
 refine⟨j,fun c w us aO h=>?_⟩;cases h with|cons h t =>
  have d:∀i x,lk g i=some x->lk ((id,o)::g) i=some x:=fun i x hi=>by
   rw[l8];split
   ·rename_i e1;subst e1;rw[<-e,H.sub _ _ hi]
   ·exact hi
  exact .cons (f c w _ _ aO (j5 _ _ _) h) ((H.run c w _ (aO.sub d) t).bu d)
theorem gk.skip {a:AV} {l r:List AV} {g:Os} (H:gk os l r g):gk os (a::l) (a::r) g :=
 ⟨H.sub,fun c w us aO h=>by cases h with|cons h t=>exact .cons (h.EP g) (H.run c w _ aO t)⟩
def hA (os:Os):List AV->List AV×Os
 |[]=>([],[])
 |.aK id::l=>match lk os id with
  |some (.row sz ls e)=>(.sl sz ls::(hA os l).1,(id,.row sz ls e)::(hA os l).2)
  |some (.deep sz e b z [] sh)=>(.sl sz z::(hA os l).1,(id,.deep sz e b z [] sh)::(hA os l).2)
  |_=>(.aK id::(hA os l).1,(hA os l).2)
 |a::l=>(a::(hA os l).1,(hA os l).2)
def cV (os:Os):List AV->List AV×Os
 |[]=>([],[])
 |.aK id::l=>match lk os id with
  |some (.row sz ls e)=>(.sl sz ls::(cV os l).1,(id,.row sz ls e)::(cV os l).2)
  |some (.deep sz e b z [] sh)=>(.sl sz z::(cV os l).1,(id,.deep sz e b z [] sh)::(cV os l).2)
  |_=>(.aK id::(cV os l).1,(cV os l).2)
 |.agg cs::l=>(.agg (hA os cs).1::(cV os l).1,(hA os cs).2++(cV os l).2)
 |.dQ id n sz'::l=>match lk os id with
  |some (.row sz ls e)=>match AT sz' sz with
   |true=>(.sl sz (ls.drop n)::(cV os l).1,(id,.row sz ls e)::(cV os l).2)
   |false=>(.dQ id n sz'::(cV os l).1,(cV os l).2)
  |_=>(.dQ id n sz'::(cV os l).1,(cV os l).2)
 |a::l=>(a::(cV os l).1,(cV os l).2)
def L4 {c:Ctx} {w:World} {g:Os} {id sz e n:Nat} {ls:List (List AV)} {v:Value} (aO:Q5 c w g) (q:lk g id=some (.row sz ls e)) (s:Rd c w v (.dQ id n sz)):Rd (c.fz g) w v (.sl sz (ls.drop n)):=by
 obtain⟨A,m,cap,rfl,j,x,l,p⟩:=s.oU;have h:=nr aO q (Rd.aK (w:=w) j l p);have r:ls.length=m:=by
  obtain⟨i,k,us,b,o,e,_⟩:=h.jx;injection e with _ e _
  exact e.symm
 obtain⟨i,f,e,y,d⟩:=h.off (a:=n) d9;injection e with t z u
 subst t u;rw[r] at d;exact d
def KO : ∀a_:List AV,gk os a_ (hA os a_).1 (hA os a_).2:=by
 intro a_
 fun_induction hA os a_ with
 |case1=>exact⟨fun _ _ h=>(by cases h),fun c w us _ h=>by cases h;exact .nil⟩
 |case2 id l sz ls e b ih=>exact .cG b (fun c w v g aO d h=>nr aO d h) ih
 |case3 id l sz e f z sh b ih=>exact .cG b (fun c w v g aO d h=>vV aO d h) ih
 |case4 id l _ _ ih=>exact .skip ih
 |case5 a l _ ih=>exact .skip ih
def Ds : ∀a_:List AV,gk os a_ (cV os a_).1 (cV os a_).2:=by
 intro a_
 fun_induction cV os a_ with
 |case1=>exact⟨fun _ _ h=>(by cases h),fun c w us _ h=>by cases h;exact .nil⟩
 |case2 id l sz ls e a ih=>exact .cG a (fun c w v g aO b h=>nr aO b h) ih
 |case3 id l sz e f z sh a ih=>exact .cG a (fun c w v g aO b h=>vV aO b h) ih
 |case4 id l _ _ ih=>exact .skip ih
 |case5 j l ih =>
  have C:=KO (os:=os) j;obtain⟨s1,i,s3⟩:=pM C.sub ih.sub;refine⟨s1,fun c w us aO h=>?_⟩;cases h with|cons h t =>
   obtain⟨vs,rfl,k⟩:=h.cU;exact .cons (.agg ((C.run c w _ (aO.sub s3) k).bu s3)) ((ih.run c w _ (aO.sub i) t).bu i)
 |case6 id n m l sz ls e a d ih =>
  obtain rfl:=MN d;exact .cG a (fun c w v g aO b h=>L4 aO b h) ih
 |case7=>rename_i ih;exact .skip ih
 |case8=>rename_i ih;exact .skip ih
 |case9=>rename_i ih;exact .skip ih
end
def top : Nat:=1000
def jh : Os->Os->Prop
 |[],_=>True
 |(k,o)::r,os=>lk os k=some o/\jh r os
theorem sG {os:Os}:∀{need:Os},jh need os->∀id o,lk need id=some o->lk os id=some o
 |(k,x)::r,h,id,o,hl=>by
  rw[l8] at hl;split at hl
  ·rename_i e;subst e;cases hl;exact h.1
  ·exact sG h.2 id o hl
def fN : AV->Bool
 |.int _=>true
 |.ik _ _=>true
 |.bool _=>true
 |.str _=>true
 |.any=>true
 |.aU _=>true
 |.dj _=>true
 |_=>false
def nz : AV->Bool
 |.aZ l=>l.all fN
 |.agg l=>l.all fN
 |a=>fN a
def vD {c c':Ctx} {w w':World} {v:Value} {a:AV} (h:fN a=true) (b:Rd c w v a):Rd c' w' v a:=by
 cases a<;>first|cases h|skip
 ·exact Rd.dM v
 ·obtain⟨rfl,h⟩:=b.ah;exact .fz (.int h)
 ·rw[b.kf];exact .fz (.ik _ _)
 ·rw[b.bL];exact .fz (.bool _)
 ·obtain⟨rfl,h⟩:=b.bY;exact .fz (.str h)
 ·rcases b.oM with⟨rfl,rfl⟩|⟨t,p,rfl,rfl⟩
  ·exact .fz .eO
  ·exact .fz (.ei t p)
 ·rw[b.jE];exact .fz (.aU _)
theorem uM {c c':Ctx} {w w':World}:∀{us:List Value} {a_:List AV},a_.all fN=true->w9 c w us a_->w9 c' w' us a_
 |_,_,_,.nil=>.nil
 |_,_,h,.cons x t=>by
  simp only[List.all_cons,IT] at h;exact .cons (vD h.1 x) (uM h.2 t)
def J0 {c c':Ctx} {w w':World} {v:Value} {a:AV} (h:nz a=true) (b:Rd c w v a):Rd c' w' v a:=by
 unfold nz at h;split at h
 ·obtain⟨us,rfl,d⟩:=b.fo;exact .aZ (uM h d)
 ·obtain⟨us,rfl,d⟩:=b.cU;exact .agg (uM h d)
 ·exact vD h b
def qK : Obj->Prop
 |.aF=>True
 |.row _ ls _=>∀c∈ls,c.all fN=true
 |.deep _ _ b l _ _=>∀c∈l,∀(off:Nat) (a:AV),c[off]?=some a->match lk b off with
  |none=>fN a=true
  |some _=>∃isz ls,a=.sl isz ls/\∀d∈ls,d.all fN=true
 |_=>False
def lu : Os->Prop
 |[]=>True
 |p::r=>qK p.2/\lu r
theorem lu.at : ∀{l:Os},lu l->∀{id:Nat} {o:Obj},lk l id=some o->qK o
 |(k,x)::r,h,id,o,hl=>by
  rw[l8] at hl;split at hl
  ·cases hl;exact h.1
  ·exact lu.at h.2 hl
def qR : AV->Bool
 |.aZ l=>l.all fun a=>match a with|.aK _=>true|.agg b=>b.all fN|a=>fN a
 |.aK _=>true
 |.agg b=>b.all fN
 |a=>fN a
def Cj {Φ b:Nat->Prop} {w w':World} {v:Value} {a:AV} (h:fN a=true) (c:Rf Φ w v a):Rf b w' v a:=by
 cases c<;>first|cases h|skip
 ·exact .any _
 ·exact .int (by assumption)
 ·exact .ik _ _
 ·exact .bool _
 ·exact .str (by assumption)
 ·exact .eO
 ·exact .ei _ _
 ·exact .aU _
theorem xS {Φ a:Nat->Prop} {w w':World}:∀{us:List Value} {a_:List AV},a_.all fN=true->H5 Φ w us a_->H5 a w' us a_
 |_,_,_,.nil=>.nil
 |_,_,h,.cons x t=>by
  simp only[List.all_cons,IT] at h;exact .cons (Cj h.1 x) (xS h.2 t)
theorem qK.rep {c c':Ctx} {w:World} {id:Nat} {o:Obj} (r:qK o) (h:dH c w id o) (q:c'.hd=c.hd) (I:c'.μ=c.μ):dH c' w id o:=by
 cases o with
 |aF=>trivial
 |row sz ls e =>
  obtain⟨css,s,f,t⟩:=h;exact⟨css,by rw[q];exact s,f,fun i us b n d=>xS (r b (MP d)) (t i us b n d)⟩
 |deep sz e v l J sh =>
  obtain⟨css,s,f,t,E⟩:=h;refine⟨css,by rw[q];exact s,⟨f.len,fun i us b n d=>⟨(f.cell i us b n d).1,fun off u a g j m=>?_⟩,fun i us b off isz ie u n d g j m=>?_,fun i off x us u g j m=>by rw[q];exact f.hole i off x us u g j m,f.apart⟩,by rw[q];exact t,by rw[q];exact E⟩
  ·have:=r b (MP d) off a j;rw[m] at this;exact Cj this ((f.cell i us b n d).2 off u a g j m)
  ·obtain⟨ls,A,css',F,G,H⟩:=f.inner i us b off isz ie u n d g j m;have:=r b (MP d) off _ A;rw[g] at this;obtain⟨z,D,e1,B⟩:=this;cases e1;exact⟨ls,A,css',F,G,fun k us' p C y=>xS (B p (MP y)) (H k us' p C y)⟩
 |_=>exact r.elim
def JV {c c':Ctx} {w:World} {v:Value} {a:AV} (b:qR a=true) (h:Rd c w v a) (j:c'.hd=c.hd):Rd c' w v a:=by
 have aK:∀{v:Value} {id:Nat},Rd c w v (.aK id)->Rd c' w v (.aK id):=fun {v id} h=>by
  obtain⟨A,n,cap,e1,f,g,i⟩:=h.bF;rw[e1];exact .aK (by rw[j];exact f) g i
 have agg:∀{v:Value} {d:List AV},d.all fN=true->Rd c w v (.agg d)->Rd c' w v (.agg d):=fun {v d} b h=>by
  obtain⟨us,rfl,e⟩:=h.cU;exact .agg (uM b e)
 unfold qR at b;split at b
 ·rename_i l;obtain⟨us,rfl,e⟩:=h.fo;refine .aZ ?_;clear h
  induction l generalizing us with
  |nil=>cases e;exact .nil
  |cons a l ih =>
   cases e with|cons h t =>
   simp only[List.all_cons,IT] at b;refine .cons ?_ (ih b.2 _ t);cases a<;>first|exact aK h|exact agg b.1 h|exact vD b.1 h
 ·exact aK h
 ·exact agg b h
 ·exact vD b h
structure L9 (P:Program) (f:Nat) (ins:List AV) (os:Os) (K:Kt):Prop where
 out:(∃(ins0 ins':List AV) (g need upd:Os) (news:List Nat) (av:AV),Spec P f need ins' av upd news/\gJ os ins ins0 g/\dU ins0 ins'/\jh need os/\(need.all fun p=>(lk g p.1).isNone)=true/\(need.all fun p=>kI news p.2.ids)=true /\
  K av ((g++need).map (·.1)) news (upd++I7 g)) \/
 (∃(ins0 ins':List AV) (g:Os) (av:AV),Spec P f [] ins' av [] []/\gk os ins ins0 g/\dU ins0 ins'/\nz av=true/\K av (g.map (·.1)) [] []) \/
 (∃(ins0 ins':List AV) (g upd:Os) (news:List Nat) (av:AV),Spec P f [] ins' av upd news/\gk os ins ins0 g/\dU ins0 ins'/\qR av=true/\lu upd/\K av (g.map (·.1)) news upd)
section
variable {P:Program} {tab:R9} {et:eK} {o:Oper} {ev:Ev} {os:Os} {K:Kt}
theorem L9.fz {f:Nat} {ins a:List AV} {need upd:Os} {news:List Nat} {av:AV} (h:Spec P f need a av upd news) (b:dU (ch os ins).1 a) (e:jh need os) (hd:(need.all fun p=>(lk (ch os ins).2 p.1).isNone)=true)
  (d:(need.all fun p=>kI news p.2.ids)=true) (c:K av (((ch os ins).2++need).map (·.1)) news (upd++I7 (ch os ins).2)):L9 P f ins os K :=
 ⟨.inl ⟨_,a,_,need,upd,news,av,h,Bk ins,b,e,hd,d,c⟩⟩
theorem L9.a_ {f:Nat} {ins a:List AV} {need upd:Os} {news:List Nat} {av:AV} (h:Spec P f need a av upd news) (b:dU ins a) (g:jh need os)
  (e:(need.all fun p=>kI news p.2.ids)=true) (d:K av (need.map (·.1)) news upd):L9 P f ins os K :=
 ⟨.inl ⟨ins,a,[],need,upd,news,av,h,⟨fun _ _ h=>(by cases h),fun _ _ h=>(by cases h),fun c w us _ h=>w9.mono (c:=c) (c':=c.fz []) (fun _ _=>rfl) (fun _ h=>MF h) (fun _ _=>⟨rfl,rfl⟩) h⟩,b,g,MR.2 fun _ _=>rfl,e,by simpa[I7] using d⟩⟩
theorem L9.hU {f:Nat} {ins a:List AV} {av:AV} (h:Spec P f [] a av [] []) (b:dU (ch os ins).1 a) (d:nz av=true) (c:K av ((ch os ins).2.map (·.1)) [] []):L9 P f ins os K :=
 ⟨.inr (.inl ⟨_,a,_,av,h,(Bk ins).hU,b,d,c⟩)⟩
theorem L9.tf {f:Nat} {ins a:List AV} {av:AV} (h:Spec P f [] a av [] []) (b:dU (cV os ins).1 a) (d:nz av=true) (c:K av ((cV os ins).2.map (·.1)) [] []):L9 P f ins os K :=
 ⟨.inr (.inl ⟨_,a,_,av,h,Ds ins,b,d,c⟩)⟩
theorem L9.tg {f:Nat} {ins a:List AV} {upd:Os} {news:List Nat} {av:AV} (h:Spec P f [] a av upd news) (b:dU (cV os ins).1 a) (d:qR av=true) (e:lu upd) (c:K av ((cV os ins).2.map (·.1)) news upd):L9 P f ins os K :=
 ⟨.inr (.inr ⟨_,a,_,upd,news,av,h,Ds ins,b,d,e,c⟩)⟩
def xO {c:Go.Call} {f:Operand} {g:Nat} {d:List Value} {e:Operand->Value} {w:World} (l:o.op=.call c) (j:c.callee=.value f) (a:bg P g=true) (e1:e f=.func (.func g) #[] d.toArray) :
  (execOp e o).run P w=.ok (.enter g (c.args.toList.map e++d).toArray) w:=by
 unfold bg at a;split at a
 ·rename_i fn i;simp only[IT,Bool.not_eq_true',beq_eq_false_iff_ne,ne_eq] at a;have b:fn.body.isNone=false:=by cases m:fn.body<;>simp_all
  have k:c.args.map e++d.toArray=(c.args.toList.map e++d).toArray:=by
   apply Array.toList_inj.1;simp
  simp[execOp,l,resolve,j,e1,Deferred.ofValue,invoke,callFunc,i,a.2,k];intro h;rw[h] at b;cases b
 ·cases a
def K3 {c:Go.Call} {f:Operand} {g:Nat} {d:List AV} (D:o.op=.call c) (y:c.callee=.value f) (N:ev f=.fn g d) {l k:List AV} {gz:Os} {av:AV} (a:Spec P g [] k av [] [])
  (J:gk os (c.args.toList.map ev++d) l gz) (B:dU l k) (z:nz av=true) (L:K av (gz.map (·.1)) [] []):Y6 P o ev os K:=by
 intro _;obtain⟨p,C,a⟩:=a;refine⟨av,gz,[],[],fun q w H aO I=>?_,J.sub,fun id A=>(by cases A),L⟩;have rf:Rd q w (H f) (.fn g d):=by
  have:=I f (by simp[D,Op.operands,Go.Call.operands,y])
  rwa [N] at this
 obtain⟨s,e1,t⟩:=rf.qd;have n:w9 q w (c.args.toList.map H++s) (c.args.toList.map ev++d):=(ss fun x O=>I x (by simp[D,Op.operands,Go.Call.operands,y];exact .inr (by simpa using O))).append t;have i:=sP B (J.run q w _ aO n);have R:=aS.freeze aO;have m:∀(id:Nat) (o:Obj),lk ([]:Os) id=some o->False:=fun id o h=>(by cases h);have G:Q5 (q.fz gz) w []:=⟨fun id o h=>(m id o h).elim,fun id o b h=>(m id o h).elim,fun id F o Q b _ h=>(m id o h).elim,R.aO.aq⟩;have j:=a (q.fz gz) w (c.args.toList.map H++s).toArray G (by simpa using i);rw[xO D y p e1];refine j.mono fun e w' ⟨v,c',M,r,E⟩=>⟨v,M,q,⟨r.cX,r.tape,r.output,r.size,fun _ h=>h,fun _ h=>.inl h,fun b u _=>r.ab b u fun⟨id,o,h,_⟩=>m id o h,fun _ _=>⟨rfl,rfl⟩,
  ⟨fun id o h=>(m id o h).elim,fun id o b h=>(m id o h).elim,fun id F o Q b _ h=>(m id o h).elim,fun b u=>Nat.lt_of_lt_of_le (aO.aq b u) r.size⟩,fun id o b h=>(m id o h).elim⟩,J0 z E⟩
def JD {c:Go.Call} {f:Operand} {g:Nat} {d:List AV} (O:o.op=.call c) (G:c.callee=.value f) (r:ev f=.fn g d) {n m:List AV} {gz upd:Os} {news:List Nat} {av:AV} (a:Spec P g [] m av upd news)
  (U:gk os (c.args.toList.map ev++d) n gz) (M:dU n m) (J:qR av=true) (L:lu upd) (W:K av (gz.map (·.1)) news upd):Y6 P o ev os K:=by
 intro _;obtain⟨q,t,a⟩:=a;refine⟨av,gz,upd,news,fun y w S aO T=>?_,U.sub,t,W⟩;have rf:Rd y w (S f) (.fn g d):=by
  have:=T f (by simp[O,Op.operands,Go.Call.operands,G])
  rwa [r] at this
 obtain⟨z,e1,B⟩:=rf.qd;have p:w9 y w (c.args.toList.map S++z) (c.args.toList.map ev++d):=(ss fun x Y=>T x (by simp[O,Op.operands,Go.Call.operands,G];exact .inr (by simpa using Y))).append B;have k:=sP M (U.run y w _ aO p);have Z:=aS.freeze aO;have D:∀(id:Nat) (o:Obj),lk ([]:Os) id=some o->False:=fun id o h=>(by cases h);have R:Q5 (y.fz gz) w []:=⟨fun id o h=>(D id o h).elim,fun id o b h=>(D id o h).elim,fun id u o E b _ h=>(D id o h).elim,Z.aO.aq⟩;have l:=a (y.fz gz) w (c.args.toList.map S++z).toArray R (by simpa using k);rw[xO O G q e1];refine l.mono fun e w' ⟨v,c',X,j,Q⟩=>⟨v,X,{ c' with Φ:=y.Φ },⟨j.cX,j.tape,j.output,j.size,fun _ h=>h,fun _ h=>.inl h,fun b A _=>j.ab b A fun⟨id,o,h,_⟩=>D id o h,fun i hi=>j.ctx i hi,
  ⟨fun id o h=>(L.at h).rep (j.aO.rep id o h) rfl rfl,fun id o b h r=>?_,fun id u o E b N h V r=>?_,fun b A=>Nat.lt_of_lt_of_le (aO.aq b A) j.size⟩,fun id o b h r=>?_⟩,JV J Q rfl⟩
 ·have s:aW c' id o b:=by cases o<;>exact r
  have:=j.aO.lt id o b h s;exact⟨this.1,fun A=>this.2 (j.aq b (.inl A))⟩
 ·have H:aW c' id o b:=by cases o<;>exact r
  intro I;have C:aW c' u E b:=by cases E<;>exact I
  exact j.aO.sep id u o E b N h V H C
 ·have s:aW c' id o b:=by cases o<;>exact r
  rcases j.az id o b h s with F|⟨i,x,F,_⟩
  ·exact .inl F
  ·exact(D i x F).elim
def KX {c:Go.Call} {f:Operand} {g:Nat} {caps:List AV} (ho:o.op=.call c) (hc:c.callee=.value f) (hf:ev f=.fn g caps) (h:L9 P g (c.args.toList.map ev++caps) os K):Y6 P o ev os K:=by
 rcases h.out with⟨ins0,ins',gz,need,upd,news,av,hspec,hz,hle,hs,hd,hfr,hK⟩|⟨ins0,ins',gz,av,hspec,hz,hle,hfl,hK⟩|⟨ins0,ins',gz,upd,news,av,hspec,hz,hle,hfl,hfu,hK⟩
 case inr.inl=>exact K3 ho hc hf hspec hz hle hfl hK
 case inr.inr=>exact JD ho hc hf hspec hz hle hfl hfu hK
 intro _;obtain⟨hcall,hnews,hspec⟩:=hspec;have hsub:=sG hs;obtain⟨s1,s2,s3⟩:=pM hz.sub hsub;have hnone:∀id x,lk need id=some x->lk gz id=none:=fun id x h=>by
  have:=MR.1 hd _ (dR h);simpa using this
 refine⟨av,gz++need,upd++I7 gz,news,fun cx w ρ aO hr=>?_,s1,fun id hid=>?_,hK⟩
 ·have rf:Rd cx w (ρ f) (.fn g caps):=by
   have:=hr f (by simp[ho,Op.operands,Go.Call.operands,hc])
   rwa [hf] at this
  obtain⟨cus,e1,hcus⟩:=rf.qd;have hargs:w9 cx w (c.args.toList.map ρ++cus) (c.args.toList.map ev++caps):=(ss fun x hx=>hr x (by simp[ho,Op.operands,Go.Call.operands,hc];exact .inr (by simpa using hx))).append hcus;have hargs':=sP hle (hz.run cx w _ (aO.sub s3) hargs);have p1:=(aS.freeze (aO.sub s3)).gZ s3;have ok1:Q5 (cx.fz gz) w need:=by
   have hfrm:=aO.frame (fun _ _ h=>h) p1 (fun _ h=>(by cases h)) (fun _ _ _ _ _ h=>(by cases h));refine hfrm.sub fun id x hl=>?_;have hg:lk (I7 gz) id=none:=by
    have:=re gz id;rw[hnone id x hl] at this;cases hq:lk (I7 gz) id with
    |none=>rfl
    |some y=>rw[hq] at this;cases this
   rw[J7,hg];simpa using s2 id x hl
  have hcalls:=hspec (cx.fz gz) w (c.args.toList.map ρ++cus).toArray ok1 (by simpa using hargs');rw[xO ho hc hcall e1];refine hcalls.mono fun e w' ⟨v,c',he,hp,hrd⟩=>⟨v,he,c',?_,hrd⟩;have:=aS.trans aO p1 hp (fun _ h=>(by cases h)) hnews (fun id x hl=>by
   have hg:lk (I7 gz) id=none:=by
    have:=re gz id;rw[hnone id x hl] at this;cases hq:lk (I7 gz) id with
    |none=>rfl
    |some y=>rw[hq] at this;cases this
   rw[J7,hg];simpa using s2 id x hl) (fun _ _ _ _ _ h=>(by cases h)) (fun id x hl hu y hy=>by
   rw[J7] at hl;cases hg:lk (I7 gz) id with
   |some z =>
    rw[hg] at hl;simp at hl;subst hl;rw[lq hg];simp[Obj.ids]
   |none =>
    rw[hg] at hl;simp at hl;rw[J7] at hl;cases hgz:lk gz id with
    |some z =>
     rw[hgz] at hl;simp at hl;subst hl;rw[hz.ids id z hgz];simp
    |none =>
     rw[hgz] at hl;simp at hl;exact oz (MR.1 hfr _ (dR hl)) y hy)
  simpa using this
 ·rw[J7];have:=hnews id hid;cases hu:lk upd id with
  |none=>rw[hu] at this;cases this
  |some x=>rfl
def qA (os:Os):AV->Bool
 |.aK id=>match lk os id with
  |some (.deep _ _ _ _ _ _)=>true
  |_=>false
 |.ep id _ _ _=>match lk os id with
  |some (.deep _ _ _ _ _ _)=>true
  |_=>false
 |_=>false
def LY (tab:R9) (t:TypeId):Bool:=match lk tab t with
 |some ti=>match lk tab ti.elem with
  |some te=>AT te.kind 1 && AT te.len 1
  |none=>false
 |none=>false
def kX {b:Bool} {X Y Z:Prop} (h:bif b then X else Y) (a:b=true->X->Z) (c:b=false->Y->Z):Z:=by
 cases b
 ·exact c rfl h
 ·exact a rfl h
def EA (tab:R9) (t:TypeId):Bool:=match lk tab t with
 |some ti=>AT ti.kind 2
 |none=>false
def EI (tab:R9) (t:TypeId) (x:AV):Bool :=
 match lk tab t with
 |some ti=>match x with
  |.str _=>AT ti.kind 4
  |.mp _=>AT ti.kind 8
  |_=>AT ti.kind 2
 |none=>false
def yd (P:Program) (tab:R9) (d:Nat) (c:Go.Call) (ev:Ev) (os:Os) (K:Kt):Prop :=
 match c.callee with
 |.builtin b=>match b,c.args.toList,c.argTypes.toList with
  |.len,[x],[t]=>bif qA os (ev x) then(match EA tab t with
    |true=>yo os (ev x) K
    |false=>False) else match EI tab t (ev x) with
   |true=>d38 os (ev x) K
   |false=>False
  |.append,[x,y],[t,e]=>bif qA os (ev x) then xG tab os d t e (ev x) (ev y) K else bif LI (ev y) then xR tab os d t e (ev x) (ev y) K else xw tab os d t e (ev x) (ev y) K
  |.min,[x,y],_=>yH (ev x) (ev y) K
  |.max,[x,y],_=>d14 (ev x) (ev y) K
  |_,_,_=>False
 |.value f=>match ev f with
  |.fn g a=>L9 P g (c.args.toList.map ev++a) os K
  |_=>False
 |.invoke _ _=>False
def Il (m:M9 P tab) (d:Nat) {c:Go.Call} (e:o.op=.call c) (h:yd P tab d c ev os K):Y6 P o ev os K:=by
 unfold yd at h;obtain⟨callee,args,argTypes⟩:=c;split at h
 ·rename_i b v;simp only at v;subst v;split at h
  ·rename_i x t i r;have a:args=#[x]:=by simpa using congrArg List.toArray i
   have j:argTypes=#[t]:=(by simpa using congrArg List.toArray r);subst a j;refine kX h (fun _ h=>?_) fun _ h=>?_
   ·split at h
    ·rename_i p;unfold EA at p;split at p
     ·rename_i ti k;exact KR m k (MN p) e h
     ·cases p
    ·exact h.elim
   split at h
   ·rename_i hl;refine Kh m e ?_ h;unfold EI at hl;split at hl
    ·rename_i ti k;rw[k];split at hl
     ·rename_i s l;rw[l];exact MN hl
     ·rename_i s l;rw[l];exact MN hl
     ·rename_i q n;have:=MN hl;cases l:ev x<;>first|exact this|exact absurd l (q _)|exact absurd l (n _)
    ·cases hl
   ·exact h.elim
  ·rename_i x y t A i r;have a:args=#[x,y]:=by simpa using congrArg List.toArray i
   have j:argTypes=#[t,A]:=(by simpa using congrArg List.toArray r);subst a j;exact kX h (fun _ h=>d10 m d e h) fun _ h=>kX h (fun _ h=>d48 m d e h) fun _ h=>IC m d e h
  ·rename_i x y i;have a:args=#[x,y]:=by simpa using congrArg List.toArray i
   subst a;exact Kx e h
  ·rename_i x y i;have a:args=#[x,y]:=by simpa using congrArg List.toArray i
   subst a;exact Kj e h
  ·exact h.elim
 ·rename_i f w;split at h
  ·rename_i g u z;exact KX e w z h
  ·exact h.elim
 ·exact h.elim
def j8 (P:Program) (tab:R9) (et:eK) (d:Nat) (op:Op) (ev:Ev) (os:Os) (K:Kt):Prop :=
 match op with
 |.move x=>K (ev x) [] [] []
 |.assign x=>K (ev x) [] [] []
 |.pick c a b=>yi ev c a b K
 |.alloc t=>wz tab d t K
 |.box t x=>d23 d t (ev x) K
 |.build t e=>yM tab ev t e K
 |.buildSlice t n e=>bif LY tab t then(xh tab os ev d t n e K\/uf tab os ev d t n e K) else uf tab os ev d t n e K
 |.load t x=>bif qA os (ev x) then yR tab os t (ev x) K else yf tab os t (ev x) (yq os K)
 |.store t x y=>bif qA os (ev x) then xq tab os t (ev x) (ev y) K else xo tab os t (ev x) (ev y) K
 |.nilCheck x=>d16 (ev x) K
 |.binOp op t x y _=>bif yp y then yI tab op t (ev x) (ev y) K else d59 tab et op t (ev x) (ev y) (fun av=>K av [] [] [])
 |.unOp op _ x=>yu op (ev x) K
 |.convert s t x=>ym tab s t (ev x) K
 |.makeFunc fn f c=>yn ev fn f c K
 |.makeSlice t x y=>yb tab d t (ev x) (ev y) K
 |.slice t x g hi none=>bif qA os (ev x) then xX tab os d t (ev x) (cB ev g) (cB ev hi) K else yU tab os d t (ev x) (cB ev g) (cB ev hi) K
 |.fieldAddr s x f=>wK tab s (ev x) f K
 |.field s x f=>yN tab s (ev x) f K
 |.indexAddr t x i=>bif qA os (ev x) then we tab os t (ev x) (ev i) K else wG tab os t (ev x) (ev i) K
 |.index t x i=>yS tab t (ev x) (ev i) K
 |.extract x i=>xT (ev x) i K
 |.makeMap _ none=>Bx d K
 |.lookup t x k false=>y6 tab os t (ev x) (ev k) K
 |.mapUpdate t x k v=>wI tab os t (ev x) (ev k) (ev v) K
 |.call c=>yd P tab d c ev os K
 |_=>False
def cM (hT:M9 P tab) (hE:fw P et) (d:Nat) (h:j8 P tab et d o.op ev os K):Y6 P o ev os K:=by
 cases ho:o.op<;>rw[ho] at h<;>simp only[j8] at h
 case move x=>exact DW (.inl ho) h
 case assign x=>exact DW (.inr ho) h
 case pick c a b=>exact Jd ho h
 case alloc t=>exact JZ hT d ho h
 case box t x=>exact LG d ho h
 case build t ps=>exact Ig hT ho h
 case buildSlice t n ps=>exact kX h (fun _ h=>h.elim (fun h=>ID hT d ho h) fun h=>An hT d ho h) fun _ h=>An hT d ho h
 case load t x=>exact kX h (fun _ h=>JF hT ho h) fun _ h=>(Ju hT ho h).res
 case store t x y=>exact kX h (fun _ h=>Hw hT ho h) fun _ h=>d94 hT ho h
 case nilCheck x=>exact Kk ho h
 case binOp op t x y ty=>exact kX h (fun hy h=>L0 hT ho hy h) fun _ h=>LB hT hE ho h
 case unOp op t x=>exact Lb ho h
 case convert s t x=>exact KL hT ho h
 case makeFunc fn f c=>exact KH ho h
 case makeSlice t x y=>exact K2 hT d ho h
 case slice t x lo hi mx=>cases mx with
  |none=>exact kX h (fun _ h=>Hz hT d ho h) fun _ h=>Iy hT d ho h
  |some m=>exact h.elim
 case fieldAddr s x f=>exact HE hT ho h
 case field s x f=>exact JW hT ho h
 case indexAddr t x i=>exact kX h (fun _ h=>H2 hT ho h) fun _ h=>HM hT ho h
 case index t x i=>exact J1 hT ho h
 case extract x i=>exact d33 ho h
 case makeMap t r=>cases r with
  |none=>exact d15 d ho h
  |some r=>exact h.elim
 case lookup t x k b=>cases b with
  |false=>exact IL hT ho h
  |true=>exact h.elim
 case mapUpdate t x k v=>exact HN hT ho h
 case call c=>exact Il hT d ho h
end
def im {p:Prop} [Decidable p] {X Y:Prop} (a:p->X) (b:¬p->Y):iO (decide p) X Y:=by
 by_cases h:p
 ·rw[N6 h];exact a h
 ·rw[N5 h];exact b h
def nq {b:Bool} {X Y:Prop} (a:b=true->X) (d:b=false->Y):iO b X Y:=by
 cases b
 ·exact d rfl
 ·exact a rfl
def F5 (a:List Nat) (ts:Ts):Bool:=match a with
 |[]=>true
 |_=>ts.all fun p=>kI a p.2.ids
def F4 (a:List Nat) (b os:Os):Bool:=match a with
 |[]=>true
 |_=>a.all (fun i=>MX i top) && os.all fun p=>(lk b p.1).isSome || kI a p.2.ids
def gG (n:Nat):Option Tmp->Bool
 |none=>true
 |some d=>MX d n
def dI : Option Tmp->AV->Ts->Ts
 |none,_,ts=>ts
 |some d,av,ts=>(d,av)::ts
def force (a:AV) (K:AV->Prop):Prop :=
 match a with
 |.any=>K .any
 |.int n=>K (.int n)
 |.ik k n=>K (.ik k n)
 |.bool b=>K (.bool b)
 |.str s=>K (.str s)
 |.sl sz ls=>K (.sl sz ls)
 |.ptr id off=>K (.ptr id off)
 |.fp d=>K (.fp d)
 |.aK id=>K (.aK id)
 |.dW id n=>K (.dW id n)
 |.dQ id n sz=>K (.dQ id n sz)
 |.ep id i sz off=>K (.ep id i sz off)
 |.fn f d=>K (.fn f d)
 |.agg d=>K (.agg d)
 |.aZ d=>K (.aZ d)
 |.aJ=>K .aJ
 |.fL b=>K (.fL b)
 |.aa=>K .aa
 |.aP=>K .aP
 |.mp id=>K (.mp id)
 |.cI id=>K (.cI id)
 |.np id=>K (.np id)
 |.dj b=>K (.dj b)
 |.aU v=>K (.aU v)
def force_eq (a:AV) (K:AV->Prop):force a K↔K a:=by cases a<;>exact Iff.rfl
def iS : Os->Os->(Os->Prop)->Prop
 |[],os,K=>K os
 |(k,o)::r,os,K=>iS r os fun x=>K ((k,o)::x)
theorem ji : ∀(a os:Os) (K:Os->Prop),iS a os K↔K (a++os)
 |[],_,_=>Iff.rfl
 |(k,o)::r,os,K=>by rw[iS,ji r os];rfl
def fa : Ts->(Ts->Prop)->Prop
 |[],K=>K []
 |(k,a)::r,K=>fa r fun x=>K ((k,a)::x)
theorem nU : ∀(ts:Ts) (K:Ts->Prop),fa ts K↔K ts
 |[],_=>Iff.rfl
 |(k,a)::r,K=>by rw[fa,nU r]
def qD (ops:List Oper) (ts:Ts) (j:Nat):Option Bool :=
 match ops[j]? with
 |some o=>match o.dst with
  |some d=>match lk ts d with
   |some (.bool b)=>some b
   |_=>none
  |none=>none
 |none=>none
def pC (ops:List Oper) (ts:Ts) (j:Nat):Bool :=
 match ops[j]? with
 |some o=>match o.dst with
  |some d=>match lk ts d with
   |some (.aZ [])=>true
   |_=>false
  |none=>false
 |none=>false
def jk (ops:List Oper) (o:Oper) (ts:Ts) (X Y:Prop):Prop :=
 match o.guard with
 |none=>X
 |some (j,true)=>match pC ops ts j with
  |true=>Y
  |false=>match qD ops ts j with
   |some b=>iO b X Y
   |none=>False
 |some (j,false)=>match pC ops ts j with
  |true=>Y
  |false=>match qD ops ts j with
   |some b=>iO b Y X
   |none=>False
def jt (P:Program) (tab:R9) (et:eK) (n:Nat) (ops:List Oper):List Oper->Ts->Os->(Ts->Os->Prop)->Prop
 |[],ts,os,K=>K ts os
 |o::rest,ts,os,K=>match o.dst with
  |some d=>match MX d n with
   |true=>jk ops o ts
    (j8 P tab et d o.op (cP ts) os fun av _ a b=>match F5 a ts && F4 a b os with
     |true=>force av fun av=>iS b os fun os=>jt P tab et n ops rest ((d,av)::ts) os K
     |false=>False)
    (jt P tab et n ops rest ((d,.aZ [])::ts) os K)
   |false=>False
  |none=>jk ops o ts
   (j8 P tab et 0 o.op (cP ts) os fun av _ a b=>match F5 a ts && F4 a b os with
    |true=>iS b os fun os=>jt P tab et n ops rest ts os K
    |false=>False)
   (jt P tab et n ops rest ts os K)
section
variable {P:Program} {tab:R9} {et:eK} {Γ:Z7}
theorem gL.put {c c':Ctx} {w w':World} {ts:Ts} {a:Act} {need upd:Os} {news:List Nat} {v:Value} {av:AV} {dst:Option Tmp} (h:gL c w ts a) (j:Q5 c w need) (k:aS c w c' w' need upd news) (i:∀t x,lk ts t=some x->∀id∈news,id ∉ x.ids)
  (l:Rd c' w' v av) (hd:gG a.tmps.size dst=true):gL c' w' (dI dst av ts) (a.put dst v):=by
 cases dst with
 |none =>
  intro t x hl;obtain⟨u,e,f⟩:=h t x hl;exact⟨u,e,f.post k j (i t x hl)⟩
 |some d =>
  intro t x hl;have g:d<a.tmps.size:=MZ hd;simp only[dI,l8] at hl;by_cases b:d=t
  ·rw[N2 b] at hl;cases hl;subst b;exact⟨v,by simp[Act.put,g],l⟩
  ·rw[N1 b] at hl;obtain⟨u,e,f⟩:=h t x hl;exact⟨u,by simp[Act.put,Array.getElem?_setIfInBounds_ne b,e],f.post k j (i t x hl)⟩
def rO {b:List Nat} {ts:Ts} (h:F5 b ts=true):∀t x,lk ts t=some x->∀id∈b,id ∉ x.ids:=by
 intro t x hl id a;unfold F5 at h;split at h
 ·cases a
 ·exact oz (MR.1 h _ (dR hl)) id a
def pA {b:List Nat} {d os:Os} (h:F4 b d os=true):(∀id o,lk os id=some o->lk d id=none->∀x∈b,x ∉ o.ids)/\∀x∈b,x<top:=by
 unfold F4 at h;split at h
 ·exact⟨fun _ _ _ _ _ h=>(by cases h),fun _ h=>(by cases h)⟩
 ·simp only[IT] at h;refine⟨fun id o hl e x a=>?_,fun x a=>?_⟩
  ·have:=MR.1 h.2 _ (dR hl);simp only[e,Option.isSome_none,Bool.false_or] at this;exact oz this x a
  ·exact MZ (MR.1 h.1 x a)
def vx (Γ:Z7) (c:Ctx):Prop:=∀id,top<=id->c.μ id=Γ.c.μ id/\c.hd id=Γ.c.hd id
structure EJ (Γ:Z7) (ts:Ts) (os:Os) (c:Ctx) (a:Act) (w:World):Prop where
 rel:Hq Γ ts os c a w
 same:vx Γ c
def E5 (Γ:Z7) (ts:Ts) (os:Os) (a:Act) (w:World):Prop:=∃c,EJ Γ ts os c a w
theorem cR.inst {r:Result Next} {R:Value->World->Prop} (h:cR P r R):∃v w,R v w:=by
 unfold cR at h;split at h
 ·exact⟨_,_,h⟩
 ·exact⟨_,_,h⟩
 ·obtain⟨e,w',fr,⟨v,_,a⟩,_⟩:=h [];exact⟨v,w',a⟩
 ·exact h.elim
def wL {c:Ctx} {w:World} {ops:List Oper} {ts:Ts} {a:Act} {j:Nat} {b:Bool} (h:gL c w ts a) (e:qD ops ts j=some b):yielded ops.toArray a.tmps j=some b:=by
 unfold qD at e;split at e
 ·rename_i o k;split at e
  ·rename_i d hd;split at e
   ·rename_i l i;cases e;obtain⟨v,f,g⟩:=h d _ i;rw[g.bL] at f;unfold yielded;simp[k,hd,f]
   ·cases e
  ·cases e
 ·cases e
def wN {c:Ctx} {w:World} {ops:List Oper} {ts:Ts} {a:Act} {j:Nat} (h:gL c w ts a) (b:pC ops ts j=true):yielded ops.toArray a.tmps j=none:=by
 unfold pC at b;split at b
 ·rename_i o i;split at b
  ·rename_i d hd;split at b
   ·rename_i g;obtain⟨v,e,f⟩:=h d _ g;obtain⟨us,rfl,_⟩:=f.fo;unfold yielded;simp[i,hd,e]
   ·cases b
  ·cases b
 ·cases b
def AP {c:Ctx} {w:World} {ops:List Oper} {o:Oper} {ts:Ts} {a:Act} {X Y:Prop} (h:gL c w ts a) (d:jk ops o ts X Y):(Region.wanted o (yielded ops.toArray a.tmps)=true/\X)\/(Region.wanted o (yielded ops.toArray a.tmps)=false/\Y):=by
 unfold jk at d;unfold Region.wanted;split at d
 ·rename_i e;rw[e];exact .inl ⟨rfl,d⟩
 ·rename_i j e;rw[e];split at d
  ·rename_i g;have:=wN h g;exact .inr ⟨by simp[this],d⟩
  split at d
  ·rename_i b f;have:=wL h f;cases b
   ·exact .inr ⟨by simp[this],d⟩
   ·exact .inl ⟨by simp[this],d⟩
  ·exact d.elim
 ·rename_i j e;rw[e];split at d
  ·rename_i g;have:=wN h g;exact .inr ⟨by simp[this],d⟩
  split at d
  ·rename_i b f;have:=wL h f;cases b
   ·exact .inl ⟨by simp[this],d⟩
   ·exact .inr ⟨by simp[this],d⟩
  ·exact d.elim
def sW (a:Act) (dst:Option Tmp) (v:Value):(a.put dst v).tmps.size=a.tmps.size:=by cases dst<;>simp[Act.put]
def put_defers (a:Act) (dst:Option Tmp) (v:Value):(a.put dst v).defers=a.defers:=by cases dst<;>simp[Act.put]
def Cr {o:Oper} {ts:Ts} {os:Os} {a:Act} {w:World} {K:Kt} (h:Y6 P o (cP ts) os K) (G:E5 Γ ts os a w)
  {u:Act->World->Prop} {Q:Exit->Act->World->Prop} (E:∀av rd l p,K av rd l p->(∀v w' c',F5 l ts=true->F4 l p os=true->gG Γ.n o.dst=true->EJ Γ (dI o.dst av ts) (p++os) c' (a.put o.dst v) w'->u (a.put o.dst v) w')/\F5 l ts=true/\F4 l p os=true/\gG Γ.n o.dst=true) :
  o.wp P a w u Q:=by
 obtain⟨c,⟨hd,C,k,aO,i⟩,f⟩:=G;have g:∀x∈o.op.operands.toList,Rd c w (a.eval x) (cP ts x):=fun x _=>qB k x;obtain⟨av,need,upd,news,j,b,d,q⟩:=h ⟨c,w,a.eval,aO,g⟩;obtain⟨e,f1,y,z⟩:=E _ _ _ _ q;have r:=j c w a.eval (aO.sub b) g;unfold Oper.wp;refine r.upon fun v w' ⟨c',m,H⟩=>?_;obtain⟨g1,D⟩:=pA y;refine e v w' c' f1 y z ⟨⟨by rw[put_defers];exact hd,by rw[sW];exact C,k.put (aO.sub b) m (rO f1) H (by rw[C];exact z),aO.frame b m d g1,i.post aO b m d g1⟩,fun id s=>?_⟩;have t:id ∉ news:=fun F=>by have:=D id F;omega
 have A:=m.ctx id t;have B:=f id s;exact⟨A.1.trans B.1,A.2.trans B.2⟩
def rK {o:Oper} {ts:Ts} {os:Os} {a:Act} {w:World} (j:E5 Γ ts os a w) (hd:gG Γ.n o.dst=true):E5 Γ (dI o.dst (.aZ []) ts) os (a.put o.dst undef) w:=by
 obtain⟨c,⟨e,d,f,b,g⟩,i⟩:=j;exact⟨c,⟨by rw[put_defers];exact e,by rw[sW];exact d,f.put (need:=[]) (upd:=[]) (news:=[]) (b.sub fun _ _ h=>by cases h) (aS.refl b.aq) (fun _ _ _ _ h=>by cases h) (Rd.aZ (us:=[]) .nil) (by rw[d];exact hd),b,g⟩,i⟩
theorem pY (m:M9 P tab) (j:fw P et) {ops:List Oper} {Q:Exit->Act->World->Prop} {l2:List Oper}:∀(l:List Oper) (ts:Ts) (os:Os) (K:Ts->Os->Prop) (a:Act) (w:World),jt P tab et Γ.n ops l ts os K->E5 Γ ts os a w ->
  (∀s r u w',K s r->E5 Γ s r u w'->wpList P ops.toArray Q l2 u w')->wpList P ops.toArray Q (l++l2) a w
 |[],ts,os,K,a,w,h,t,k=>k ts os a w h t
 |o::rest,ts,os,K,a,w,h,t,k=>by
  obtain⟨c,b⟩:=t;have f:E5 Γ ts os a w:=⟨c,b⟩;rw[List.cons_append];unfold wpList;unfold jt at h;split at h
  ·rename_i d hd;split at h
   ·rename_i q;rcases AP b.rel.ts h with⟨i,h⟩|⟨i,h⟩
    ·rw[N2 i];refine .inl (Cr (cM m j _ h) f fun av rd x y e=>?_);split at e
     ·rename_i g;simp only[IT] at g;rw[force_eq,ji] at e;refine⟨fun v w' c' _ _ _ p=>pY m j rest _ _ K _ _ e ⟨c',by rw[hd] at p⊢;exact p⟩ k,g.1,g.2,by rw[hd];exact q⟩
     ·exact e.elim
    ·rw[N1 (by rw[i];simp)];have:=rK (o:=o) f (by rw[hd];exact q);exact pY m j rest _ _ K _ _ h (by rw[hd] at this⊢;exact this) k
   ·exact h.elim
  ·rename_i hd;rcases AP b.rel.ts h with⟨i,h⟩|⟨i,h⟩
   ·rw[N2 i];refine .inl (Cr (cM m j _ h) f fun av rd x y e=>?_);split at e
    ·rename_i g;simp only[IT] at g;rw[ji] at e;refine⟨fun v w' c' _ _ _ p=>pY m j rest _ _ K _ _ e ⟨c',by rw[hd] at p⊢;exact p⟩ k,g.1,g.2,by rw[hd];rfl⟩
    ·exact e.elim
   ·rw[N1 (by rw[i];simp)];have:=rK (o:=o) f (by rw[hd];rfl);exact pY m j rest _ _ K _ _ h (by rw[hd] at this⊢;exact this) k
def Ip (j:M9 P tab) (g:fw P et) {ops:List Oper} {Q:Exit->Act->World->Prop} (l:List Oper) (ts:Ts) (os:Os) (K:Ts->Os->Prop) (a:Act) (w:World) (h:jt P tab et Γ.n ops l ts os K) (m:E5 Γ ts os a w)
  (i:∀d b e w',K d b->E5 Γ d b e w'->Q .normal e w'):wpList P ops.toArray Q l a w:=by
 have:=pY j g (l2:=[]) l ts os K a w h m fun d b e w' k f=>i d b e w' k f
 rwa [List.append_nil] at this
inductive Ex : Type where
 |normal
 |exit (id:Nat)
 |ret
def mJ : Exit->Ex->Prop
 |.normal,.normal=>True
 |.exit i,.exit j=>i=j
 |.ret,.ret=>True
 |_,_=>False
abbrev Qt := Ex->Ts->Os->Prop
structure j6 (P:Program) (Γ:Z7) (c:Code) (ts:Ts) (os:Os) (Q:Qt):Prop where
 run:∀a w,E5 Γ ts os a w->c.wp P (fun e a' w'=>∃ex ts' os',mJ e ex/\Q ex ts' os'/\E5 Γ ts' os' a' w') a w
def fM (P:Program) (tab:R9) (et:eK) (Γ:Z7) (n:Nat):Code->Ts->Os->Qt->Prop
 |.skip,ts,os,Q=>Q .normal ts os
 |.seq x y,ts,os,Q=>fM P tab et Γ n x ts os fun e d a=>match e with
  |.normal=>j6 P Γ y d a Q
  |.exit id=>Q (.exit id) d a
  |.ret=>Q .ret d a
 |.cond c x y,ts,os,Q=>match cP ts c with
  |.bool b=>iO b (j6 P Γ x ts os Q) (j6 P Γ y ts os Q)
  |_=>False
 |.block id c,ts,os,Q=>fM P tab et Γ n c ts os fun e d a=>match e with
  |.normal=>Q .normal d a
  |.exit f=>match AT f id with
   |true=>Q .normal d a
   |false=>Q (.exit f) d a
  |.ret=>Q .ret d a
 |.loop c,ts,os,Q=>j6 P Γ (.loop c) ts os Q
 |.region id ops false,ts,os,Q=>fa ts fun ts=>jt P tab et n ops.toList ops.toList ts os (Q .normal)
 |.region id ops true,ts,os,Q=>j6 P Γ (.region id ops true) ts os Q
 |.exit id,ts,os,Q=>Q (.exit id) ts os
 |.ret,ts,os,Q=>Q .ret ts os
 |_,_,_,_=>False
theorem j6.mono {c:Code} {ts:Ts} {os:Os} {Q f:Qt} (h:j6 P Γ c ts os Q) (k:∀e ts os,Q e ts os->f e ts os):j6 P Γ c ts os f :=
 ⟨fun a w l=>wp_mono (h.run a w l) fun e m w' ⟨ex,d,b,g,i,j⟩=>⟨ex,d,b,g,k _ _ _ i,j⟩⟩
theorem yl (u:M9 P tab) (t:fw P et):∀(c:Code) (ts:Ts) (os:Os) (Q:Qt),fM P tab et Γ Γ.n c ts os Q->j6 P Γ c ts os Q
 |.skip,ts,os,Q,h=>⟨fun a w k=>wp_skip ⟨.normal,ts,os,trivial,h,k⟩⟩
 |.seq x y,ts,os,Q,h=>by
  refine⟨fun a w k=>wp_seq (wp_mono ((yl u t x ts os _ h).run a w k) fun e r w' ⟨ex,f,d,o,g,m⟩=>?_)⟩;cases e<;>cases ex<;>simp only[mJ] at o<;>first|exact o.elim|skip
  ·exact g.run r w' m
  ·subst o;exact⟨.exit _,f,d,rfl,g,m⟩
  ·exact⟨.ret,f,d,trivial,g,m⟩
 |.cond c x y,ts,os,Q,h=>by
  unfold fM at h;split at h
  ·rename_i b q;refine⟨fun a w k=>?_⟩;obtain⟨A,l⟩:=k;have p:=qB l.rel.ts c;rw[q] at p;cases b
   ·exact wp_cond_false p.bL (h.run a w ⟨A,l⟩)
   ·exact wp_cond_true p.bL (h.run a w ⟨A,l⟩)
  ·exact h.elim
 |.block id c,ts,os,Q,h=>by
  refine⟨fun a w k=>wp_block (wp_mono ((yl u t c ts os _ h).run a w k) fun e r w' ⟨ex,f,d,o,g,m⟩=>?_)⟩
  match e,ex,o,g with
  |.normal,.normal,_,g=>exact⟨.normal,f,d,trivial,g,m⟩
  |.exit i,.exit j,o,g =>
   have s:i=j:=o;subst s;simp only at g;split at g
   ·rename_i q;have B:=MN q;simp only[Exit.inBlock,N2 B];exact⟨.normal,f,d,trivial,g,m⟩
   ·rename_i q;have v:¬i=id:=fun e=>by rw[e] at q;simp at q
    simp only[Exit.inBlock,N1 v];exact⟨.exit i,f,d,rfl,g,m⟩
  |.ret,.ret,_,g=>exact⟨.ret,f,d,trivial,g,m⟩
 |.loop c,ts,os,Q,h=>h
 |.region id ops false,ts,os,Q,h=>⟨fun a w k=>wp_region_list (by
   have:=Ip u t (Q:=fun e r w'=>∃ex f d,mJ e ex/\Q ex f d/\E5 Γ f d r w') ops.toList ts os (Q .normal) a w ((nU ts _).1 h) k fun f d r w' C z=>⟨.normal,f,d,trivial,C,z⟩;simpa using this)⟩
 |.region id ops true,ts,os,Q,h=>h
 |.exit id,ts,os,Q,h=>⟨fun a w k=>wp_exit ⟨.exit id,ts,os,rfl,h,k⟩⟩
 |.ret,ts,os,Q,h=>⟨fun a w k=>wp_ret ⟨.ret,ts,os,trivial,h,k⟩⟩
 |.rangeFunc _ _ _ _,_,_,_,h=>h.elim
 |.scope _,_,_,_,h=>h.elim
 |.label _,_,_,_,h=>h.elim
 |.goto _,_,_,_,h=>h.elim
 |.refuse _,_,_,_,h=>h.elim
end
section
mutual
def AV.bX (ρ:Nat->Nat):AV->AV
 |.ptr id off=>.ptr (ρ id) off
 |.aK id=>.aK (ρ id)
 |.dW id n=>.dW (ρ id) n
 |.dQ id n sz=>.dQ (ρ id) n sz
 |.ep id i sz off=>.ep (ρ id) i sz off
 |.mp id=>.mp (ρ id)
 |.cI id=>.cI (ρ id)
 |.np id=>.np (ρ id)
 |.fn f b=>.fn f (AV.cn ρ b)
 |.agg b=>.agg (AV.cn ρ b)
 |.aZ b=>.aZ (AV.cn ρ b)
 |a=>a
def AV.cn (ρ:Nat->Nat):List AV->List AV
 |[]=>[]
 |a::l=>a.bX ρ::AV.cn ρ l
end
def Ctx.bq (c:Ctx) (ρ:Nat->Nat):Ctx:={ c with μ:=fun i=>c.μ (ρ i),hd:=fun i=>c.hd (ρ i) }
section
variable {c:Ctx} {w:World} {ρ:Nat->Nat}
mutual
theorem Rd.aw : ∀(a:AV) {v:Value},Rd c w v (a.bX ρ)->Rd (c.bq ρ) w v a
 |.ptr id off,_,h=>by rw[h.cm];exact .ptr rfl
 |.aK id,_,h=>by obtain⟨A,n,cap,e1,d,j,l⟩:=h.bF;rw[e1];exact .aK d j l
 |.dW id n,_,h=>by obtain⟨A,m,cap,e1,d,j,l,q⟩:=h.hZ;rw[e1];exact .dW d j l q
 |.dQ id n sz,_,h=>by obtain⟨A,m,cap,e1,d,j,l,q⟩:=h.oU;rw[e1];exact .dQ d j l q
 |.ep id i sz off,_,h=>by obtain⟨g,r,m,cap,e1,d⟩:=h.oK;rw[e1];exact .ep d
 |.mp id,_,h=>by rw[h.qf];exact .mp rfl
 |.cI id,_,h=>by obtain⟨A,n,cap,vs,e1,d,j,l⟩:=h.kl;rw[e1];exact .cI d j l
 |.np id,_,h=>by
  rcases h.EV with e|e
  ·rw[e];exact .qg
  ·rw[e];exact .qh rfl
 |.dj b,_,h=>by cases h with|fz h=>exact .fz h
 |.fn f o,_,h=>by obtain⟨us,e,p⟩:=Rd.qd h;rw[e];exact .fn (w9.aw o p)
 |.agg o,_,h=>by obtain⟨us,e,p⟩:=Rd.cU h;rw[e];exact .agg (w9.aw o p)
 |.aZ o,_,h=>by obtain⟨us,e,p⟩:=Rd.fo h;rw[e];exact .aZ (w9.aw o p)
 |.any,_,_=>Rd.dM _
 |.int n,_,h=>by cases h with|fz h=>exact .fz h
 |.ik k n,_,h=>by cases h with|fz h=>exact .fz h
 |.bool b,_,h=>by cases h with|fz h=>exact .fz h
 |.str s,_,h=>by cases h with|fz h=>exact .fz h
 |.sl sz ls,_,h=>by cases h with|fz h=>exact .fz h
 |.fp o,_,h=>by cases h with|fz h=>exact .fz h
 |.aJ,_,h=>by cases h with|fz h=>exact .fz h
 |.fL b,_,h=>by cases h with|fz h=>exact .fz h
 |.aa,_,h=>by cases h with|fz h=>exact .fz h
 |.aP,_,h=>by cases h with|fz h=>exact .fz h
 |.aU v,_,h=>by cases h with|fz h=>exact .fz h
theorem w9.aw : ∀(a_:List AV) {vs:List Value},w9 c w vs (AV.cn ρ a_)->w9 (c.bq ρ) w vs a_
 |[],_,h=>by cases h;exact .nil
 |a::l,_,h=>by cases h with|cons h t=>exact .cons (Rd.aw a h) (w9.aw l t)
end
end
def Obj.bX (ρ:Nat->Nat):Obj->Obj
 |.box b e=>.box (AV.cn ρ b) e
 |.eqv j v=>.eqv (ρ j) v
 |.bR sz ls e i off x=>.bR sz ls e i off (ρ x)
 |.deep sz e a l d sh=>.deep sz e a l (d.map fun p=>(p.1,p.2.1,ρ p.2.2)) (ρ sh)
 |o=>o
def x6 {ρ:Nat->Nat} {f:List (Nat×Nat×Nat)} {i off:Nat}:eW (f.map fun p=>(p.1,p.2.1,ρ p.2.2)) i off↔eW f i off:=by
 constructor
 ·rintro⟨x,d⟩;obtain⟨⟨a,b,y⟩,g,e⟩:=MU.1 d;cases e;exact⟨y,g⟩
 ·rintro⟨x,d⟩;exact⟨ρ x,MU.2 ⟨_,d,rfl⟩⟩
def sy {ρ:Nat->Nat} {css:List (List Value)} {f:List (Nat×Nat×TypeId)} {g:List (Nat×Nat×Nat)} {i off:Nat} {v:Value}:bN css f (g.map fun p=>(p.1,p.2.1,ρ p.2.2)) i off v↔bN css f g i off v :=
 ⟨fun⟨us,p,a,b,d,e⟩=>⟨us,p,a,b,d,fun h=>e (x6.2 h)⟩,fun⟨us,p,a,b,d,e⟩=>⟨us,p,a,b,d,fun h=>e (x6.1 h)⟩⟩
theorem sq.aw {c:Ctx} {w:World} {ρ:Nat->Nat} {id sz e sh:Nat} {a:List (Nat×Nat×TypeId)} {l:List (List AV)} {m:List (Nat×Nat×Nat)} (h:sq c.Φ c.hd w (ρ id) sz e a l (m.map fun p=>(p.1,p.2.1,ρ p.2.2)) (ρ sh)) :
  sq (c.bq ρ).Φ (c.bq ρ).hd w id sz e a l m sh:=by
 obtain⟨css,r,g,s,t⟩:=h;refine⟨css,r,⟨g.len,g.cell,fun i us q off isz ie u d f k n o=>g.inner i us q off isz ie u d f k n fun h=>o (x6.1 h),fun i off x us u d f k=>g.hole i off (ρ x) us u (MU.2 ⟨_,d,rfl⟩) f k,fun i off v y j z b d f=>g.apart i off v y j z b (sy.2 d) (sy.2 f)⟩,
  fun v=>(s v).trans ⟨fun⟨i,off,h⟩=>⟨i,off,sy.1 h⟩,fun⟨i,off,h⟩=>⟨i,off,sy.2 h⟩⟩,fun i off v b d=>t i off v b (sy.2 d)⟩
theorem dH.aw {c:Ctx} {w:World} {ρ:Nat->Nat} {id:Nat} {o:Obj} (h:dH c w (ρ id) (o.bX ρ)):dH (c.bq ρ) w id o:=by
 cases o with
 |aF=>trivial
 |tX g G=>exact h
 |box f e=>obtain⟨us,a,b⟩:=h;exact⟨us,a,w9.aw f b⟩
 |bc l=>exact h
 |deep sz e d l k sh=>exact sq.aw h
 |row sz ls e=>exact h
 |pins sz l e=>exact h
 |nest sz e isz ie l=>exact h
 |bR sz ls e i off x=>obtain⟨v,a,b⟩:=h;exact⟨v,Rd.aw (.aK x) a,b⟩
 |eqv j v=>exact h
def il {c:Ctx} {ρ:Nat->Nat} {id:Nat} {o:Obj} {b:Nat}:aW (c.bq ρ) id o b↔aW c (ρ id) (o.bX ρ) b:=by cases o<;>exact Iff.rfl
def rn (l:List (Nat×Nat)) (i:Nat):Nat:=match lk l i with
 |some j=>j
 |none=>i
def d19 (l:List (Nat×Nat)):Bool:=l.all fun p=>MX p.1 top
def vB {l:List (Nat×Nat)} (h:d19 l=true) {i:Nat} (hi:top<=i):rn l i=i:=by
 unfold rn;split
 ·rename_i j a;have:=MZ (MR.1 h _ (dR a));simp only at this;omega
 ·rfl
def tT (ρ:Nat->Nat) (os:Os):Bool:=os.all fun p=>os.all fun q=>AT p.1 q.1 || !Nat.beq (ρ p.1) (ρ q.1)
def IM {ρ:Nat->Nat} {os:Os} (h:tT ρ os=true) {i j:Nat} {o f:Obj} (hi:lk os i=some o) (d:lk os j=some f) (b:i≠j):ρ i≠ρ j:=by
 have a:=MR.1 (MR.1 h _ (dR hi)) _ (dR d);simp only[Bool.or_eq_true,Bool.not_eq_true'] at a;rcases a with a|a
 ·exact absurd (MN a) b
 ·intro e;rw[e] at a;simp at a
def E6 : Option AV->AV->Prop
 |some a,b=>mN a b
 |none,b=>b=.any
def d25 (ρ:Nat->Nat) (ts:Ts):Ts->Prop
 |[]=>True
 |(t,a)::r=>E6 (lk ts t) (a.bX ρ)/\d25 ρ ts r
def qT (ρ:Nat->Nat) (os:Os):Os->Prop
 |[]=>True
 |(id,o)::r=>lk os (ρ id)=some (o.bX ρ)/\qT ρ os r
theorem uL {ρ:Nat->Nat} {os:Os}:∀{a:Os},qT ρ os a->∀id o,lk a id=some o->lk os (ρ id)=some (o.bX ρ)
 |(k,x)::r,h,id,o,hl=>by
  rw[l8] at hl;split at hl
  ·rename_i e;subst e;cases hl;exact h.1
  ·exact uL h.2 id o hl
theorem Q5.aw {c:Ctx} {w:World} {os a:Os} {ρ:Nat->Nat} (h:Q5 c w os) (d:qT ρ os a) (hi:tT ρ a=true):Q5 (c.bq ρ) w a:=by
 have d:=uL d;exact⟨fun id o hl=>(h.rep _ _ (d id o hl)).aw,fun id o b hl f=>h.lt _ _ b (d id o hl) (il.1 f),fun id j o k b i hl e f g=>h.sep _ _ _ _ b (IM hi hl e i) (d id o hl) (d j k e) (il.1 f) (il.1 g),h.aq⟩
section
variable {P:Program} {tab:R9} {et:eK} {Γ:Z7}
structure dT (ts:Ts) (os:Os) (ts2:Ts) (os2:Os) (rl:List (Nat×Nat)):Prop where
 t:d25 (rn rl) ts ts2
 o:qT (rn rl) os os2
 inj:tT (rn rl) os2=true
 top:d19 rl=true
theorem Bw {ts:Ts} {ρ:Nat->Nat}:∀{a:Ts},d25 ρ ts a->∀t x,lk a t=some x->E6 (lk ts t) (x.bX ρ)
 |(k,y)::r,h,t,x,hl=>by
  rw[l8] at hl;split at hl
  ·rename_i e;subst e;cases hl;exact h.1
  ·exact Bw h.2 t x hl
theorem gL.aw {c:Ctx} {w:World} {ts d:Ts} {a:Act} {ρ:Nat->Nat} (h:gL c w ts a) (l:∀t x,lk d t=some x->t<a.tmps.size) (m:d25 ρ ts d):gL (c.bq ρ) w d a:=by
 intro t x hl;have e:=Bw m t x hl;have i:=l t x hl;cases g:lk ts t with
 |some b =>
  rw[g] at e;obtain⟨v,j,k⟩:=h t b g;exact⟨v,j,Rd.aw x (ye e k)⟩
 |none =>
  rw[g] at e;refine⟨a.tmps[t],by simp[i],Rd.aw x ?_⟩;have f:x.bX ρ=.any:=e;rw[f];exact Rd.dM _
theorem dT.rel {ts:Ts} {os:Os} {f:Ts} {g:Os} {k:List (Nat×Nat)} (h:dT ts os f g k) (u:(f.all fun p=>MX p.1 Γ.n)=true) {a:Act} {w:World} (v:E5 Γ ts os a w):E5 Γ f g a w:=by
 obtain⟨c,⟨l,j,m,q,d⟩,r⟩:=v;have i:=uL h.o;refine⟨c.bq (rn k),⟨l,j,m.aw (fun t x hl=>by rw[j];exact MZ (MR.1 u _ (dR hl))) h.t,q.aw h.o h.inj,⟨d.cX,d.tape,d.output,d.size,d.aq,d.ak,d.ab,fun id o b hl s=>d.az _ _ b (i id o hl) (il.1 s)⟩⟩,fun id e=>?_⟩;have:=r id e;rw[<-vB h.top e] at this;simpa[Ctx.bq,vB h.top e] using this
theorem j6.sub {c:Code} {ts b:Ts} {os d:Os} {Q:Qt} (i:List (Nat×Nat)) (h:dT ts os b d i) (f:(b.all fun p=>MX p.1 Γ.n)=true) (e:j6 P Γ c b d Q):j6 P Γ c ts os Q :=
 ⟨fun a w g=>e.run a w (h.rel f g)⟩
def exists_least {p:Nat->Prop} (h:∃n,p n):∃n,p n/\∀m,p m->n<=m:=by
 obtain⟨n,f⟩:=h
 induction n using Nat.strongRecOn with
 |_ n ih =>
  by_cases a:∃m,m<n/\p m
  ·obtain⟨m,b,d⟩:=a;exact ih m b d
  ·exact⟨n,f,fun m e=>by
    rcases Nat.lt_or_ge m n with h|h
    ·exact absurd ⟨m,h,e⟩ a
    ·exact h⟩
theorem j6.loop {ι:Type} (St:ι->Ts) (g:ι->Os) (m:ι->Nat) {c:Code} {ts:Ts} {os:Os} {Q:Qt} (t:ι) (B:List (Nat×Nat)) (G:dT ts os (St t) (g t) B) (D:∀i,((St i).all fun p=>MX p.1 Γ.n)=true)
  (L:∀i,j6 P Γ c (St i) (g i) fun e f d=>match e with
   |.normal=>∃j E,m j<m i/\dT f d (St j) (g j) E
   |.exit id=>Q (.exit id) f d
   |.ret=>Q .ret f d):j6 P Γ (.loop c) ts os Q:=by
 refine⟨fun a w q=>?_⟩;let I:Act->World->Prop:=fun a w=>∃i,E5 Γ (St i) (g i) a w;have v:I a w:=⟨t,G.rel (D t) q⟩;have l:∀a w,∃n,I a w->(∃i,m i=n/\E5 Γ (St i) (g i) a w)/\∀i,E5 Γ (St i) (g i) a w->n<=m i:=by
  intro a w;by_cases s:I a w
  ·obtain⟨i,hi⟩:=s;obtain⟨n,⟨j,C,u⟩,H⟩:=exists_least (p:=fun n=>∃i,m i=n/\E5 Γ (St i) (g i) a w) ⟨m i,i,rfl,hi⟩;exact⟨n,fun _=>⟨⟨j,C,u⟩,fun k J=>H (m k) ⟨k,rfl,J⟩⟩⟩
  ·exact⟨0,fun h=>absurd h s⟩
 refine wp_loop I (fun a w=>Classical.choose (l a w)) v fun a w s=>?_;obtain⟨⟨i,C,u⟩,_⟩:=Classical.choose_spec (l a w) s;refine wp_mono ((L i).run a w u) fun e F w' ⟨ex,f,d,A,o,b⟩=>?_
 match e,ex,A,o with
 |.normal,.normal,_,o =>
  obtain⟨j,E,K,r⟩:=o;have z:=r.rel (D j) b;refine⟨⟨j,z⟩,?_⟩;have:=(Classical.choose_spec (l F w') ⟨j,z⟩).2 j z;omega
 |.exit x,.exit y,A,o=>exact⟨.exit y,f,d,A,o,b⟩
 |.ret,.ret,_,o=>exact⟨.ret,f,d,trivial,o,b⟩
theorem j6.cK {c:Code} {ts:Ts} {os:Os} {Q:Qt} (t:Nat) {a:AV} (hl:lk ts t=some a) (h:cK [a]->j6 P Γ c ts os Q):j6 P Γ c ts os Q:=by
 refine⟨fun x w f=>?_⟩;have e:=f;obtain⟨g,b,_⟩:=e;obtain⟨v,_,d⟩:=b.ts t a hl;refine(h ?_).run x w f;cases d with
 |fz d=>exact(H5.cons d .nil).cK
 |_=>trivial
end
end
section
variable {P:Program} {tab:R9} {et:eK} {Γ:Z7}
theorem E5.ghost {ts:Ts} {os need upd:Os} {news:List Nat} {a:Act} {w:World} (ex:Ts) (H:E5 Γ ts os a w) (d:jh need os) (o:F5 news ts=true) (p:F4 news upd os=true) (e:(news.all fun i=>(lk upd i).isSome)=true)
  (G:∀c,Q5 c w need->∃c',aS c w c' w need upd news/\∀t x,lk ex t=some x->∃y,lk ts t=some y/\∀v,Rd c w v y->Rd c' w v x):E5 Γ (ex++ts) (upd++os) a w:=by
 obtain⟨c,⟨B,C,u,k,D⟩,E⟩:=H;have l:=sG d;have j:∀id∈news,(lk upd id).isSome=true:=fun id h=>by simpa using MR.1 e id h
 obtain⟨c',b,n⟩:=G c (k.sub l);obtain⟨g1,A⟩:=pA p;refine⟨c',⟨B,C,fun t x hl=>?_,k.frame l b j g1,D.post k l b j g1⟩,fun id q=>?_⟩
 ·rw[J7] at hl;cases m:lk ex t with
  |some y =>
   rw[m] at hl;simp at hl;subst hl;obtain⟨z,I,s⟩:=n t y m;obtain⟨v,f,g⟩:=u t z I;exact⟨v,f,s v g⟩
  |none =>
   rw[m] at hl;simp at hl;obtain⟨v,f,g⟩:=u t x hl;exact⟨v,f,g.post b (k.sub l) (rO o t x hl)⟩
 ·have r:id ∉ news:=fun F=>by have:=A id F;omega
  have f:=b.ctx id r;have g:=E id q;exact⟨f.1.trans g.1,f.2.trans g.2⟩
def xL {a t:Nat} {x y:AV} (h:lk [(a,x)] t=some y):t=a/\y=x:=by
 rw[l8] at h;split at h
 ·rename_i e;cases h;exact⟨e.symm,rfl⟩
 ·cases h
theorem E5.bG {ts:Ts} {os:Os} (t id sz e:Nat) (hl:lk ts t=some .aJ) (j:F5 [id] ts=true) (k:F4 [id] [(id,.row sz [] e)] os=true) {a:Act} {w:World} (r:E5 Γ ts os a w):E5 Γ ((t,.aK id)::ts) ((id,.row sz [] e)::os) a w:=by
 refine E5.ghost (need:=[]) (upd:=[(id,.row sz [] e)]) (news:=[id]) [(t,.aK id)] r trivial j k (by simp[j5]) fun c aO=>⟨c.aN id (.slice none 0 0),?_,fun C x u=>?_⟩
 ·have l:(c.aN id (.slice none 0 0)).hd id=.slice none 0 0:=by simp[Ctx.aN]
  have d:∀b,¬aW (c.aN id (.slice none 0 0)) id (.row sz [] e) b:=fun b m=>by
   have f:((c.aN id (.slice none 0 0)).hd id).ownBlock=some b:=m;rw[l] at f;cases f
  refine⟨rfl,rfl,rfl,It _,fun _ h=>h,fun _ h=>.inl h,fun _ _ _=>rfl,fun i hi=>⟨rfl,by have:i≠id:=(by simpa using hi);simp[Ctx.aN,this]⟩,⟨fun i o hl=>?_,fun i o b hl g=>?_,fun i z o B b q hl p g=>?_,aO.aq⟩,fun i o b hl g=>?_⟩<;>rw[l8] at hl<;>split at hl<;>first|(rename_i e1;subst e1;cases hl)|cases hl
  ·exact⟨[],by rw[l];exact⟨.inl ⟨rfl,rfl⟩,l9,l9⟩,rfl,fun i us y h=>by simp at h⟩
  ·exact absurd g (d b)
  ·exact absurd g (d b)
  ·exact absurd g (d b)
 ·obtain⟨rfl,rfl⟩:=xL u;exact⟨_,hl,fun v s=>by rw[s.bH];exact .aK (n:=0) (cap:=0) (A:=none) (by simp[Ctx.aN]) (It _) (by simp[maxLen])⟩
theorem j6.bG {c:Code} {ts:Ts} {os:Os} {Q:Qt} (t id sz e:Nat) (hl:lk ts t=some .aJ) (b:F5 [id] ts=true) (d:F4 [id] [(id,.row sz [] e)] os=true) (h:j6 P Γ c ((t,.aK id)::ts) ((id,.row sz [] e)::os) Q):j6 P Γ c ts os Q :=
 ⟨fun a w f=>h.run a w (E5.bG t id sz e hl b d f)⟩
theorem j6.freeze {c:Code} {ts:Ts} {os:Os} {Q:Qt} (t id:Nat) {sz e:Nat} {ls:List (List AV)} (hl:lk ts t=some (.aK id)) (b:lk os id=some (.row sz ls e)) (h:j6 P Γ c ((t,.sl sz ls)::ts) ((id,.aF)::os) Q):j6 P Γ c ts os Q:=by
 refine⟨fun a w d=>h.run a w (E5.ghost (need:=[(id,.row sz ls e)]) (upd:=[(id,.aF)]) (news:=[]) [(t,.sl sz ls)] d ⟨b,trivial⟩ rfl rfl rfl fun c aO=>⟨c.fz [(id,.row sz ls e)],aS.freeze aO,fun i x g=>?_⟩)⟩;obtain⟨rfl,rfl⟩:=xL g;exact⟨_,hl,fun v f=>nr aO (j5 _ _ _) f⟩
def entry : Nat->List AV->Ts
 |_,[]=>[]
 |k,a::l=>(k,a)::entry (k+1) l
theorem CZ : ∀(l:List AV) (k t:Nat) (x:AV),lk (entry k l) t=some x->k<=t/\l[t-k]?=some x
 |[],k,t,x,h=>by cases h
 |a::l,k,t,x,h=>by
  unfold entry at h;rw[l8] at h;split at h
  ·rename_i e;subst e;cases h;exact⟨It _,l9⟩
  ·obtain⟨d,b⟩:=CZ l (k+1) t x h;refine⟨d9,?_⟩;rw[show t-k=(t-(k+1))+1 by omega];simpa using b
def ux : List AV->Ts
 |[]=>[]
 |[a]=>[(0,a)]
 |[a,b]=>[(0,a),(1,b)]
 |[a,b,c]=>[(0,a),(1,b),(2,c)]
 |[a,b,c,d]=>[(0,a),(1,b),(2,c),(3,d)]
 |[a,b,c,d,e]=>[(0,a),(1,b),(2,c),(3,d),(4,e)]
 |[a,b,c,d,e,f]=>[(0,a),(1,b),(2,c),(3,d),(4,e),(5,f)]
 |[a,b,c,d,e,f,g]=>[(0,a),(1,b),(2,c),(3,d),(4,e),(5,f),(6,g)]
 |[a,b,c,d,e,f,g,h]=>[(0,a),(1,b),(2,c),(3,d),(4,e),(5,f),(6,g),(7,h)]
 |l=>entry 0 l
def IH (l:List AV):ux l=entry 0 l:=by
 unfold ux;split<;>rfl
def oC (tab:R9) (ts:Ts) (os:Os):List ResultVar->Option (List AV)
 |[]=>some []
 |.tmp t::r=>match lk ts t,oC tab ts os r with
  |some a,some l=>some (a::l)
  |_,_=>none
 |.cell t ty::r=>match lk ts t,lk tab ty,oC tab ts os r with
  |some (.ptr id off),some ti,some l=>match lk os id with
   |some (.box b _)=>match kM ti b off with
    |some a=>some (a::l)
    |none=>none
   |_=>none
  |_,_,_=>none
def zC : List AV->AV
 |[a]=>a
 |l=>.aZ l
theorem yF (o:M9 P tab) {c:Ctx} {w:World} {ts:Ts} {os:Os} {a:Act} (d:gL c w ts a) (aO:Q5 c w os):∀(l:List ResultVar) (r:List AV),oC tab ts os l=some r ->
  ∃vs:List Value,(l.mapM (fun x=>match x with
     |ResultVar.tmp t=>pure (a.tmps.getD t undef)
     |ResultVar.cell D t=>do loadVar t (<-asAddr (a.tmps.getD D undef)):ResultVar->Sem Value)).run P w=.ok vs w/\w9 c w vs r
 |[],r,h=>by cases h;exact⟨[],l9,.nil⟩
 |.tmp t::l,r,h=>by
  unfold oC at h;split at h
  ·rename_i x C B f;cases h;obtain⟨vs,i,k⟩:=yF o d aO l C f;obtain⟨v,g,m⟩:=d t x B;refine⟨v::vs,?_,.cons m k⟩;have q:a.tmps.getD t undef=v:=by simp[Array.getD_eq_getD_getElem?,g]
   rw[List.mapM_cons];simp only[Sem.run_bind,Sem.run_pure,Result.andThen_ok,i,q]
  ·cases h
 |.cell t ty::l,r,h=>by
  unfold oC at h;split at h
  ·rename_i id off ti C B A f;split at h
   ·rename_i J e s;split at h
    ·rename_i x z;cases h;obtain⟨vs,i,k⟩:=yF o d aO l C f;obtain⟨v,g,m⟩:=d t _ B;obtain⟨us,E,F⟩:=aO.rep id _ s;obtain⟨y,n,G⟩:=pL (b:=c.μ id) (p:=0) (o ty ti A) z F (fun j u I=>by
      unfold World.cell?;simp only[Mi,E];simpa using I)
     rw[Mi] at n;refine⟨y::vs,?_,.cons G k⟩;rw[m.cm] at g;simp only[Instr.loadAt,Instr.sureAddr,pure_bind] at n;have q:a.tmps.getD t undef=.pointer (some ⟨c.μ id,off,none⟩):=by simp[Array.getD_eq_getD_getElem?,g]
     rw[List.mapM_cons];have H:∀x:Addr,asAddr (.pointer (some x))=pure x:=fun _=>rfl;simp only[Sem.run_bind,Sem.run_pure,Result.andThen_ok,q,H,n,i]
    ·cases h
   ·cases h
  ·cases h
def d34 : List Value->Value
 |[v]=>v
 |l=>.tuple l.toArray
def KY {c:Ctx} {w:World}:∀{vs:List Value} {r:List AV},w9 c w vs r->Rd c w (d34 vs) (zC r)
 |_,_,.nil=>.aZ .nil
 |_,_,.cons h .nil=>h
 |_,_,.cons h (.cons k t)=>.aZ (.cons h (.cons k t))
def HX {fn:Func} {tmps:Array Value} {w:World} {vs:List Value} (h:(fn.results.toList.mapM (fun x=>match x with
     |ResultVar.tmp t=>pure (tmps.getD t undef)
     |ResultVar.cell b t=>do loadVar t (<-asAddr (tmps.getD b undef)):ResultVar->Sem Value)).run P w=.ok vs w):(results fn tmps).run P w=.ok (d34 vs) w:=by
 unfold results;rw[Array.mapM_eq_mapM_toList];simp only[Sem.run_bind,Sem.run_map,Sem.run_pure];refine Eq.trans (congrArg (fun r:Result (List Value)=>(r.andThen fun a w'=>Result.ok a.toArray w').andThen fun a w'=>Result.ok (if h:a.size=1 then a[0] else Value.tuple a) w') h) ?_;simp only[Result.andThen_ok];congr 1;cases vs with
 |nil=>rfl
 |cons v vs=>cases vs with
  |nil=>rfl
  |cons u vs=>rfl
structure Fin (tab:R9) (rs:List ResultVar) (ts:Ts) (os:Os) (av:AV) (upd:Os) (news:List Nat) (rl:List (Nat×Nat)) (r:List AV):Prop where
 res:oC tab ts os rs=some r
 out:mN (zC r) (av.bX (rn rl))
 obj:qT (rn rl) os upd
 inj:tT (rn rl) upd=true
 top:d19 rl=true
 mem:(upd.all fun p=>news.elem p.1 || IN Go.Proofs.YtibjcppjfkamhaaGreatDoor.top p.1)=true
 ids:(av.ids.all fun i=>(lk upd i).isSome || IN Go.Proofs.YtibjcppjfkamhaaGreatDoor.top i)=true
 tj:(upd.all fun p=>p.2.ids.all fun i=>(lk upd i).isSome || IN Go.Proofs.YtibjcppjfkamhaaGreatDoor.top i)=true
def d37 (tab:R9) (b:List ResultVar) (av:AV) (upd:Os) (news:List Nat):Qt:=fun e ts os =>
 match e with
 |.exit _=>False
 |.normal=>∃a r,Fin tab b ts os av upd news a r
 |.ret=>∃a r,Fin tab b ts os av upd news a r
theorem Spec.of (hT:M9 P tab) {f n:Nat} {fn:Func} {c:Code} (D:P.funcs[f]?=some fn) (C:fn.body=some c) (hn:fn.ntmps=n) (hc:bg P f=true) {need upd:Os} {ins:List AV} {av:AV} {news:List Nat}
  (hl:IN ins.length n=true) (F:(need.all fun p=>IN top p.1 && (lk upd p.1).isSome)=true) (G:(news.all fun i=>(lk upd i).isSome)=true)
  (h:∀Γ:Z7,Γ.n=n->j6 P Γ c (ux ins) need (d37 tab fn.results.toList av upd news)):Spec P f need ins av upd news:=by
 refine⟨hc,fun id E=>by simpa using MR.1 G id E,fun I w args aO k=>calls_of_wp D C ?_⟩;have hsz:args.size=ins.length:=by simpa using k.length
 have hle:=MZ hl;let Γ:Z7:=⟨I,w,need,n⟩;have z:E5 Γ (entry 0 ins) need { tmps:=args++Array.replicate (fn.ntmps-args.size) undef,defers:=[] } w:=by
  refine⟨I,⟨rfl,?_,fun t x B=>?_,aO,⟨rfl,rfl,rfl,It _,fun _ h=>h,fun _ h=>.inl h,fun _ _=>rfl,fun id o b U K=>.inr ⟨id,o,U,K⟩⟩⟩,fun _ _=>⟨rfl,rfl⟩⟩
  ·show(args++Array.replicate (fn.ntmps-args.size) undef).size=n;rw[Array.size_append,Array.size_replicate,hn];omega
  ·obtain⟨_,K⟩:=CZ ins 0 t x B;rw[Nat.sub_zero] at K;obtain⟨v,V,M⟩:=k.get K;refine⟨v,?_,M⟩;have L:args[t]?=some v:=by simpa using V
   have X:t<args.size:=(Array.getElem?_eq_some_iff.1 L).1;show(args++Array.replicate (fn.ntmps-args.size) undef)[t]?=some v;rw[Array.getElem?_append_left X,L]
 rw[<-IH] at z;refine wp_mono ((h Γ rfl).run _ w z) fun e a' w' ⟨ex,ts',os',hm,Q,H⟩=>?_;have J:(∃s r,Fin tab fn.results.toList ts' os' av upd news s r)->a'.defers=[]/\∃v,(results fn a'.tmps).run P w'=.ok v w'/\∃T c',Ending.returned v=.returned T/\aS I w c' w' need upd news/\Rd c' w' T av:=by
  rintro⟨s,r,a⟩;obtain⟨u,⟨U,K,V,M,y⟩,h6⟩:=H;obtain⟨vs,g1,g2⟩:=yF hT V M fn.results.toList r a.res;have hso:=uL a.obj;have hu:=M.aw a.obj a.inj;have N:∀id o,lk upd id=some o->id∈news\/top<=id:=fun id o hl=>by
   have:=MR.1 a.mem _ (dR hl);simp only[Bool.or_eq_true] at this;exact this.imp (fun h=>by simpa using h) fun h=>MZ h
  let c':Ctx:={ Φ:=u.Φ,μ:=fun i=>if(lk upd i).isSome then u.μ (rn s i) else I.μ i,hd:=fun i=>if(lk upd i).isSome then u.hd (rn s i) else I.hd i };have m:∀i,(lk upd i).isSome=true->c'.μ i=(u.bq (rn s)).μ i/\c'.hd i=(u.bq (rn s)).hd i:=fun i hi=>by simp[c',Ctx.bq,hi]
  have d:∀b,Γ.aK b->w.heap.size<=b\/Touch I need upd b:=fun b C=>C.imp (fun h=>h) fun⟨id,o,q1,q2⟩=>⟨id,o,q1,by
   have:=MR.1 F _ (dR q1);simp only[IT] at this;exact this.2,q2⟩
  have j:∀l:List Nat,(l.all fun i=>(lk upd i).isSome || IN Go.Proofs.YtibjcppjfkamhaaGreatDoor.top i)=true->∀x∈l,c'.μ x=(u.bq (rn s)).μ x/\c'.hd x=(u.bq (rn s)).hd x:=fun l hl x B=>by
   by_cases A:(lk upd x).isSome=true
   ·exact m x A
   ·have:=MR.1 hl x B;simp only[Bool.or_eq_true] at this;have ht:=MZ (this.resolve_left A);have h7:=h6 x ht;simp only[c',N1 A,Ctx.bq,vB a.top ht];exact⟨h7.1.symm,h7.2.symm⟩
  have g:∀id o b,lk upd id=some o->(aW c' id o b↔aW (u.bq (rn s)) id o b):=fun id o b hl=>rJ (m id (by rw[hl];rfl)) (j _ (MR.1 a.tj _ (dR hl)));refine⟨U,d34 vs,?_,d34 vs,c',rfl,⟨y.cX,y.tape,y.output,y.size,y.aq,fun b C=>?_,fun b C Z=>y.ab b fun ho=>?_,fun id E=>?_,⟨fun id o hl=>?_,fun id o b hl D=>?_,fun id S o o' b Y hl O D W=>?_,M.aq⟩,fun id o b hl D=>?_⟩,?_⟩
  ·exact HX g1
  ·exact(y.ak b C).imp (fun h=>h) (d b)
  ·rcases d b ho with h|h
   ·exact absurd C (Nat.not_lt.2 h)
   ·exact Z h
  ·by_cases A:(lk upd id).isSome=true
   ·obtain⟨o,ho⟩:=Option.isSome_iff_exists.1 A;rcases N id o ho with B|B
    ·exact absurd B E
    ·have:=h6 id B;rw[(m id A).1,(m id A).2];simpa[Ctx.bq,vB a.top B] using this
   ·simp[c',A]
  ·exact(hu.rep id o hl).ab (m id (by rw[hl];rfl)) (fun _ _=>rfl) (fun _ h=>h) (fun _ _=>rfl) (j _ (MR.1 a.tj _ (dR hl)))
  ·exact hu.lt id o b hl ((g id o b hl).1 D)
  ·exact hu.sep id S o o' b Y hl O ((g id o b hl).1 D) ((g S o' b O).1 W)
  ·exact d b (y.az _ _ b (hso id o hl) (il.1 ((g id o b hl).1 D)))
  ·have q:=(ye a.out (KY g2)).aw;exact Rd.mono (c:=u.bq (rn s)) (c':=c') (fun _ _=>rfl) (fun _ h=>h) (j _ a.ids) q
 match e,ex,hm,Q with
 |.normal,.normal,_,Q=>exact J Q
 |.ret,.ret,_,Q=>exact J Q
end
def waits (o:Oper) (i:Nat):Bool:=o.after.toList.any fun e=>Region.binds .any e && AT e.on i
def qG (ops:List Oper):Nat->Oper->Nat->Bool
 |0,o,i=>waits o i
 |n+1,o,i=>waits o i || o.after.toList.any fun e=>Region.binds .any e && (match ops[e.on]? with
  |some m=>qG ops n m i
  |none=>false)
def dd (ops:List Oper) (o:Oper) (i:Nat):Bool:=qG ops 12 o i
def Ci {o:Oper} {e:_} (b:e∈o.after.toList) (a:Region.binds .any e=true):waits o e.on=true:=by
 unfold waits;exact List.any_eq_true.2 ⟨e,b,by simp[a]⟩
def C7 {ops:List Oper} {o:Oper} {i:Nat} (h:waits o i=true):dd ops o i=true:=by unfold dd qG;rw[h];rfl
def bW (ops:List Oper) (o:Oper):List Nat :=
 (o.op.operands.toList.filterMap fun|.tmp t=>some t|_=>none) ++
 (match o.guard with
  |some (g,_)=>match ops[g]? with
   |some x=>x.dst.toList
   |none=>[]
  |none=>[])
def dz (ops:List Oper) (x y:Oper):Bool :=
 (match x.dst with
  |some d=>(bW ops y).elem d || (y.dst == some d)
  |none=>false) ||
 (match y.dst with
  |some d=>(bW ops x).elem d
  |none=>false)
def ee (ops:List Oper):Bool :=
 (ops.zipIdx.all fun(o,k)=>o.after.toList.all fun e=>!Region.binds .any e || MX e.on k) &&
 (ops.zipIdx.all fun(y,k)=>ops.zipIdx.all fun(x,i)=>!Nat.blt i k || !dz ops x y || waits y i) &&
 (ops.all fun o=>match o.op with|.select _ _=>false|_=>true)
structure df (ops:List Oper) (σ:List Nat):Prop where
 nodup:σ.Nodup
 lt:∀i∈σ,i<ops.length
 wait:∀pre j post,σ=pre++j::post->∀o,ops[j]?=some o->∀i,waits o i=true->i∈post
theorem df.cons {ops:List Oper} {b:List Nat} {k:Nat} {o:Oper} (h:df ops b) (e:ops[k]?=some o) (f:k ∉ b) (g:∀i,waits o i=true->i∈b):df ops (k::b):=by
 refine⟨List.nodup_cons.2 ⟨f,h.nodup⟩,fun i hi=>?_,fun pre j post a x d i hi=>?_⟩
 ·rcases MG.1 hi with rfl|hi
  ·exact(ME.1 e).1
  ·exact h.lt i hi
 ·cases pre with
  |nil =>
   simp at a;obtain⟨rfl,rfl⟩:=a;rw[e] at d;cases d;exact g i hi
  |cons p pre =>
   simp at a;exact h.wait pre j post a.2 x d i hi
theorem df.jR {ops:List Oper} {k:List Nat} (h:df ops k):∀(n:Nat) {pre post:List Nat} {j:Nat} (b:k=pre++j::post) {o:Oper} (d:ops[j]?=some o) {i:Nat} (a:qG ops n o i=true),i∈post
 |0,pre,post,j,b,o,d,i,a=>h.wait pre j post b o d i a
 |n+1,pre,post,j,b,o,d,i,a=>by
  unfold qG at a;rw[Bool.or_eq_true] at a;rcases a with a|a
  ·exact h.wait pre j post b o d i a
  ·obtain⟨e,q,a⟩:=List.any_eq_true.1 a;simp only[IT] at a;obtain⟨l,a⟩:=a;have p:=h.wait pre j post b o d e.on (Ci q l);obtain⟨r,s,g⟩:=List.append_of_mem p;split at a
   ·rename_i m f;have:=h.jR n (pre:=pre++j::r) (post:=s) (by rw[b,g];simp) f a;rw[g];simp[this]
   ·cases a
theorem df.fA {ops:List Oper} {a:List Nat} (h:df ops a) {pre post:List Nat} {j:Nat} (b:a=pre++j::post) {o:Oper} (d:ops[j]?=some o) {i:Nat} (e:dd ops o i=true):i∈post :=
 h.jR _ b d e
theorem df.ES {ops:List Oper} {f:List Nat} (h:df ops f) {o:Oper} (j:∀i,waits o i=true->i∈f) {i:Nat} (a:dd ops o i=true):i∈f:=by
 unfold dd qG at a;rw[Bool.or_eq_true] at a;rcases a with a|a
 ·exact j i a
 ·obtain⟨e,k,a⟩:=List.any_eq_true.1 a;simp only[IT] at a;obtain⟨l,n,g⟩:=List.append_of_mem (j e.on (Ci k a.1));have b:=a.2;split at b
  ·rename_i m d;have:=h.jR _ g d b;rw[g];simp[this]
  ·cases b
def down : Nat->List Nat
 |0=>[]
 |k+1=>k::down k
def xv {k i:Nat}:i∈down k↔i<k:=by
 induction k with
 |zero=>simp[down]
 |succ k ih=>simp only[down,MG,ih];omega
theorem xI {ops:List Oper} (h:ee ops=true):∀k,k<=ops.length->df ops (down k)
 |0,_=>⟨by simp[down],by simp[down],fun pre j post d=>by simp[down] at d⟩
 |k+1,l=>by
  have ih:=xI h k d9;have g:ops[k]?=some ops[k]:=IS d9;refine ih.cons g (by rw[xv];omega) fun i hi=>?_;rw[xv];unfold ee at h;simp only[IT] at h;have f:=MR.1 h.1.1 (ops[k],k) (by rw[List.mem_zipIdx_iff_getElem?];exact g);simp only[MR] at f;unfold waits at hi;obtain⟨e,d,b⟩:=List.any_eq_true.1 hi;simp only[IT] at b;have a:=f e d;rw[b.1] at a;simp only[MH,Bool.false_or] at a;have:=MZ a;have:=MN b.2;omega
theorem df.first {ops:List Oper} {p:List Nat} (h:df ops p) (W:Nat->Bool) {k:Nat} (C:∀i,i<k->W i=true->i∈p) (z:∀i∈p,W i=true->i<k)
  (D:∀i j o,i<j->j<k->W i=true->W j=true->ops[j]?=some o->dd ops o i=true):p.find? W=(down k).find? W:=by
 have d:∀k,(down k).find? W=none\/∃j,(down k).find? W=some j/\j<k/\W j=true/\∀i,i<k->W i=true->i<=j:=by
  intro k
  induction k with
  |zero=>exact .inl rfl
  |succ k ih =>
   simp only[down,List.find?_cons];by_cases b:W k=true
   ·rw[b];exact .inr ⟨k,rfl,d9,b,fun i hi _=>d9⟩
   ·simp only[b];rcases ih with ih|⟨j,v,x,n,y⟩
    ·exact .inl ih
    ·refine .inr ⟨j,v,d9,n,fun i hi l=>?_⟩;rcases Nat.lt_or_eq_of_le (Nat.le_of_lt_succ hi) with h|h
     ·exact y i h l
     ·subst h;exact absurd l b
 rcases d k with B|⟨j,v,x,n,y⟩
 ·rw[B,List.find?_eq_none];intro i hi b;have q:=z i hi b;have:=List.find?_eq_none.1 B i (xv.2 q);exact this b
 ·rw[v];have A:=C j x n;obtain⟨pre,post,e⟩:=List.append_of_mem A;rw[e,List.find?_append];have g:pre.find? W=none:=by
   rw[List.find?_eq_none];intro m r b;have u:m∈p:=by rw[e];simp[r]
   have s:=z m u b;have E:=y m s b;have F:m≠j:=by
    rintro rfl;have a:=h.nodup;rw[e] at a;have:=(List.nodup_append.1 a).2.2 m r m l9;exact this rfl
   have f:ops[j]?=some (ops[j]'(h.lt j A)):=IS _;have t:=h.fA e f (D m j _ d9 x b n f);have a:=h.nodup;rw[e] at a;exact(List.nodup_append.1 a).2.2 m r m (by simp[t]) rfl
  rw[g];simp[n]
structure bO where
 av:AV
 need:Os
 upd:Os
 news:List Nat
 deriving Inhabited
section
variable (ops:List Oper) (R:Nat->bO) (ts0:Ts) (os0:Os)
def I8 : List Nat->Ts
 |[]=>ts0
 |k::σ=>match (ops[k]?).bind (·.dst) with
  |some d=>(d,(R k).av)::I8 σ
  |none=>I8 σ
def S9 : List Nat->Os
 |[]=>os0
 |k::σ=>(R k).upd++S9 σ
def ft (t:Nat) (k:Nat):Bool:=(ops[k]?).bind (·.dst) == some t
def jy (id:Nat) (k:Nat):Bool:=(lk (R k).upd id).isSome
theorem nT (t:Nat):∀a:List Nat,lk (I8 ops R ts0 a) t=match a.find? (ft ops t) with
  |some k=>some (R k).av
  |none=>lk ts0 t
 |[]=>rfl
 |k::a=>by
  rw[List.find?_cons];unfold I8;cases hd:(ops[k]?).bind (·.dst) with
  |none =>
   have:ft ops t k=false:=by unfold ft;rw[hd];rfl
   rw[this];exact nT t a
  |some d =>
   simp only;rw[l8];by_cases h:d=t
   ·subst h;have:ft ops d k=true:=by unfold ft;rw[hd];simp
    rw[this,N2 rfl]
   ·have:ft ops t k=false:=by unfold ft;rw[hd];simpa using h
    rw[this,N1 h];exact nT t a
theorem ly (id:Nat):∀a:List Nat,lk (S9 R os0 a) id=match a.find? (jy R id) with
  |some k=>lk (R k).upd id
  |none=>lk os0 id
 |[]=>rfl
 |k::a=>by
  rw[List.find?_cons];unfold S9;rw[J7];cases b:lk (R k).upd id with
  |none =>
   have:jy R id k=false:=by unfold jy;rw[b];rfl
   rw[this];simpa using ly id a
  |some x =>
   have:jy R id k=true:=by unfold jy;rw[b];rfl
   rw[this];simp[b]
end
theorem CY : ∀(n:Nat) (l:List Nat),l.Nodup->(∀i∈l,i<n)->l.length<=n
 |0,l,_,h=>by
  cases l with
  |nil=>simp
  |cons a l=>exact absurd (h a l9) d9
 |n+1,l,b,h=>by
  have ih:=CY n (l.erase n) (b.erase n) fun i hi=>by
   have d:=h i (List.mem_of_mem_erase hi);have f:i≠n:=fun e=>by
    subst e;exact(b.not_mem_erase hi).elim
   omega
  have:l.length<=(l.erase n).length+1:=by
   rw[List.length_erase];split<;>omega
  omega
def mentions (r:bO):List Nat:=r.av.ids++r.upd.flatMap fun p=>p.2.ids
def keys (os:Os):List Nat:=os.map (·.1)
def gi {os:Os} {id:Nat} (h:(lk os id).isSome=true):id∈keys os:=by
 obtain⟨o,a⟩:=Option.isSome_iff_exists.1 h;exact MU.2 ⟨_,dR a,rfl⟩
structure Comm (a b:bO):Prop where
 wr:∀id∈keys a.upd,id ∉ keys b.need
 ww:∀id∈keys a.upd,id ∉ keys b.upd
 nm:∀id∈a.news,id ∉ mentions b
def Rw (a b:bO):Prop:=∀id∈keys b.upd,id ∉ keys a.need
def fT (ops:List Oper) (o:Oper) (ts:Ts) (b:Bool):Prop :=
 match o.guard with
 |none=>b=true
 |some (j,a)=>(pC ops ts j=true/\b=false)\/∃x,qD ops ts j=some x/\(x == a)=b
structure Dy (P:Program) (Γ:Z7) (ops:List Oper) (o:Oper) (ts:Ts) (os:Os) (r:bO):Prop where
 guard:fT ops o ts true
 zN:qn P o (cP ts) r.av r.need r.upd r.news
 need:∀id ob,lk r.need id=some ob->lk os id=some ob
 news:∀id∈r.news,(lk r.upd id).isSome=true
 zG:F5 r.news ts=true
 qe:F4 r.news r.upd os=true
structure Dg (ops:List Oper) (o:Oper) (ts:Ts) (r:bO):Prop where
 guard:fT ops o ts false
 eq:r=⟨.aZ [],[],[],[]⟩
theorem fT.run {c:Ctx} {w:World} {ops:List Oper} {o:Oper} {ts:Ts} {a:Act} {b:Bool} (h:gL c w ts a) (e:fT ops o ts b):Region.wanted o (yielded ops.toArray a.tmps)=b:=by
 unfold fT at e;unfold Region.wanted;split at e
 ·rename_i g;rw[g,e]
 ·rename_i j d g;rw[g];rcases e with⟨f,rfl⟩|⟨x,f,i⟩
  ·have:=wN h f;simp only[this];rfl
  have:=wL h f;simp only[this];rw[<-i];cases x<;>cases d<;>rfl
structure mH (P:Program) (ops:List Oper) (R:Nat->bO) (ts0:Ts) (os0:Os) (i k:Nat):Prop where
 upd:(R i).upd=[]
 news:(R i).news=[]
 EU:∀j,i<j->j<k->∀id∈keys (R j).upd,id ∉ keys (R i).need
 zN:∃o need',ops[i]?=some o/\qn P o (cP (I8 ops R ts0 (down i))) (R i).av need' [] []/\(∀id ob,lk need' id=some ob->lk (S9 R os0 (down (k+1))) id=some ob)/\∀id∈keys need',id∈keys (R i).need
section
variable {P:Program} {Γ:Z7} {ops:List Oper} {R:Nat->bO} {ts0:Ts} {os0:Os}
structure Lex (P:Program) (Γ:Z7) (ops:List Oper) (R:Nat->bO) (ts0:Ts) (os0:Os) (n:Nat):Prop where
 mI:∀k o,k<n->ops[k]?=some o->Dy P Γ ops o (I8 ops R ts0 (down k)) (S9 R os0 (down k)) (R k)\/Dg ops o (I8 ops R ts0 (down k)) (R k)
 dst:∀k o,k<n->ops[k]?=some o->gG Γ.n o.dst=true
 comm:∀i k o,i<k->k<n->ops[k]?=some o->dd ops o i=false->Comm (R i) (R k)/\(Rw (R i) (R k)\/mH P ops R ts0 os0 i k)
def uo (hd:ee ops=true) {i k:Nat} {x y:Oper} (f:ops[i]?=some x) (g:ops[k]?=some y) (b:i<k) (e:dz ops x y=true):waits y i=true:=by
 unfold ee at hd;simp only[IT] at hd;have d:=MR.1 hd.1.2 (y,k) (by rw[List.mem_zipIdx_iff_getElem?];exact g);have a:=MR.1 d (x,i) (by rw[List.mem_zipIdx_iff_getElem?];exact f);simp only[e,MH,Bool.or_false,Bool.or_eq_true,Bool.not_eq_true'] at a;rcases a with a|a
 ·have:MX i k=true:=Nat.ble_eq_true_of_le b;rw[this] at a;cases a
 ·exact a
def Bu (hd:ee ops=true) {l:List Nat} (g:df ops l) {k:Nat} {o:Oper} (v:ops[k]?=some o) (u:k ∉ l) (E:∀i,waits o i=true->i∈l) {t:Nat} (A:t∈bW ops o) :
  lk (I8 ops R ts0 l) t=lk (I8 ops R ts0 (down k)) t:=by
 have d:∀i,ft ops t i=true->∃x,ops[i]?=some x/\x.dst=some t:=fun i hi=>by
  unfold ft at hi;cases b:ops[i]? with
  |none=>rw[b] at hi;simp at hi
  |some x=>rw[b] at hi;exact⟨x,rfl,by simpa using hi⟩
 have C:=g.first (ft ops t) (k:=k) (fun i hi a=>by
   obtain⟨x,b,f⟩:=d i a;exact E i (uo hd b v hi (by unfold dz;rw[f];simp[A]))) (fun i hi a=>by
   obtain⟨x,b,f⟩:=d i a;rcases Nat.lt_or_ge i k with h|h
   ·exact h
   ·have D:i≠k:=fun e=>u (e▸hi);have p:=uo hd v b d9 (by
     unfold dz;rw[f];cases o.dst<;>simp[A])
    obtain⟨pre,post,s⟩:=List.append_of_mem hi;have:=g.wait pre i post s x b k p;exact absurd (by rw[s];simp[this]) u) (fun i j x m G a n b=>by
   obtain⟨y,F,q⟩:=d i a;obtain⟨z,B,r⟩:=d j n;rw[b] at B;cases B;exact C7 (uo hd F b m (by unfold dz;rw[q,r];simp)))
 rw[nT,nT,C]
def Im {n:Nat} (t:Lex P Γ ops R ts0 os0 ops.length) {g:List Nat} (d:df ops g) {k:Nat} {o:Oper} (y:ops[k]?=some o) (v:k ∉ g) (B:∀i,waits o i=true->i∈g) {id:Nat} (f:id∈keys (R k).need) (q:∀j∈g,k<j->Rw (R k) (R j)) :
  lk (S9 R os0 g) id=lk (S9 R os0 (down k)) id:=by
 have p:k<ops.length:=(ME.1 y).1;have z:=d.first (jy R id) (k:=k) (fun i hi b=>by
   cases a:dd ops o i with
   |true=>exact d.ES B a
   |false=>exact absurd f ((t.comm i k o hi p y a).1.wr id (gi b))) (fun i hi b=>by
   rcases Nat.lt_or_ge i k with h|h
   ·exact h
   ·have A:i≠k:=fun e=>v (e▸hi);have m:=d.lt i hi;have s:ops[i]?=some ops[i]:=IS m;cases a:dd ops ops[i] k with
    |true =>
     obtain⟨pre,post,u⟩:=List.append_of_mem hi;have:=d.fA u s a;exact absurd (by rw[u];simp[this]) v
    |false=>exact absurd f (q i hi d9 id (gi b))) (fun i j x l C b r s=>by
   cases a:dd ops x i with
   |true=>rfl
   |false=>exact absurd (gi r) ((t.comm i j x l d9 s a).1.ww id (gi b)))
 rw[ly,ly,z]
def JT (p:Lex P Γ ops R ts0 os0 ops.length) {g:List Nat} (e:df ops g) {k:Nat} {o:Oper} (z:ops[k]?=some o) (C:k ∉ g) (E:∀i,waits o i=true->i∈g) {m:Nat} (y:m∈g) (s:k<m) (hS:mH P ops R ts0 os0 k m) (A:¬Rw (R k) (R m)) {id:Nat} (d:id∈keys (R k).need) :
  lk (S9 R os0 g) id=lk (S9 R os0 (down (m+1))) id:=by
 have r:k<ops.length:=(ME.1 z).1;have D:=e.lt m y;have B:=e.first (jy R id) (k:=m+1) (fun i hi a=>by
   rcases Nat.lt_trichotomy i k with h|h|h
   ·cases b:dd ops o i with
    |true=>exact e.ES E b
    |false=>exact absurd d ((p.comm i k o h r z b).1.wr id (gi a))
   ·subst h;unfold jy at a;rw[hS.upd] at a;cases a
   ·rcases Nat.lt_or_ge i m with u|u
    ·exact absurd d (hS.EU i h u id (gi a))
    ·have:i=m:=d9;subst this;exact y) (fun i hi a=>by
   rcases Nat.lt_or_ge i (m+1) with h|h
   ·exact h
   ·have f:=e.lt i hi;have l:ops[i]?=some ops[i]:=IS f;cases b:dd ops ops[i] k with
    |true =>
     obtain⟨pre,post,v⟩:=List.append_of_mem hi;have:=e.fA v l b;exact absurd (by rw[v];simp[this]) C
    |false =>
     rcases(p.comm k i _ d9 f l b).2 with n|n
     ·exact absurd d (n id (gi a))
     ·exact absurd (fun id d=>n.EU m s d9 id d) A) (fun i j x q F a t l=>by
   cases b:dd ops x i with
   |true=>rfl
   |false=>exact absurd (gi t) ((p.comm i j x q d9 l b).1.ww id (gi a)))
 rw[ly,ly,B]
def Ii (hd:ee ops=true) (s:Lex P Γ ops R ts0 os0 ops.length) {l:List Nat} (a:df ops l) (b:∀i,i<ops.length->i∈l) :
  (∀t,lk (I8 ops R ts0 l) t=lk (I8 ops R ts0 (down ops.length)) t)/\∀id,lk (S9 R os0 l) id=lk (S9 R os0 (down ops.length)) id:=by
 refine⟨fun t=>?_,fun id=>?_⟩
 ·have h:∀i,ft ops t i=true->∃x,ops[i]?=some x/\x.dst=some t:=fun i hi=>by
   unfold ft at hi;cases g:ops[i]? with
   |none=>rw[g] at hi;simp at hi
   |some x=>rw[g] at hi;exact⟨x,rfl,by simpa using hi⟩
  have m:=a.first (ft ops t) (k:=ops.length) (fun i hi _=>b i hi) (fun i hi _=>a.lt i hi) (fun i j x d q e f g=>by
   obtain⟨y,u,o⟩:=h i e;obtain⟨z,r,p⟩:=h j f;rw[g] at r;cases r;exact C7 (uo hd u g d (by unfold dz;rw[o,p];simp)))
  rw[nT,nT,m]
 ·have m:=a.first (jy R id) (k:=ops.length) (fun i hi _=>b i hi) (fun i hi _=>a.lt i hi) (fun i j x d q e f g=>by
   cases n:dd ops x i with
   |true=>rfl
   |false=>exact absurd (gi f) ((s.comm i j x d q g n).1.ww id (gi e)))
  rw[ly,ly,m]
theorem E5.congr {ts f:Ts} {os e:Os} {a:Act} {w:World} (h:E5 Γ ts os a w) (p:∀t,lk f t=lk ts t) (g:∀id,lk e id=lk os id):E5 Γ f e a w:=by
 obtain⟨c,⟨i,j,k,l,d⟩,m⟩:=h;exact⟨c,⟨i,j,fun t x hl=>k t x (by rw[<-p];exact hl),l.sub fun id o hl=>by rw[<-g];exact hl,⟨d.cX,d.tape,d.output,d.size,d.aq,d.ak,d.ab,fun id o b hl n=>d.az id o b (by rw[<-g];exact hl) n⟩⟩,m⟩
end
structure V where
 k:Int
 n:Int
 deriving DecidableEq,Inhabited
structure Ln where
 cls:Int
 found:Int
 deriving DecidableEq,Inhabited
structure St where
 cls:Int
 name:ByteArray
 pos:Int
 deriving DecidableEq,Inhabited
structure Tl where
 site:St
 a7:List Ln
 deriving DecidableEq,Inhabited
structure Ce where
 site:St
 aC:Int
 many:Bool
 lines:List Ln
 deriving DecidableEq,Inhabited
structure Ins where
 op:Int
 a:Int
 b:Int
 c:Int
 name:ByteArray
 deriving DecidableEq,Inhabited
structure Me where
 name:ByteArray
 args:Int
 a8:Int
 aV:Int
 code:List Ins
 deriving DecidableEq,Inhabited
structure Cl where
 name:ByteArray
 aQ:Int
 aG:Int
 aB:List Me
 deriving DecidableEq,Inhabited
structure Ob where
 cls:Int
 aG:List V
 deriving DecidableEq,Inhabited
structure Wd where
 a7:List Cl
 heap:List Ob
 aC:Int
 deriving DecidableEq,Inhabited
structure Fs where
 cls:Int
 name:ByteArray
 aC:Int
 a8:Int
 code:List Ins
 deriving DecidableEq,Inhabited
def cE (n:Int):List AV:=[.int n]
def px (s:ByteArray):List AV:=[.str s]
def eV (v:V):List AV:=[.int v.k,.int v.n]
def V7 (x:Ln):List AV:=[.int x.cls,.int x.found]
def bU (s:St):List AV:=[.int s.cls,.str s.name,.int s.pos]
def hJ (t:Tl):List AV:=[.int t.site.cls,.str t.site.name,.int t.site.pos,.sl 2 (t.a7.map V7)]
def hC (t:Ce):List AV:=[.int t.site.cls,.str t.site.name,.int t.site.pos,.int t.aC,.bool t.many,.sl 2 (t.lines.map V7)]
def bd (i:Ins):List AV:=[.int i.op,.int i.a,.int i.b,.int i.c,.str i.name]
def G9 (m:Me):List AV:=[.str m.name,.int m.args,.int m.a8,.int m.aV,.sl 5 (m.code.map bd)]
def fI (c:Cl):List AV:=[.str c.name,.int c.aQ,.int c.aG,.sl 5 (c.aB.map G9)]
def hF (o:Ob):List AV:=[.int o.cls,.sl 2 (o.aG.map eV)]
def M8 (w:Wd):List AV:=[.sl 4 (w.a7.map fI),.sl 2 (w.heap.map hF),.int w.aC]
def eb (f:Fs):List AV:=[.int f.cls,.str f.name,.int f.aC,.int f.a8,.sl 5 (f.code.map bd)]
def EM {c:Type} {enc:c->List AV} {l:List c} {i:Nat} {b:List AV} (h:(l.map enc)[i]?=some b):∃a,l[i]?=some a/\b=enc a:=by
 rw[Mj,MM] at h;obtain⟨a,d,e⟩:=h;exact⟨a,d,e.symm⟩
section
variable {P:Program} {Γ:Z7} {ops:List Oper} {R:Nat->bO} {ts0:Ts} {os0:Os}
def IE {o:Oper} {i:Nat}:waits o i=true↔∃e∈o.after,Region.binds .any e=true/\e.on=i:=by
 unfold waits;rw[List.any_eq_true];constructor
 ·rintro⟨e,b,a⟩;simp only[IT] at a;exact⟨e,by simpa using b,a.1,MN a.2⟩
 ·rintro⟨e,b,a,rfl⟩;exact⟨e,by simpa using b,by simp[a]⟩
def B4 (hd:ee ops=true) {g:List Nat} (m:df ops g) {k:Nat} {o:Oper} (r:ops[k]?=some o) (q:k ∉ g) (u:∀i,waits o i=true->i∈g) {b:Bool} (h:fT ops o (I8 ops R ts0 (down k)) b):fT ops o (I8 ops R ts0 g) b:=by
 have e:∀t∈bW ops o,lk (I8 ops R ts0 g) t=lk (I8 ops R ts0 (down k)) t:=fun t s=>Bu hd m r q u s;unfold fT at h⊢;split at h
 ·exact h
 ·rename_i j p n;rcases h with⟨c,l⟩|⟨x,c,l⟩
  ·refine .inl ⟨?_,l⟩;unfold pC at c⊢;cases f:ops[j]? with
   |none=>rw[f] at c;cases c
   |some y =>
    rw[f] at c;simp only at c⊢;cases a:y.dst with
    |none=>rw[a] at c;cases c
    |some d =>
     rw[a] at c;simp only at c⊢;rw[e d (by unfold bW;rw[n];simp[f,a])];exact c
  refine .inr ⟨x,?_,l⟩;unfold qD at c⊢;cases f:ops[j]? with
  |none=>rw[f] at c;cases c
  |some y =>
   rw[f] at c;simp only at c⊢;cases a:y.dst with
   |none=>rw[a] at c;cases c
   |some d =>
    rw[a] at c;simp only at c⊢;rw[e d (by unfold bW;rw[n];simp[f,a])];exact c
def Ic (hd:ee ops=true) (W:Lex P Γ ops R ts0 os0 ops.length) {q:List Nat} (l:df ops q) {k:Nat} {o:Oper} (A:ops[k]?=some o) (J:k ∉ q) (hw:∀i,waits o i=true->i∈q) {a:Act} {w:World}
  (hr:E5 Γ (I8 ops R ts0 q) (S9 R os0 q) a w) {K:Act->World->Prop} {Q:Exit->Act->World->Prop} (hK:∀a' w',E5 Γ (I8 ops R ts0 (k::q)) (S9 R os0 (k::q)) a' w'->K a' w'):wpOp P ops.toArray Q k K a w:=by
 have hkl:k<ops.length:=(ME.1 A).1;have I:=W.dst k o hkl A;obtain⟨c,b⟩:=hr;have F:=b.rel.ts;unfold wpOp;have ho':ops.toArray[k]?=some o:=by simpa using A
 simp only[ho'];have ets:∀v,E5 Γ (dI o.dst (R k).av (I8 ops R ts0 q)) ((R k).upd++S9 R os0 q) (a.put o.dst v) w->True:=fun _ _=>trivial;have tsc:I8 ops R ts0 (k::q)=dI o.dst (R k).av (I8 ops R ts0 q):=by
  rw[I8,A];cases M:o.dst<;>simp[dI,M]
 rcases W.mI k o hkl A with D|S
 ·rw[(B4 hd l A J hw D.guard).run F,N2 rfl];left;have hev:∀x∈o.op.operands.toList,Rd c w (a.eval x) (cP (I8 ops R ts0 (down k)) x):=fun x L=>by
   have e:cP (I8 ops R ts0 (down k)) x=cP (I8 ops R ts0 q) x:=by
    cases x with
    |tmp t =>
     unfold cP;simp only;rw[Bu hd l A J hw (by unfold bW;rw[MT];left;rw[List.mem_filterMap];exact⟨.tmp t,L,rfl⟩)]
    |_=>rfl
   rw[e];exact qB F x
  have E:∃f,qn P o (cP (I8 ops R ts0 (down k))) (R k).av f (R k).upd (R k).news/\∀id ob,lk f id=some ob->lk (S9 R os0 q) id=some ob:=by
   by_cases z:∀j∈q,k<j->Rw (R k) (R j)
   ·refine⟨(R k).need,D.zN,fun id ob h=>?_⟩;rw[Im (n:=0) W l A J hw (gi (by rw[h];rfl)) z];exact D.need id ob h
   ·simp only[Classical.not_forall] at z;obtain⟨m,y,hkm,hN⟩:=z;have hml:=l.lt m y;have hmo:ops[m]?=some ops[m]:=IS hml;have hS:mH P ops R ts0 os0 k m:=by
     cases C:dd ops ops[m] k with
     |true =>
      obtain⟨pre,post,N⟩:=List.append_of_mem y;have:=l.fA N hmo C;exact absurd (by rw[N];simp[this]) J
     |false=>exact(W.comm k m _ hkm hml hmo C).2.resolve_left hN
    obtain⟨o',f,ho2,ht,hn,hsub⟩:=hS.zN;rw[A] at ho2;cases ho2;refine⟨f,by rw[hS.upd,hS.news];exact ht,fun id ob h=>?_⟩;rw[JT W l A J hw y hkm hS hN (hsub _ (gi (by rw[h];rfl)))];exact hn id ob h
  obtain⟨f,tri',g⟩:=E;have later:∀j∈q,¬j<k->∀x∈(R k).news,x ∉ mentions (R j):=fun j O u x L=>by
   have hne:j≠k:=fun e=>J (e▸O);have Y:=l.lt j O;have Z:ops[j]?=some ops[j]:=IS Y;cases C:dd ops ops[j] k with
   |true =>
    obtain⟨pre,post,N⟩:=List.append_of_mem O;have:=l.fA N Z C;exact absurd (by rw[N];simp[this]) J
   |false=>exact(W.comm k j _ d9 Y Z C).1.nm x L
  have memd:∀j,j<k->∀p:Nat×AV,True:=fun _ _ _=>trivial;have U:∀j,j<k->(∃d,(ops[j]?).bind (·.dst)=some d/\(d,(R j).av)∈I8 ops R ts0 (down k))\/(ops[j]?).bind (·.dst)=none:=by
   have:∀n j,j<n->(∃d,(ops[j]?).bind (·.dst)=some d/\(d,(R j).av)∈I8 ops R ts0 (down n))\/(ops[j]?).bind (·.dst)=none:=by
    intro n
    induction n with
    |zero=>intro j h;omega
    |succ n ih =>
     intro j h;rcases Nat.lt_or_eq_of_le (Nat.le_of_lt_succ h) with h|h
     ·rcases ih j h with⟨d,V,X⟩|V
      ·refine .inl ⟨d,V,?_⟩;simp only[down,I8];split
       ·exact Mr _ X
       ·exact X
      ·exact .inr V
     ·subst h;cases M:(ops[j]?).bind (·.dst) with
      |none=>exact .inr rfl
      |some d=>refine .inl ⟨d,rfl,?_⟩;simp only[down,I8,M];simp
   exact fun j h=>this k j h
  have H:∀p∈ts0,p∈I8 ops R ts0 (down k):=by
   have:∀n,∀p∈ts0,p∈I8 ops R ts0 (down n):=by
    intro n
    induction n with
    |zero=>exact fun p h=>h
    |succ n ih =>
     intro p h;simp only[down,I8];split
     ·exact Mr _ (ih p h)
     ·exact ih p h
   exact this k
  have T:∀j,j<k->∀p∈(R j).upd,p∈S9 R os0 (down k):=by
   have:∀n j,j<n->∀p∈(R j).upd,p∈S9 R os0 (down n):=by
    intro n
    induction n with
    |zero=>intro j h;omega
    |succ n ih =>
     intro j h p B;simp only[down,S9];rcases Nat.lt_or_eq_of_le (Nat.le_of_lt_succ h) with h|h
     ·exact List.mem_append_right _ (ih j h p B)
     ·subst h;exact List.mem_append_left _ B
   exact fun j h=>this k j h
  have G:∀p∈os0,p∈S9 R os0 (down k):=by
   have:∀n,∀p∈os0,p∈S9 R os0 (down n):=by
    intro n
    induction n with
    |zero=>exact fun p h=>h
    |succ n ih=>intro p h;simp only[down,S9];exact List.mem_append_right _ (ih p h)
   exact this k
  have zG:∀t x,lk (I8 ops R ts0 q) t=some x->∀id∈(R k).news,id ∉ x.ids:=by
   intro t x hl id s;have key:∀p∈I8 ops R ts0 (down k),id ∉ p.2.ids:=fun p B=>by
    have r:=D.zG;unfold F5 at r;split at r
    ·rename_i e;rw[e] at s;cases s
    ·exact oz (MR.1 r p B) id s
   rw[nT] at hl;cases r:q.find? (ft ops t) with
   |none=>rw[r] at hl;exact key _ (H _ (dR hl))
   |some j =>
    rw[r] at hl;simp only[Option.some.injEq] at hl;subst hl;have O:=List.mem_of_find?_eq_some r;by_cases u:j<k
    ·rcases U j u with⟨d,_,y⟩|hnn
     ·exact key _ y
     ·have:=List.find?_some r;unfold ft at this;rw[hnn] at this;simp at this
    ·intro y;exact later j O u id s (by unfold mentions;simp[y])
  have qe:(∀id ob,lk (S9 R os0 q) id=some ob->lk (R k).upd id=none->∀x∈(R k).news,x ∉ ob.ids)/\∀x∈(R k).news,x<top:=by
   refine⟨fun id ob hl hu x L y=>?_,(pA D.qe).2⟩;have key:∀p∈S9 R os0 (down k),p.1=id->x ∉ p.2.ids:=fun p B N=>by
    have r:=D.qe;unfold F4 at r;split at r
    ·rename_i e;rw[e] at L;cases L
    ·simp only[IT] at r;have:=MR.1 r.2 p B;rw[N,hu] at this;simp only[Option.isSome_none,Bool.false_or] at this;exact oz this x L
   rw[ly] at hl;cases r:q.find? (jy R id) with
   |none=>rw[r] at hl;exact key _ (G _ (dR hl)) rfl y
   |some j =>
    rw[r] at hl;simp only at hl;have O:=List.mem_of_find?_eq_some r;by_cases u:j<k
    ·exact key _ (T j u _ (dR hl)) rfl y
    ·refine later j O u x L ?_;unfold mentions;rw[MT];right;rw[List.mem_flatMap];exact⟨_,dR hl,y⟩
  have hgo:=tri' c w a.eval (b.rel.aO.sub g) hev;unfold Oper.wp;refine hgo.upon fun v w' ⟨c',B,hv⟩=>hK _ _ ⟨c',?_,?_⟩
  ·have hn:=b.rel.n;refine⟨by rw[put_defers];exact b.rel.defers,by rw[sW];exact hn,?_,?_,?_⟩
   ·rw[tsc];exact F.put (b.rel.aO.sub g) B zG hv (by rw[hn];exact I)
   ·exact b.rel.aO.frame g B D.news qe.1
   ·exact b.rel.inv.post b.rel.aO g B D.news qe.1
  ·intro id s;have hno:id ∉ (R k).news:=fun y=>by have:=qe.2 id y;omega
   have V:=B.ctx id hno;have X:=b.same id s;exact⟨V.1.trans X.1,V.2.trans X.2⟩
 ·rw[(B4 hd l A J hw S.guard).run F,N1 l9];have hs:=rK (o:=o) ⟨c,b⟩ I;refine hK _ _ ?_;rw[tsc,S9,S.eq];exact hs
def Cy (hd:ee ops=true) (L:Lex P Γ ops R ts0 os0 ops.length) {Q:Exit->Act->World->Prop} (T:∀a w,E5 Γ (I8 ops R ts0 (down ops.length)) (S9 R os0 (down ops.length)) a w->Q .normal a w) :
  ∀(fuel:Nat) (b:Array Bool) (c:List Nat) (a:Act) (w:World),df ops c->(∀i,i<ops.length->(b.getD i true=true↔i∈c))->b.size=ops.length->c.length+fuel=ops.length ->
   E5 Γ (I8 ops R ts0 c) (S9 R os0 c) a w->wpAny P .any ops.toArray Q fuel b a w:=by
 have u:∀(b:Array Bool) (c:List Nat),df ops c->(∀i,i<ops.length->(b.getD i true=true↔i∈c))->b.size=ops.length->Region.ready .any ops.toArray b=[]->∀i,i<ops.length->i∈c:=by
  intro b c d hl C n i
  induction i using Nat.strongRecOn with
  |_ i ih =>
   intro hi;cases A:b.getD i true with
   |true=>exact(hl i hi).1 A
   |false =>
    exfalso;have M:i∈Region.ready .any ops.toArray b:=by
     rw[mem_ready];refine⟨A,ops[i],by simp[hi],fun e F p=>?_⟩;have l:=hd;unfold ee at l;simp only[IT] at l;have z:=MR.1 l.1.1 (ops[i],i) (by rw[List.mem_zipIdx_iff_getElem?];exact IS hi);simp only[MR] at z;have E:=z e (by simpa using F);rw[p] at E;simp only[MH,Bool.false_or] at E;have H:e.on<i:=MZ E;have K:=(hl e.on d9).2 (ih e.on H d9);have s:e.on<b.size:=d9;simp only[Array.getD_eq_getD_getElem?,Array.getElem?_eq_getElem s,Option.getD_some] at K⊢;exact K
    rw[n] at M;cases M
 have v:∀(c:List Nat) (a:Act) (w:World),df ops c->(∀i,i<ops.length->i∈c)->E5 Γ (I8 ops R ts0 c) (S9 R os0 c) a w->Q .normal a w:=fun c a w d f n=>by
  obtain⟨e1,S⟩:=Ii hd L d f;exact T a w (n.congr (fun t=>(e1 t).symm) fun id=>(S id).symm)
 intro fuel
 induction fuel with
 |zero =>
  intro b c a w d hl C x n;have f:∀i,i<ops.length->i∈c:=fun i hi=>Classical.byContradiction fun U=>by
   have:=CY ops.length (i::c) (List.nodup_cons.2 ⟨U,d.nodup⟩) fun j r=>by
    rcases MG.1 r with rfl|r
    ·exact hi
    ·exact d.lt j r
   simp at this;omega
  refine⟨?_,v c a w d f n⟩;apply List.eq_nil_iff_forall_not_mem.2;intro i hi;rw[mem_ready] at hi;obtain⟨D,o,B,_⟩:=hi;have k:i<ops.length:=by
   have:=(Array.getElem?_eq_some_iff.1 B).1;simpa using this
  have:=(hl i k).2 (f i k);rw[D] at this;cases this
 |succ fuel ih =>
  intro b c a w d hl C x n;refine⟨fun J=>v c a w d (u b c d hl C J) n,fun i hi=>?_⟩;rw[mem_ready] at hi;obtain⟨D,o,B,g⟩:=hi;have k:i<ops.length:=by
   have:=(Array.getElem?_eq_some_iff.1 B).1;simpa using this
  have y:ops[i]?=some o:=by simpa using B
  have m:i ∉ c:=fun h=>by
   have:=(hl i k).2 h;rw[D] at this;cases this
  have N:∀j,waits o j=true->j∈c:=fun j r=>by
   obtain⟨e,F,A,rfl⟩:=IE.1 r;have l:=g e F A;have s:e.on<b.size:=Classical.byContradiction fun G=>by
    simp only[Array.getD_eq_getD_getElem?,Array.getElem?_eq_none (Nat.le_of_not_lt G),Option.getD_none] at l;cases l
   have z:b.getD e.on true=true:=by
    simp only[Array.getD_eq_getD_getElem?,Array.getElem?_eq_getElem s,Option.getD_some] at l⊢;exact l
   exact(hl e.on d9).1 z
  refine Ic hd L d y m N n fun O w' I=>ih _ (i::c) O w' (d.cons y m N) (fun j r=>?_) (by simpa using C) L6 I;by_cases q:i=j
  ·subst q;have:i<b.size:=d9;simp[this]
  ·rw[getD_set_ne true q];rw[hl j r,MG];exact⟨.inr,fun h=>h.resolve_left fun e=>q e.symm⟩
end
def ju (a b:List Nat):Bool:=a.all fun x=>!(b.elem x)
def k7 {a b:List Nat} (h:ju a b=true):∀x∈a,x ∉ b:=fun x d c=>by
 have:=MR.1 h x d;simp at this;exact this c
structure gM where
 k:Nat
 need:List Nat
 writes:List Nat
 news:List Nat
def vp (ops:List Oper) (o:Oper) (a:List gM) (rd:List Nat) (b:Os) (av:AV):Bool :=
 a.all fun r=>(ju r.writes rd && ju r.writes (keys b) && ju (keys b) r.need && ju r.news (av.ids++b.flatMap fun p=>p.2.ids)) || dd ops o r.k
def iz (k:Nat) (rd c:List Nat) (b:Os) (a:List gM):List gM :=
 match rd,b with
 |[],[]=>a
 |_,_=>⟨k,rd,keys b,c⟩::a
def iX (P:Program) (tab:R9) (et:eK) (n:Nat) (ops:List Oper):Nat->List Oper->Ts->Os->List gM->(Ts->Os->Prop)->Prop
 |_,[],ts,os,_,K=>K ts os
 |k,o::rest,ts,os,log,K=>match o.dst with
  |some d=>match MX d n with
   |true=>jk ops o ts
    (j8 P tab et d o.op (cP ts) os fun av rd b a=>match F5 b ts && F4 b a os && vp ops o log rd a av with
     |true=>force av fun av=>iS a os fun os=>iX P tab et n ops (k+1) rest ((d,av)::ts) os (iz k rd b a log) K
     |false=>False)
    (iX P tab et n ops (k+1) rest ((d,.aZ [])::ts) os log K)
   |false=>False
  |none=>jk ops o ts
   (j8 P tab et 0 o.op (cP ts) os fun av rd b a=>match F5 b ts && F4 b a os && vp ops o log rd a av with
    |true=>iS a os fun os=>iX P tab et n ops (k+1) rest ts os (iz k rd b a log) K
    |false=>False)
   (iX P tab et n ops (k+1) rest ts os log K)
section
variable {P:Program} {tab:R9} {et:eK} {Γ:Z7} {ops:List Oper} {ts0:Ts} {os0:Os}
def uJ {o:Oper} {ts:Ts} {X Y:Prop} (h:jk ops o ts X Y):(fT ops o ts true/\X)\/(fT ops o ts false/\Y):=by
 unfold jk at h;unfold fT;cases e:o.guard with
 |none=>rw[e] at h;exact .inl ⟨rfl,h⟩
 |some p =>
  obtain⟨j,c⟩:=p;rw[e] at h;cases c with
  |true =>
   simp only at h⊢;split at h
   ·rename_i d;exact .inr ⟨.inl (by simp[d]),h⟩
   split at h
   ·rename_i b a;cases b
    ·exact .inr ⟨.inr ⟨false,a,rfl⟩,h⟩
    ·exact .inl ⟨.inr ⟨true,a,rfl⟩,h⟩
   ·exact h.elim
  |false =>
   simp only at h⊢;split at h
   ·rename_i d;exact .inr ⟨.inl (by simp[d]),h⟩
   split at h
   ·rename_i b a;cases b
    ·exact .inl ⟨.inr ⟨false,a,rfl⟩,h⟩
    ·exact .inr ⟨.inr ⟨true,a,rfl⟩,h⟩
   ·exact h.elim
def J9 (R:Nat->bO) (k:Nat) (r:bO):Nat->bO:=fun i=>if i=k then r else R i
theorem jj (R:Nat->bO) (k:Nat) (r:bO):∀n,n<=k->I8 ops (J9 R k r) ts0 (down n)=I8 ops R ts0 (down n)
 |0,_=>rfl
 |n+1,h=>by
  have e:J9 R k r n=R n:=by unfold J9;rw[N1 d9]
  simp only[down,I8,jj R k r n d9,e]
theorem ni (R:Nat->bO) (k:Nat) (r:bO):∀n,n<=k->S9 (J9 R k r) os0 (down n)=S9 R os0 (down n)
 |0,_=>rfl
 |n+1,h=>by
  have e:J9 R k r n=R n:=by unfold J9;rw[N1 d9]
  simp only[down,S9,ni R k r n d9,e]
def lX (R:Nat->bO) (k:Nat) (a:List gM):Prop:=∀i,i<k->((R i).need=[]/\(R i).upd=[]/\(R i).news=[])\/∃r∈a,r.k=i/\r.need=keys (R i).need/\r.writes=keys (R i).upd/\r.news=(R i).news
theorem Comm.b7 {a b:bO} (h:a.need=[]/\a.upd=[]/\a.news=[]):Comm a b:=by
 obtain⟨e,c,d⟩:=h;refine⟨fun id hi=>?_,fun id hi=>?_,fun id hi=>?_⟩
 ·rw[c] at hi;cases hi
 ·rw[c] at hi;cases hi
 ·rw[d] at hi;cases hi
theorem Rw.b7 {a b:bO} (h:a.need=[]):Rw a b:=fun id _ hi=>by rw[h] at hi;cases hi
theorem mH.set {P:Program} {R:Nat->bO} {i k j:Nat} {r:bO} (q:i<k) (s:k<j) (h:mH P ops R ts0 os0 i k):mH P ops (J9 R j r) ts0 os0 i k:=by
 have b:∀i,i≠j->J9 R j r i=R i:=fun i h=>by unfold J9;rw[N1 h]
 obtain⟨d,e,f,o,a,g,l,n,p⟩:=h;refine⟨by rw[b i d9];exact d,by rw[b i d9];exact e,fun m t c=>by rw[b m d9,b i d9];exact f m t c,o,a,g,?_,?_,by rw[b i d9];exact p⟩
 ·rw[jj R j r i d9,b i d9];exact l
 ·rw[ni R j r (k+1) d9];exact n
theorem Lex.step {R:Nat->bO} {k:Nat} {o:Oper} {r:bO} (e:Lex P Γ ops R ts0 os0 k) (f:ops[k]?=some o)
  (hd:Dy P Γ ops o (I8 ops R ts0 (down k)) (S9 R os0 (down k)) r\/Dg ops o (I8 ops R ts0 (down k)) r) (c:gG Γ.n o.dst=true) (s:∀i,i<k->dd ops o i=false->Comm (R i) r/\(Rw (R i) r\/mH P ops (J9 R k r) ts0 os0 i k)):Lex P Γ ops (J9 R k r) ts0 os0 (k+1):=by
 have d:∀i,i≠k->J9 R k r i=R i:=fun i h=>by unfold J9;rw[N1 h]
 have g:J9 R k r k=r:=by unfold J9;rw[N2 rfl]
 refine⟨fun j x l a=>?_,fun j x l a=>?_,fun i j x b l a m=>?_⟩
 ·rw[jj R k r j d9,ni R k r j d9];by_cases h:j=k
  ·subst h;rw[f] at a;cases a;rw[g];exact hd
  ·rw[d j h];exact e.mI j x d9 a
 ·by_cases h:j=k
  ·subst h;rw[f] at a;cases a;exact c
  ·exact e.dst j x d9 a
 ·rw[d i d9];by_cases h:j=k
  ·subst h;rw[f] at a;cases a;rw[g];exact s i b m
  ·rw[d j h];obtain⟨p,q⟩:=e.comm i j x b d9 a m;exact⟨p,q.imp (fun h=>h) fun h=>h.set b d9⟩
def JC {os:Os} (h:os.map (·.1)=[]):os=[]:=by simpa using h
def d31 {R:Nat->bO} {k:Nat} {b:List gM} {o:Oper} {r:bO} (a:lX R k b) (l:vp ops o b (r.need.map (·.1)) r.upd r.av=true):∀i,i<k->dd ops o i=false->Comm (R i) r/\Rw (R i) r:=by
 intro i hi m;rcases a i hi with h|⟨x,n,rfl,f,g,j⟩
 ·exact⟨.b7 h,.b7 h.1⟩
 ·have:=MR.1 l x n;rw[m,Bool.or_false] at this;simp only[IT] at this;obtain⟨⟨⟨c,d⟩,c3⟩,e⟩:=this;rw[g] at c d;rw[f] at c3;rw[j] at e;exact⟨⟨k7 c,k7 d,k7 e⟩,k7 c3⟩
def Bc {R:Nat->bO} {k:Nat} {a:List gM} {r:bO} (b:lX R k a) (n:∀id∈r.news,(lk r.upd id).isSome=true):lX (J9 R k r) (k+1) (iz k (r.need.map (·.1)) r.news r.upd a):=by
 intro i hi;have l:∀i,i≠k->J9 R k r i=R i:=fun i h=>by unfold J9;rw[N1 h]
 have j:J9 R k r k=r:=by unfold J9;rw[N2 rfl]
 have grow:∀x∈a,x∈iz k (r.need.map (·.1)) r.news r.upd a:=fun x c=>by
  unfold iz;split
  ·exact c
  ·exact Mr _ c
 by_cases h:i=k
 ·subst h;rw[j];unfold iz;split
  ·rename_i m g;have f:r.news=[]:=List.eq_nil_iff_forall_not_mem.2 fun id d=>by
    have:=n id d;rw[g] at this;cases this
   exact .inl ⟨JC m,g,f⟩
  ·exact .inr ⟨_,List.mem_cons_self,rfl,rfl,rfl,rfl⟩
 ·rw[l i h];exact(b i d9).imp (fun h=>h) fun⟨x,c,e⟩=>⟨x,grow x c,e⟩
theorem yP (Y:M9 P tab) (V:fw P et):∀(l:List Oper) (k:Nat) (R:Nat->bO) (g:List gM) (K:Ts->Os->Prop),iX P tab et Γ.n ops k l (I8 ops R ts0 (down k)) (S9 R os0 (down k)) g K->Lex P Γ ops R ts0 os0 k->lX R k g->(∀j,l[j]?=ops[k+j]?)->k+l.length=ops.length ->
  (∃a w,E5 Γ (I8 ops R ts0 (down k)) (S9 R os0 (down k)) a w)->∃u,Lex P Γ ops u ts0 os0 ops.length/\K (I8 ops u ts0 (down ops.length)) (S9 u os0 (down ops.length))
 |[],k,R,g,K,h,Q,t,hl,s,hi=>by
  simp at s;subst s;exact⟨R,Q,h⟩
 |o::l,k,R,g,K,h,Q,t,hl,s,hi=>by
  have S:ops[k]?=some o:=by simpa using(hl 0).symm
  have O:∀j,l[j]?=ops[k+1+j]?:=fun j=>by
   have:=hl (j+1);simpa[Mo,Nat.add_comm 1 j] using this
  have B:k+1+l.length=ops.length:=by simp at s;omega
  obtain⟨a,w,E⟩:=hi;have mI:∀(d:Nat) (dst:gG Γ.n o.dst=true) (U:Kt),fT ops o (I8 ops R ts0 (down k)) true->j8 P tab et d o.op (cP (I8 ops R ts0 (down k))) (S9 R os0 (down k)) U ->
    (∀av rd M L,U av rd M L->F5 M (I8 ops R ts0 (down k))=true/\F4 M L (S9 R os0 (down k))=true/\vp ops o g rd L av=true/\iX P tab et Γ.n ops (k+1) l (dI o.dst av (I8 ops R ts0 (down k))) (L++S9 R os0 (down k)) (iz k rd M L g) K) ->
    ∃u,Lex P Γ ops u ts0 os0 ops.length/\K (I8 ops u ts0 (down ops.length)) (S9 u os0 (down ops.length)):=by
   intro d dst U A hst W;obtain⟨c,b⟩:=E;have N:∀x∈o.op.operands.toList,Rd c w (a.eval x) (cP (I8 ops R ts0 (down k)) x):=fun x _=>qB b.rel.ts x;obtain⟨av,need,upd,news,F,e,f,X⟩:=cM Y V d hst ⟨c,w,a.eval,b.rel.aO,N⟩;obtain⟨f1,f2,f3,q⟩:=W _ _ _ _ X;let r:bO:=⟨av,need,upd,news⟩;have H:=Q.step (r:=r) S (.inl ⟨A,F,e,f,f1,f2⟩) dst (fun i hi hw=>(d31 (r:=r) t f3 i hi hw).imp (fun h=>h) .inl);have p:=Bc (r:=r) (R:=R) t f;have G:J9 R k r k=r:=by unfold J9;rw[N2 rfl]
   have z:I8 ops (J9 R k r) ts0 (down (k+1))=dI o.dst av (I8 ops R ts0 (down k)):=by
    simp only[down,I8,jj R k r k (It _),S,G];cases I:o.dst<;>simp[dI,I,r]
   have y:S9 (J9 R k r) os0 (down (k+1))=upd++S9 R os0 (down k):=by
    simp only[down,S9,ni R k r k (It _),G];rfl
   have hgo:=F c w a.eval (b.rel.aO.sub e) N;obtain⟨v,w',c',T,hv⟩:=hgo.inst;obtain⟨g1,g2⟩:=pA f2;have J:E5 Γ (dI o.dst av (I8 ops R ts0 (down k))) (upd++S9 R os0 (down k)) (a.put o.dst v) w':=by
    refine⟨c',⟨by rw[put_defers];exact b.rel.defers,by rw[sW];exact b.rel.n,b.rel.ts.put (b.rel.aO.sub e) T (rO f1) hv (by rw[b.rel.n];exact dst),b.rel.aO.frame e T f g1,b.rel.inv.post b.rel.aO e T f g1⟩,fun id hid=>?_⟩;have hno:id ∉ news:=fun hm=>by have:=g2 id hm;omega
    have h1:=T.ctx id hno;have h2:=b.same id hid;exact⟨h1.1.trans h2.1,h1.2.trans h2.2⟩
   exact yP Y V l (k+1) (J9 R k r) _ K (by rw[z,y];exact q) H p O B ⟨_,_,by rw[z,y];exact J⟩
  have skip:gG Γ.n o.dst=true->fT ops o (I8 ops R ts0 (down k)) false->iX P tab et Γ.n ops (k+1) l (dI o.dst (.aZ []) (I8 ops R ts0 (down k))) (S9 R os0 (down k)) g K ->
    ∃u,Lex P Γ ops u ts0 os0 ops.length/\K (I8 ops u ts0 (down ops.length)) (S9 u os0 (down ops.length)):=by
   intro dst A q;let r:bO:=⟨.aZ [],[],[],[]⟩;have H:=Q.step (r:=r) S (.inr ⟨A,rfl⟩) dst (fun i hi hw=>⟨⟨fun id _ h=>(by cases h),fun id _ h=>(by cases h),fun id _ h=>(by cases h)⟩,.inl fun id h=>(by cases h)⟩);have p:lX (J9 R k r) (k+1) g:=fun i hi=>by
    by_cases h:i=k
    ·subst h;have G:J9 R i r i=r:=by unfold J9;rw[N2 rfl]
     rw[G];exact .inl ⟨rfl,rfl,rfl⟩
    ·have eo:J9 R k r i=R i:=by unfold J9;rw[N1 h]
     rw[eo];exact t i d9
   have G:J9 R k r k=r:=by unfold J9;rw[N2 rfl]
   have z:I8 ops (J9 R k r) ts0 (down (k+1))=dI o.dst (.aZ []) (I8 ops R ts0 (down k)):=by
    simp only[down,I8,jj R k r k (It _),S,G];cases I:o.dst<;>simp[dI,I,r]
   have y:S9 (J9 R k r) os0 (down (k+1))=S9 R os0 (down k):=by
    simp only[down,S9,ni R k r k (It _),G];rfl
   exact yP Y V l (k+1) (J9 R k r) g K (by rw[z,y];exact q) H p O B ⟨_,_,by rw[z,y];exact rK (o:=o) E dst⟩
  unfold iX at h;split at h
  ·rename_i d hd;split at h
   ·rename_i Z;have m:gG Γ.n o.dst=true:=by rw[hd];exact Z
    rcases uJ h with⟨A,h⟩|⟨A,h⟩
    ·refine mI d m _ A h fun av rd M L D=>?_;split at D
     ·rename_i C;simp only[IT] at C;rw[force_eq,ji] at D;exact⟨C.1.1,C.1.2,C.2,by rw[hd];exact D⟩
     ·exact D.elim
    ·exact skip m A (by rw[hd];exact h)
   ·exact h.elim
  ·rename_i hd;have m:gG Γ.n o.dst=true:=by rw[hd];rfl
   rcases uJ h with⟨A,h⟩|⟨A,h⟩
   ·refine mI 0 m _ A h fun av rd M L D=>?_;split at D
    ·rename_i C;simp only[IT] at C;rw[ji] at D;exact⟨C.1.1,C.1.2,C.2,by rw[hd];exact D⟩
    ·exact D.elim
   ·exact skip m A (by rw[hd];exact h)
theorem E5.drew {ts:Ts} {os:Os} {a:Act} {w:World} (h:E5 Γ ts os a w):E5 Γ ts os a { w with drawn:=w.drawn+1 }:=by
 obtain⟨c,⟨e,f,g,d,b⟩,i⟩:=h;refine⟨c,⟨e,f,fun t x hl=>?_,⟨fun id o hl=>?_,d.lt,d.sep,d.aq⟩,⟨b.cX,b.tape,b.output,b.size,b.aq,b.ak,b.ab,b.az⟩⟩,i⟩
 ·obtain⟨v,j,k⟩:=g t x hl;exact⟨v,j,Rd.mono (c:=c) (c':=c) (w:=w) (w':={ w with drawn:=w.drawn+1 }) (fun _ _=>rfl) (fun _ h=>h) (fun _ _=>⟨rfl,rfl⟩) k⟩
 ·exact(d.rep id o hl).ab (c':=c) ⟨rfl,rfl⟩ (fun _ _=>rfl) (fun _ h=>h) (fun _ _=>rfl) fun _ _=>⟨rfl,rfl⟩
theorem j6.draw (s:M9 P tab) (p:fw P et) {n:Nat} (u:Γ.n=n) (t:P.follows .mixedOrders=true) {id:Nat} {l:Array Oper} (hd:ee l.toList=true) {ts:Ts} {os:Os} {Q:Qt} (h:fa ts fun ts=>iX P tab et n l.toList 0 l.toList ts os [] (Q .normal)):j6 P Γ (.region id l true) ts os Q:=by
 subst u;rw[nU] at h;refine⟨fun a w v=>wp_region_any t ?_⟩;have c:=v.drew;obtain⟨R,r,q⟩:=yP (ops:=l.toList) (ts0:=ts) (os0:=os) s p l.toList 0 (fun _=>default) [] _ h ⟨fun k o b=>absurd b d9,fun k o b=>absurd b d9,fun i k o _ b=>absurd b d9⟩ (fun i hi=>absurd hi d9) (fun j=>by rw[Mi]) d9 ⟨_,_,c⟩;have:=Cy (Q:=fun e m w'=>∃ex f d,mJ e ex/\Q ex f d/\E5 Γ f d m w') hd r (fun m w' g=>⟨.normal,_,_,trivial,q,g⟩) l.toList.length (Array.replicate l.size false) [] a _ (xI hd 0 (Nat.zero_le _)) (fun i hi=>by
  have:i<l.size:=by simpa using hi
  simp[this]) l9 l9 c
 simpa using this
structure Sv where
 o:Oper
 ts:Ts
 av:AV
 rd:List Nat
def ve (ops:List Oper) (o:Oper) (k c ms:Nat) (a:List gM) (rd:List Nat) (b:Os) (av:AV):Bool :=
 a.all fun r=>(ju r.writes rd && ju r.writes (keys b) && (ju (keys b) r.need || (AT r.k c && AT k ms)) && ju r.news (av.ids++b.flatMap fun p=>p.2.ids)) || dd ops o r.k
def d22 (ts a:Ts):List Operand->Prop
 |[]=>True
 |x::l=>cP a x=cP ts x/\d22 ts a l
theorem AW {ts a:Ts}:∀{l:List Operand},d22 ts a l->∀x∈l,cP a x=cP ts x
 |[],_,x,h=>(by cases h)
 |y::l,h,x,b=>by
  rcases MG.1 b with rfl|b
  ·exact h.1
  ·exact AW h.2 x b
def Lh (b:Nat) (rd:List Nat) (a:List gM):Bool:=a.all fun r=>!(MX b r.k) || ju r.writes rd
def vn (P:Program) (tab:R9) (et:eK) (k b ms:Nat) (d:Option Sv) (a:List gM) (ts:Ts) (os:Os) (K:Prop):Prop :=
 match AT k ms with
 |true=>match d with
  |some s=>(Lh b s.rd a=true/\d22 s.ts ts s.o.op.operands.toList/\j8 P tab et 0 s.o.op (cP s.ts) os fun av rd c e=>av=s.av/\c=[]/\e=[]/\(rd.all fun x=>s.rd.elem x)=true)/\K
  |none=>False
 |false=>K
def qQ (k b:Nat) (o:Oper) (ts:Ts) (av:AV) (rd c:List Nat) (d:Os) (a:Option Sv):Option Sv :=
 match AT k b with
 |true=>match c,d with
  |[],[]=>some ⟨o,ts,av,rd⟩
  |_,_=>a
 |false=>a
def iY (P:Program) (tab:R9) (et:eK) (n:Nat) (ops:List Oper) (b ms:Nat):Nat->List Oper->Ts->Os->List gM->Option Sv->(Ts->Os->Prop)->Prop
 |_,[],ts,os,_,_,K=>K ts os
 |k,o::rest,ts,os,log,sv,K=>match o.dst with
  |some d=>match MX d n with
   |true=>jk ops o ts
    (j8 P tab et d o.op (cP ts) os fun av rd c a=>match F5 c ts && F4 c a os && ve ops o k b ms log rd a av with
     |true=>force av fun av=>iS a os fun os=>vn P tab et k b ms sv log ((d,av)::ts) os (iY P tab et n ops b ms (k+1) rest ((d,av)::ts) os (iz k rd c a log) (qQ k b o ts av rd c a sv) K)
     |false=>False)
    (iY P tab et n ops b ms (k+1) rest ((d,.aZ [])::ts) os log sv K)
   |false=>False
  |none=>jk ops o ts
   (j8 P tab et 0 o.op (cP ts) os fun av rd c a=>match F5 c ts && F4 c a os && ve ops o k b ms log rd a av with
    |true=>iS a os fun os=>vn P tab et k b ms sv log ts os (iY P tab et n ops b ms (k+1) rest ts os (iz k rd c a log) (qQ k b o ts av rd c a sv) K)
    |false=>False)
   (iY P tab et n ops b ms (k+1) rest ts os log sv K)
section
variable {P:Program} {tab:R9} {et:eK} {Γ:Z7} {ops:List Oper} {ts0:Ts} {os0:Os}
def mG (ops:List Oper) (R:Nat->bO) (ts0:Ts) (a k:Nat) (b:Option Sv):Prop:=∀s,b=some s->a<k/\ops[a]?=some s.o/\s.ts=I8 ops R ts0 (down a)/\(R a).av=s.av/\keys (R a).need=s.rd/\(R a).upd=[]/\(R a).news=[]
theorem mG.step {R:Nat->bO} {a k:Nat} {b:Option Sv} {r:bO} (h:mG ops R ts0 a k b):mG ops (J9 R k r) ts0 a (k+1) b:=fun s g=>by
 obtain⟨i,c,d,f⟩:=h s g;have e:J9 R k r a=R a:=by unfold J9;rw[N1 d9]
 exact⟨d9,c,by rw[jj R k r a d9];exact d,by rw[e];exact f⟩
theorem mG.save {R:Nat->bO} {a k:Nat} {b:Option Sv} {o:Oper} {r:bO} (h:mG ops R ts0 a k b) (g:ops[k]?=some o):mG ops (J9 R k r) ts0 a (k+1) (qQ k a o (I8 ops R ts0 (down k)) r.av (r.need.map (·.1)) r.news r.upd b):=by
 unfold qQ;split
 ·rename_i f;have:=MN f;subst this;split
  ·rename_i c d;intro s i;cases i;have e:J9 R k r k=r:=by unfold J9;rw[N2 rfl]
   exact⟨d9,g,(jj R k r k (It _)).symm,by rw[e],by rw[e];rfl,by rw[e];exact d,by rw[e];exact c⟩
  ·exact h.step
 ·exact h.step
def d26 {R:Nat->bO} {k f ms:Nat} {b:List gM} {o:Oper} {r:bO} (a:lX R k b) (m:ve ops o k f ms b (r.need.map (·.1)) r.upd r.av=true):∀i,i<k->dd ops o i=false->Comm (R i) r/\(Rw (R i) r\/(i=f/\k=ms)):=by
 intro i hi n;rcases a i hi with h|⟨x,p,rfl,g,j,l⟩
 ·exact⟨.b7 h,.inl (.b7 h.1)⟩
 ·have:=MR.1 m x p;rw[n,Bool.or_false] at this;simp only[IT,Bool.or_eq_true] at this;obtain⟨⟨⟨c,d⟩,c3⟩,e⟩:=this;rw[j] at c d;rw[g] at c3;rw[l] at e;refine⟨⟨k7 c,k7 d,k7 e⟩,c3.imp (fun h=>k7 h) fun h=>⟨MN h.1,MN h.2⟩⟩
theorem wx (hT:M9 P tab) (hE:fw P et) (y ms:Nat):∀(l:List Oper) (k:Nat) (R:Nat->bO) (m:List gM) (M:Option Sv) (K:Ts->Os->Prop),mG ops R ts0 y k M->iY P tab et Γ.n ops y ms k l (I8 ops R ts0 (down k)) (S9 R os0 (down k)) m M K->Lex P Γ ops R ts0 os0 k->lX R k m->(∀j,l[j]?=ops[k+j]?)->k+l.length=ops.length ->
  (∃a w,E5 Γ (I8 ops R ts0 (down k)) (S9 R os0 (down k)) a w)->∃C,Lex P Γ ops C ts0 os0 ops.length/\K (I8 ops C ts0 (down ops.length)) (S9 C os0 (down ops.length))
 |[],k,R,m,M,K,L,h,hL,u,hl,A,hi=>by
  simp at A;subst A;exact⟨R,hL,h⟩
 |o::l,k,R,m,M,K,L,h,hL,u,hl,A,hi=>by
  have ho:ops[k]?=some o:=by simpa using(hl 0).symm
  have hl':∀j,l[j]?=ops[k+1+j]?:=fun j=>by
   have:=hl (j+1);simpa[Mo,Nat.add_comm 1 j] using this
  have H:k+1+l.length=ops.length:=by simp at A;omega
  obtain⟨a,w,Q⟩:=hi;have mI:∀(d:Nat) (dst:gG Γ.n o.dst=true) (K0:Kt),fT ops o (I8 ops R ts0 (down k)) true->j8 P tab et d o.op (cP (I8 ops R ts0 (down k))) (S9 R os0 (down k)) K0 ->
    (∀av rd Y N,K0 av rd Y N->F5 Y (I8 ops R ts0 (down k))=true/\F4 Y N (S9 R os0 (down k))=true/\ve ops o k y ms m rd N av=true/\vn P tab et k y ms M m (dI o.dst av (I8 ops R ts0 (down k))) (N++S9 R os0 (down k)) (iY P tab et Γ.n ops y ms (k+1) l (dI o.dst av (I8 ops R ts0 (down k))) (N++S9 R os0 (down k)) (iz k rd Y N m) (qQ k y o (I8 ops R ts0 (down k)) av rd Y N M) K)) ->
    ∃C,Lex P Γ ops C ts0 os0 ops.length/\K (I8 ops C ts0 (down ops.length)) (S9 C os0 (down ops.length)):=by
   intro d dst K0 G hst hK0;obtain⟨c,f⟩:=Q;have Z:∀x∈o.op.operands.toList,Rd c w (a.eval x) (cP (I8 ops R ts0 (down k)) x):=fun x _=>qB f.rel.ts x;obtain⟨av,need,upd,news,T,g,p,hKK⟩:=cM hT hE d hst ⟨c,w,a.eval,f.rel.aO,Z⟩;obtain⟨f1,f2,f3,b⟩:=hK0 _ _ _ _ hKK;let r:bO:=⟨av,need,upd,news⟩;have z:=Bc (r:=r) (R:=R) u p;have U:J9 R k r k=r:=by unfold J9;rw[N2 rfl]
   have E:I8 ops (J9 R k r) ts0 (down (k+1))=dI o.dst av (I8 ops R ts0 (down k)):=by
    simp only[down,I8,jj R k r k (It _),ho,U];cases W:o.dst<;>simp[dI,W,r]
   have B:S9 (J9 R k r) os0 (down (k+1))=upd++S9 R os0 (down k):=by
    simp only[down,S9,ni R k r k (It _),U];rfl
   have hgo:=T c w a.eval (f.rel.aO.sub g) Z;obtain⟨v,w',c',hp,hv⟩:=hgo.inst;obtain⟨g1,g2⟩:=pA f2;have I:E5 Γ (dI o.dst av (I8 ops R ts0 (down k))) (upd++S9 R os0 (down k)) (a.put o.dst v) w':=by
    refine⟨c',⟨by rw[put_defers];exact f.rel.defers,by rw[sW];exact f.rel.n,f.rel.ts.put (f.rel.aO.sub g) hp (rO f1) hv (by rw[f.rel.n];exact dst),f.rel.aO.frame g hp p g1,f.rel.inv.post f.rel.aO g hp p g1⟩,fun id t=>?_⟩;have hno:id ∉ news:=fun hm=>by have:=g2 id hm;omega
    have h1:=hp.ctx id hno;have h2:=f.same id t;exact⟨h1.1.trans h2.1,h1.2.trans h2.2⟩
   have S:(k=ms->mH P ops (J9 R k r) ts0 os0 y k)/\iY P tab et Γ.n ops y ms (k+1) l (dI o.dst av (I8 ops R ts0 (down k))) (upd++S9 R os0 (down k)) (iz k (need.map (·.1)) news upd m) (qQ k y o (I8 ops R ts0 (down k)) av (need.map (·.1)) news upd M) K:=by
    unfold vn at b;split at b
    ·rename_i hkm;split at b
     ·rename_i s;obtain⟨⟨q1,q2,q3⟩,q4⟩:=b;refine⟨fun _=>?_,q4⟩;obtain⟨s1,s2,s3,s4,s5,s6,s7⟩:=L s rfl;have D:J9 R k r y=R y:=by unfold J9;rw[N1 d9]
      obtain⟨c2,O⟩:=I;have hev2:∀x∈s.o.op.operands.toList,Rd c2 w' ((a.put o.dst v).eval x) (cP s.ts x):=fun x hx=>by
       rw[<-AW q2 x hx];exact qB O.rel.ts x
      obtain⟨av2,X,upd2,news2,t1,t2,t3,t4,t5,t6,t7⟩:=cM hT hE 0 q3 ⟨c2,w',(a.put o.dst v).eval,O.rel.aO,hev2⟩;subst t4;rw[t5,t6] at t1;refine⟨by rw[D];exact s6,by rw[D];exact s7,fun j hj hjk id t=>?_,s.o,X,s2,?_,?_,fun id t=>?_⟩
      ·have ej:J9 R k r j=R j:=by unfold J9;rw[N1 d9]
       rw[ej] at t;rw[D,s5];rcases u j hjk with h|⟨x,hx,rfl,_,h3,_⟩
       ·rw[h.2.1] at t;cases t
       ·have:=MR.1 q1 x hx;have F:MX y x.k=true:=Nat.ble_eq_true_of_le hj;rw[F,MH,Bool.false_or] at this;rw[h3] at this;exact k7 this id t
      ·rw[jj R k r y d9,D,<-s3,s4];exact t1
      ·rw[B];exact t2
      ·rw[D,s5];have:=MR.1 t7 id t;simpa using this
     ·exact b.elim
    ·rename_i hkm;exact⟨fun e=>by subst e;simp at hkm,b⟩
   have V:=hL.step (r:=r) ho (.inl ⟨G,T,g,p,f1,f2⟩) dst (fun i hi hw=>(d26 (r:=r) u f3 i hi hw).imp (fun h=>h) fun h=>h.imp (fun h=>h) fun⟨e1,e2⟩=>by subst e1;exact S.1 e2);exact wx hT hE y ms l (k+1) (J9 R k r) _ _ K (mG.save (r:=r) L ho) (by rw[E,B];exact S.2) V z hl' H ⟨_,_,by rw[E,B];exact I⟩
  have skip:gG Γ.n o.dst=true->fT ops o (I8 ops R ts0 (down k)) false->iY P tab et Γ.n ops y ms (k+1) l (dI o.dst (.aZ []) (I8 ops R ts0 (down k))) (S9 R os0 (down k)) m M K ->
    ∃C,Lex P Γ ops C ts0 os0 ops.length/\K (I8 ops C ts0 (down ops.length)) (S9 C os0 (down ops.length)):=by
   intro dst G b;let r:bO:=⟨.aZ [],[],[],[]⟩;have V:=hL.step (r:=r) ho (.inr ⟨G,rfl⟩) dst (fun i hi hw=>⟨⟨fun id _ h=>(by cases h),fun id _ h=>(by cases h),fun id _ h=>(by cases h)⟩,.inl fun id h=>(by cases h)⟩);have z:lX (J9 R k r) (k+1) m:=fun i hi=>by
    by_cases h:i=k
    ·subst h;have U:J9 R i r i=r:=by unfold J9;rw[N2 rfl]
     rw[U];exact .inl ⟨rfl,rfl,rfl⟩
    ·have eo:J9 R k r i=R i:=by unfold J9;rw[N1 h]
     rw[eo];exact u i d9
   have U:J9 R k r k=r:=by unfold J9;rw[N2 rfl]
   have E:I8 ops (J9 R k r) ts0 (down (k+1))=dI o.dst (.aZ []) (I8 ops R ts0 (down k)):=by
    simp only[down,I8,jj R k r k (It _),ho,U];cases W:o.dst<;>simp[dI,W,r]
   have B:S9 (J9 R k r) os0 (down (k+1))=S9 R os0 (down k):=by
    simp only[down,S9,ni R k r k (It _),U];rfl
   exact wx hT hE y ms l (k+1) (J9 R k r) m M K L.step (by rw[E,B];exact b) V z hl' H ⟨_,_,by rw[E,B];exact rK (o:=o) Q dst⟩
  unfold iY at h;split at h
  ·rename_i d hd;split at h
   ·rename_i hdl;have q:gG Γ.n o.dst=true:=by rw[hd];exact hdl
    rcases uJ h with⟨G,h⟩|⟨G,h⟩
    ·refine mI d q _ G h fun av rd Y N J=>?_;split at J
     ·rename_i F;simp only[IT] at F;rw[force_eq,ji] at J;exact⟨F.1.1,F.1.2,F.2,by rw[hd];exact J⟩
     ·exact J.elim
    ·exact skip q G (by rw[hd];exact h)
   ·exact h.elim
  ·rename_i hd;have q:gG Γ.n o.dst=true:=by rw[hd];rfl
   rcases uJ h with⟨G,h⟩|⟨G,h⟩
   ·refine mI 0 q _ G h fun av rd Y N J=>?_;split at J
    ·rename_i F;simp only[IT] at F;rw[ji] at J;exact⟨F.1.1,F.1.2,F.2,by rw[hd];exact J⟩
    ·exact J.elim
   ·exact skip q G (by rw[hd];exact h)
theorem j6.tU (u:M9 P tab) (q:fw P et) {n:Nat} (x:Γ.n=n) (v:P.follows .mixedOrders=true) {id:Nat} {l:Array Oper} (hd:ee l.toList=true) {ts:Ts} {os:Os} {Q:Qt} (p ms:Nat) (h:fa ts fun ts=>iY P tab et n l.toList p ms 0 l.toList ts os [] none (Q .normal)):j6 P Γ (.region id l true) ts os Q:=by
 subst x;rw[nU] at h;refine⟨fun a w y=>wp_region_any v ?_⟩;have c:=y.drew;obtain⟨R,t,r⟩:=wx (ops:=l.toList) (ts0:=ts) (os0:=os) u q p ms l.toList 0 (fun _=>default) [] none _ (fun s z=>by cases z) h ⟨fun k o b=>absurd b d9,fun k o b=>absurd b d9,fun i k o _ b=>absurd b d9⟩ (fun i hi=>absurd hi d9) (fun j=>by rw[Mi]) d9 ⟨_,_,c⟩;have:=Cy (Q:=fun e m w'=>∃ex f d,mJ e ex/\Q ex f d/\E5 Γ f d m w') hd t (fun m w' g=>⟨.normal,_,_,trivial,r,g⟩) l.toList.length (Array.replicate l.size false) [] a _ (xI hd 0 (Nat.zero_le _)) (fun i hi=>by
  have:i<l.size:=by simpa using hi
  simp[this]) l9 l9 c
 simpa using this
end
end
section
variable {P:Program} {tab:R9} {et:eK} {Γ:Z7}
structure cY (P:Program) (Γ:Z7) (ops l:List Oper) (ts:Ts) (os:Os) (Q:Qt):Prop where
 run:∀a w,E5 Γ ts os a w->wpList P ops.toArray (fun e a' w'=>∃ex ts' os',mJ e ex/\Q ex ts' os'/\E5 Γ ts' os' a' w') l a w
theorem j6.ops {id:Nat} {l:Array Oper} {ts:Ts} {os:Os} {Q:Qt} (h:cY P Γ l.toList l.toList ts os Q):j6 P Γ (.region id l false) ts os Q :=
 ⟨fun a w b=>wp_region_list (by simpa using h.run a w b)⟩
theorem cY.chunk (e:M9 P tab) (d:fw P et) {n:Nat} (g:Γ.n=n) (k:Nat) {ops l:List Oper} {ts:Ts} {os:Os} {Q:Qt}
  (h:fa ts fun ts=>jt P tab et n ops (l.take k) ts os fun ts os=>cY P Γ ops (l.drop k) ts os Q):cY P Γ ops l ts os Q:=by
 subst g;refine⟨fun a w i=>?_⟩;have:=pY e d (l2:=l.drop k) (l.take k) ts os _ a w ((nU ts _).1 h) i fun m j c w' f b=>f.run c w' b
 rwa [List.take_append_drop] at this
theorem cY.done {ops:List Oper} {ts:Ts} {os:Os} {Q:Qt} (h:Q .normal ts os):cY P Γ ops [] ts os Q:=⟨fun a w b=>⟨.normal,ts,os,trivial,h,b⟩⟩
theorem j6.seq {x y:Code} {ts:Ts} {os:Os} {Q:Qt} (h:j6 P Γ x ts os fun e c b=>match e with
  |.normal=>j6 P Γ y c b Q
  |.exit id=>Q (.exit id) c b
  |.ret=>Q .ret c b):j6 P Γ (.seq x y) ts os Q:=by
 refine⟨fun a w j=>wp_seq (wp_mono (h.run a w j) fun e i w' ⟨ex,c,b,d,f,g⟩=>?_)⟩;cases e<;>cases ex<;>simp only[mJ] at d<;>first|exact d.elim|skip
 ·exact f.run i w' g
 ·subst d;exact⟨.exit _,c,b,rfl,f,g⟩
 ·exact⟨.ret,c,b,trivial,f,g⟩
theorem j6.cut {ι:Type} (St:ι->Ts) (g:ι->Os) {x y:Code} {ts:Ts} {os:Os} {Q:Qt} (h:j6 P Γ x ts os fun e c b=>match e with
  |.normal=>∃i f,dT c b (St i) (g i) f
  |.exit id=>Q (.exit id) c b
  |.ret=>Q .ret c b) (m:∀i,((St i).all fun p=>MX p.1 Γ.n)=true) (k:∀i,j6 P Γ y (St i) (g i) Q):j6 P Γ (.seq x y) ts os Q:=by
 refine j6.seq ⟨fun a w o=>wp_mono (h.run a w o) fun e r w' ⟨ex,c,b,j,d,l⟩=>⟨ex,c,b,j,?_,l⟩⟩;cases ex with
 |normal =>
  obtain⟨i,f,q⟩:=d;exact j6.sub f q (m i) (k i)
 |exit id=>exact d
 |ret=>exact d
def Gh (Γ:Z7) (ts:Ts) (os:Os) {ι:Type} (T:ι->Ts) (O:ι->Os):Prop:=∀a w,E5 Γ ts os a w->∃x,E5 Γ (T x) (O x) a w
theorem j6.gh {ι:Type} {c:Code} {ts:Ts} {os:Os} {T:ι->Ts} {O:ι->Os} {Q:Qt} (g:Gh Γ ts os T O) (h:∀x,j6 P Γ c (T x) (O x) Q):j6 P Γ c ts os Q :=
 ⟨fun a w b=>let ⟨x,d⟩:=g a w b;(h x).run a w d⟩
theorem cY.gh {ι:Type} {ops l:List Oper} {ts:Ts} {os:Os} {T:ι->Ts} {O:ι->Os} {Q:Qt} (g:Gh Γ ts os T O) (h:∀x,cY P Γ ops l (T x) (O x) Q):cY P Γ ops l ts os Q :=
 ⟨fun a w b=>let ⟨x,c⟩:=g a w b;(h x).run a w c⟩
structure X6 (Γ:Z7) (ts:Ts) (os:Os) (Q:Qt):Prop where
 run:∀a w,E5 Γ ts os a w->∃ts' os',Q .normal ts' os'/\E5 Γ ts' os' a w
theorem X6.done {ts:Ts} {os:Os} {Q:Qt} (h:Q .normal ts os):X6 Γ ts os Q:=⟨fun a w b=>⟨ts,os,h,b⟩⟩
theorem X6.gh {ι:Type} {ts:Ts} {os:Os} {T:ι->Ts} {O:ι->Os} {Q:Qt} (g:Gh Γ ts os T O) (h:∀x,X6 Γ (T x) (O x) Q):X6 Γ ts os Q :=
 ⟨fun a w b=>let ⟨x,c⟩:=g a w b;(h x).run a w c⟩
theorem j6.snoc {c:Code} {ts:Ts} {os:Os} {Q:Qt} (h:j6 P Γ c ts os fun e d b=>match e with
  |.normal=>X6 Γ d b Q
  |.exit id=>Q (.exit id) d b
  |.ret=>Q .ret d b):j6 P Γ c ts os Q:=by
 refine⟨fun a w m=>wp_mono (h.run a w m) fun e l w' ⟨ex,d,b,f,g,i⟩=>?_⟩;cases e<;>cases ex<;>simp only[mJ] at f<;>first|exact f.elim|skip
 ·obtain⟨k,j,n,o⟩:=g.run l w' i;exact⟨.normal,k,j,trivial,n,o⟩
 ·subst f;exact⟨.exit _,d,b,rfl,g,i⟩
 ·exact⟨.ret,d,b,trivial,g,i⟩
theorem Gh.of {ι:Type} {ts:Ts} {os need:Os} {ex:ι->Ts} {upd:ι->Os} {news:List Nat} (d:jh need os) (p:F5 news ts=true) (q:∀x,F4 news (upd x) os=true) (e:∀x,(news.all fun i=>(lk (upd x) i).isSome)=true)
  (G:∀c w,Q5 c w need->(∃a,gL c w ts a)->∃x c',aS c w c' w need (upd x) news/\∀t y,lk (ex x) t=some y->∃z,lk ts t=some z/\∀v,Rd c w v z->Rd c' w v y):Gh Γ ts os (fun x=>ex x++ts) (fun x=>upd x++os):=by
 rintro a w ⟨c,⟨B,C,m,k,D⟩,E⟩;have l:=sG d;obtain⟨x,c',b,o⟩:=G c w (k.sub l) ⟨a,m⟩;have j:∀id∈news,(lk (upd x) id).isSome=true:=fun id h=>by simpa using MR.1 (e x) id h
 obtain⟨g1,A⟩:=pA (q x);refine⟨x,c',⟨B,C,fun t y hl=>?_,k.frame l b j g1,D.post k l b j g1⟩,fun id r=>?_⟩
 ·rw[J7] at hl;cases n:lk (ex x) t with
  |some I =>
   rw[n] at hl;simp at hl;subst hl;obtain⟨z,H,u⟩:=o t I n;obtain⟨v,f,g⟩:=m t z H;exact⟨v,f,u v g⟩
  |none =>
   rw[n] at hl;simp at hl;obtain⟨v,f,g⟩:=m t y hl;exact⟨v,f,g.post b (k.sub l) (rO p t y hl)⟩
 ·have s:id ∉ news:=fun F=>by have:=A id F;omega
  have f:=b.ctx id s;have g:=E id r;exact⟨f.1.trans g.1,f.2.trans g.2⟩
theorem aS.same {c c':Ctx} {w:World} {need upd:Os} {news:List Nat} (h:Q5 c w need) (a:c'.Φ=c.Φ) (e:∀id,id ∉ news->c'.μ id=c.μ id/\c'.hd id=c.hd id) (rep:∀id o,lk upd id=some o->dH c' w id o)
  (az:∀id o b,lk upd id=some o->aW c' id o b->Touch c need upd b) (sep:∀id d o g b,id≠d->lk upd id=some o->lk upd d=some g->aW c' id o b->¬aW c' d g b):aS c w c' w need upd news:=by
 refine⟨rfl,rfl,rfl,It _,fun b f=>by rw[a];exact f,fun b f=>.inl (by rw[a] at f;exact f),fun _ _ _=>rfl,e,⟨rep,fun id o b hl j=>?_,sep,by rw[a];exact h.aq⟩,fun id o b hl j=>.inr (az id o b hl j)⟩;obtain⟨i,g,k,_,l⟩:=az id o b hl j;rw[a];exact h.lt i g b k l
def eS {b:Type} {a i:Nat} {x o:b} (h:lk [(a,x)] i=some o):i=a/\o=x:=by
 rw[l8] at h;split at h
 ·rename_i e;cases h;exact⟨e.symm,rfl⟩
 ·cases h
def cg {c:Type} {a b i:Nat} {x y o:c} (h:lk [(a,x),(b,y)] i=some o):(i=a/\o=x)\/(i≠a/\i=b/\o=y):=by
 rw[l8] at h;split at h
 ·rename_i e;cases h;exact .inl ⟨e.symm,rfl⟩
 ·rename_i e;exact .inr ⟨fun h=>e h.symm,eS h⟩
def bP {j:Type} {a b c i:Nat} {x y z o:j} (h:lk [(a,x),(b,y),(c,z)] i=some o):(i=a/\o=x)\/(i≠a/\i=b/\o=y)\/(i≠a/\i≠b/\i=c/\o=z):=by
 rw[l8] at h;split at h
 ·rename_i e;cases h;exact .inl ⟨e.symm,rfl⟩
 ·rename_i e;rcases cg h with h|⟨d,f,g⟩
  ·exact .inr (.inl ⟨fun h=>e h.symm,h⟩)
  ·exact .inr (.inr ⟨fun h=>e h.symm,d,f,g⟩)
def H7 {i j:Nat} (h:AT i j=false):i≠j:=fun e=>by rw[e] at h;simp at h
theorem O7.zH {Φ:Nat->Prop} {w:World} {v:Value} {sz e:Nat} {ls:List (List AV)} (h:O7 Φ w v sz ls e):∃h:Hd,v=h.v/\h.n=ls.length/\h.n<=h.c/\h.c<=maxLen:=by
 obtain⟨css,d,f,g⟩:=h;obtain⟨A,cap,e1,a,b⟩:=d.head;exact⟨⟨A,css.length,cap⟩,e1,f,a,b⟩
theorem da.cons {Φ:Nat->Prop} {w:World} {sz e:Nat} {p:Hd×List (List AV)} {l:List (Hd×List (List AV))}:da Φ w sz (p::l) e↔O7 Φ w p.1.v sz p.2 e/\da Φ w sz l e/\∀q∈l,∀b,p.1.v.ownBlock=some b->q.1.v.ownBlock=some b->False:=by
 constructor
 ·rintro⟨c,d⟩;obtain⟨f,g⟩:=List.pairwise_cons.1 d;exact⟨c p l9,⟨fun q a=>c q (by simp[a]),g⟩,f⟩
 ·rintro⟨c,d,f⟩;exact⟨fun q a=>by rcases MG.1 a with rfl|a;exact c;exact d.1 q a,List.pairwise_cons.2 ⟨f,d.2⟩⟩
theorem da.perm {Φ:Nat->Prop} {w:World} {sz e:Nat} {l l':List (Hd×List (List AV))} (h:da Φ w sz l e) (a:l.Perm l'):da Φ w sz l' e :=
 ⟨fun p f=>h.1 p (a.mem_iff.2 f),(a.pairwise_iff fun h b c d=>h b d c).1 h.2⟩
theorem Gh.mP {ts:Ts} {os:Os} (k sz e:Nat) (a:F5 [k] ts=true) (d:F4 [k] [(k,.pins sz [] e)] os=true):Gh Γ ts os (fun _:Unit=>ts) (fun _=>(k,.pins sz [] e)::os) :=
 Gh.of (need:=[]) (upd:=fun _=>[(k,.pins sz [] e)]) (ex:=fun _=>[]) (news:=[k]) trivial a (fun _=>d) (fun _=>by simp[j5]) fun c w aO _=>⟨(),c,aS.same aO rfl (fun _ _=>⟨rfl,rfl⟩)
  (fun id o h=>by obtain⟨rfl,rfl⟩:=eS h;exact⟨fun _ h=>(by cases h),.nil⟩) (fun id o b h j=>by obtain⟨rfl,rfl⟩:=eS h;obtain⟨p,h,_⟩:=j;cases h)
  (fun id l o m b f g i=>by obtain⟨rfl,rfl⟩:=eS g;obtain⟨rfl,rfl⟩:=eS i;exact absurd rfl f),fun t y h=>by cases h⟩
theorem Gh.tq {ts:Ts} {os:Os} (f off j k:Nat) {sz e s:Nat} {t:List AV} {ls:List (List AV)} {l:List (Hd×List (List AV))} (x:lk os f=some (.box t s)) (ad:t[off]?=some (.aK j)) (M:lk os j=some (.row sz ls e)) (N:lk os k=some (.pins sz l e))
  (m:AT j k=false) (d:AT f j=false) (g:AT f k=false) :
  Gh Γ ts os (fun h:Hd=>ts) (fun h=>(f,.box (t.set off (.aU h.v)) s)::(k,.pins sz (l++[(h,ls)]) e)::(j,.aF)::os):=by
 have m:=H7 m;have d:=H7 d;have g:=H7 g;refine Gh.of (need:=[(j,.row sz ls e),(k,.pins sz l e),(f,.box t s)]) (upd:=fun h=>[(f,.box (t.set off (.aU h.v)) s),(k,.pins sz (l++[(h,ls)]) e),(j,.aF)]) (ex:=fun h=>[]) (news:=[]) ⟨M,N,x,trivial⟩ rfl (fun _=>rfl) (fun _=>rfl) fun c w aO _=>?_;have E:lk [(j,Obj.row sz ls e),(k,.pins sz l e),(f,.box t s)] j=some (.row sz ls e):=j5 _ _ _;have u:lk [(j,Obj.row sz ls e),(k,.pins sz l e),(f,.box t s)] k=some (.pins sz l e):=by rw[E8 _ _ m,j5]
 have D:lk [(j,Obj.row sz ls e),(k,.pins sz l e),(f,.box t s)] f=some (.box t s):=by rw[E8 _ _ (Ne.symm d),E8 _ _ (Ne.symm g),j5]
 have G:O7 c.Φ w (c.hd j) sz ls e:=aO.rep j _ E;have rk:da c.Φ w sz l e:=aO.rep k _ u;obtain⟨us,T,H⟩:=aO.rep f _ D;obtain⟨h,e1,-⟩:=G.zH;refine⟨h,c,aS.same aO rfl (fun _ _=>⟨rfl,rfl⟩) (fun id o hl=>?_) (fun id o b hl z=>?_) (fun id S o W b C hl F z B=>?_),fun X y Q=>(by cases Q)⟩
 ·rcases bP hl with⟨rfl,rfl⟩|⟨_,rfl,rfl⟩|⟨_,_,rfl,rfl⟩
  ·refine⟨us,T,?_⟩;obtain⟨v,U,V⟩:=H.get ad;obtain⟨A,n,cap,s,I,-⟩:=V.bF;have:=H.set off (v:=v) (a:=.aU h.v) (by rw[s,<-I,e1];exact .fz (.aU _))
   rwa [show us.set off v=us by
    apply Mn;intro i;rw[MY];split
    ·rename_i J;subst J;split
     ·exact U.symm
     ·rw[Md d9]
    ·rfl] at this
  ·refine da.perm (l:=(h,ls)::l) (da.cons.2 ⟨e1▸G,rk,fun q O b K L=>?_⟩) (List.perm_append_comm (l₁:=[(h,ls)]));exact aO.sep j id _ _ b m E u (show(c.hd j).ownBlock=some b by rw[e1];exact K) ⟨q,O,L⟩
  ·trivial
 ·rcases bP hl with⟨rfl,rfl⟩|⟨_,rfl,rfl⟩|⟨_,_,rfl,rfl⟩
  ·exact⟨id,_,D,by rw[j5];rfl,z⟩
  ·obtain⟨p,r,x⟩:=z;rcases MT.1 r with r|r
   ·exact⟨id,_,u,by rw[hl];rfl,⟨p,r,x⟩⟩
   ·obtain rfl:=Mh.1 r;exact⟨j,_,E,by rw[E8 _ _ d,E8 _ _ (Ne.symm m),j5];rfl,by show(c.hd j).ownBlock=_;rw[e1];exact x⟩
  ·exact z.elim
 · -- pins and the box
  have apart:∀b,(∃p∈l++[(h,ls)],p.1.v.ownBlock=some b)->b≠c.μ f:=by
   rintro b ⟨p,r,x⟩ rfl;rcases MT.1 r with r|r
   ·exact aO.sep k f _ _ _ (Ne.symm g) u D ⟨p,r,x⟩ rfl
   ·obtain rfl:=Mh.1 r;exact aO.sep j f _ _ _ (Ne.symm d) E D (show(c.hd j).ownBlock=_ by rw[e1];exact x) rfl
  rcases bP hl with⟨rfl,rfl⟩|⟨_,rfl,rfl⟩|⟨_,_,rfl,rfl⟩<;>rcases bP F with⟨rfl,rfl⟩|⟨_,rfl,rfl⟩|⟨_,_,rfl,rfl⟩<;>first|exact C rfl|exact z.elim|exact B.elim|exact apart b z B|exact apart b B z
theorem Gh.mR {ts:Ts} {os:Os} (k j j':Nat) {sz e:Nat} {h:Hd} {ls:List (List AV)} {l l':List (Hd×List (List AV))} (A:lk os k=some (.pins sz l e)) (a:l.Perm ((h,ls)::l'))
  (g:AT j j'=false) (i:AT j k=false) (m:AT j' k=false) (r:F5 [j,j'] ts=true) (s:F4 [j,j'] [(j,.row sz ls e),(j',.eqv j h.v),(k,.pins sz l' e)] os=true) :
  Gh Γ ts os (fun _:Unit=>ts) (fun _=>(j,.row sz ls e)::(j',.eqv j h.v)::(k,.pins sz l' e)::os):=by
 have g:=H7 g;have i:=H7 i;have m:=H7 m;refine Gh.of (need:=[(k,.pins sz l e)]) (upd:=fun _=>[(j,.row sz ls e),(j',.eqv j h.v),(k,.pins sz l' e)]) (ex:=fun _=>[]) (news:=[j,j']) ⟨A,trivial⟩ r (fun _=>s) (fun _=>by simp[l8,g]) fun c w aO _=>?_;have rk:da c.Φ w sz l e:=aO.rep k _ (j5 _ _ _);obtain⟨D,E,F⟩:=da.cons.1 (rk.perm a);have e1:(c.aN j h.v).hd j=h.v:=by simp[Ctx.aN]
 have tk:∀b,(∃p∈l,p.1.v.ownBlock=some b)->Touch c [(k,.pins sz l e)] [(j,.row sz ls e),(j',.eqv j h.v),(k,.pins sz l' e)] b:=fun b n=>⟨k,_,j5 _ _ _,by rw[E8 _ _ i,E8 _ _ m,j5];rfl,n⟩;refine⟨(),c.aN j h.v,aS.same aO rfl (fun id t=>⟨rfl,by simp[Ctx.aN,show id≠j by rintro rfl;simp at t]⟩) (fun id o hl=>?_) (fun id o b hl d=>?_) (fun id C o G b q hl u d f=>?_),fun H y B=>(by cases B)⟩
 ·rcases bP hl with⟨rfl,rfl⟩|⟨_,rfl,rfl⟩|⟨_,_,rfl,rfl⟩
  ·show O7 _ w ((c.aN id h.v).hd id) sz ls e;rw[e1];exact D
  ·exact e1
  ·exact E
 ·rcases bP hl with⟨rfl,rfl⟩|⟨_,rfl,rfl⟩|⟨_,_,rfl,rfl⟩
  ·exact tk b ⟨(h,ls),a.mem_iff.2 l9,by have:((c.aN id h.v).hd id).ownBlock=some b:=d;rwa [e1] at this⟩
  ·exact d.elim
  ·obtain⟨p,x,n⟩:=d;exact tk b ⟨p,a.mem_iff.2 (by simp[x]),n⟩
 ·have apart:∀b,((c.aN j h.v).hd j).ownBlock=some b->(∃p∈l',p.1.v.ownBlock=some b)->False:=fun b z ⟨p,x,n⟩=>F p x b (by rwa [e1] at z) n;rcases bP hl with⟨rfl,rfl⟩|⟨_,rfl,rfl⟩|⟨_,_,rfl,rfl⟩<;>rcases bP u with⟨rfl,rfl⟩|⟨_,rfl,rfl⟩|⟨_,_,rfl,rfl⟩<;>first|exact q rfl|exact d.elim|exact f.elim|exact apart b d f|exact apart b f d
theorem Gh.mQ {ts:Ts} {os:Os} (j j' k:Nat) {sz e:Nat} {h:Hd} {ls:List (List AV)} {l l':List (Hd×List (List AV))} (D:lk os j=some (.row sz ls e)) (s:lk os j'=some (.eqv j h.v)) (E:lk os k=some (.pins sz l e)) (d:l'.Perm ((h,ls)::l))
  (f:AT j j'=false) (a:AT j k=false) (g:AT j' k=false) :
  Gh Γ ts os (fun _:Unit=>ts) (fun _=>(k,.pins sz l' e)::(j,.aF)::(j',.aF)::os):=by
 have f:=H7 f;have a:=H7 a;have g:=H7 g;refine Gh.of (need:=[(j,.row sz ls e),(j',.eqv j h.v),(k,.pins sz l e)]) (upd:=fun _=>[(k,.pins sz l' e),(j,.aF),(j',.aF)]) (ex:=fun _=>[]) (news:=[]) ⟨D,s,E,trivial⟩ rfl (fun _=>rfl) (fun _=>rfl) fun c w aO _=>?_;have x:lk [(j,Obj.row sz ls e),(j',.eqv j h.v),(k,.pins sz l e)] j=some (.row sz ls e):=j5 _ _ _;have i:lk [(j,Obj.row sz ls e),(j',.eqv j h.v),(k,.pins sz l e)] k=some (.pins sz l e):=by rw[E8 _ _ a,E8 _ _ g,j5]
 have A:O7 c.Φ w (c.hd j) sz ls e:=aO.rep j _ x;have e1:c.hd j=h.v:=aO.rep j' (.eqv j h.v) (by rw[E8 _ _ f,j5]);have rk:da c.Φ w sz l e:=aO.rep k _ i;rw[e1] at A;refine⟨(),c,aS.same aO rfl (fun _ _=>⟨rfl,rfl⟩) (fun id o hl=>?_) (fun id o b hl n=>?_) (fun id H o I b m hl t n r=>?_),fun J y G=>(by cases G)⟩
 ·rcases bP hl with⟨rfl,rfl⟩|⟨_,rfl,rfl⟩|⟨_,_,rfl,rfl⟩
  ·exact da.perm (da.cons.2 ⟨A,rk,fun q F b B C=>aO.sep j id _ _ b a x i (show(c.hd j).ownBlock=some b by rw[e1];exact B) ⟨q,F,C⟩⟩) d.symm
  ·trivial
  ·trivial
 ·rcases bP hl with⟨rfl,rfl⟩|⟨_,rfl,rfl⟩|⟨_,_,rfl,rfl⟩
  ·obtain⟨p,u,z⟩:=n;rcases MG.1 (d.mem_iff.1 u) with rfl|u
   ·exact⟨j,_,x,by rw[E8 _ _ (Ne.symm a),j5];rfl,by show(c.hd j).ownBlock=_;rw[e1];exact z⟩
   ·exact⟨id,_,i,by rw[hl];rfl,⟨p,u,z⟩⟩
  ·exact n.elim
  ·exact n.elim
 ·rcases bP hl with⟨rfl,rfl⟩|⟨_,rfl,rfl⟩|⟨_,_,rfl,rfl⟩<;>rcases bP t with⟨rfl,rfl⟩|⟨_,rfl,rfl⟩|⟨_,_,rfl,rfl⟩<;>first|exact m rfl|exact n.elim|exact r.elim
theorem Gh.open {ts:Ts} {os:Os} (t id j k:Nat) {sz e isz ie:Nat} {l:List (List AV×List (List AV))} (hl:lk ts t=some (.cI id)) (C:lk os id=some (.nest sz e isz ie l)) (f:AT j k=false) (g:AT j id=false) (m:AT k id=false)
  (x:F5 [j,k] ts=true) (B:∀z,F4 [j,k] [(j,.row sz (q8 z) e),(k,.pins isz (Z0 z) ie),(id,.aF)] os=true) :
  Gh Γ ts os (fun _:{ z:List (Hd×List AV×List (List AV)) // z.map (·.2)=l }=>(t,.aK j)::ts) (fun z=>(j,.row sz (q8 z.1) e)::(k,.pins isz (Z0 z.1) ie)::(id,.aF)::os):=by
 have f:=H7 f;have g:=H7 g;have m:=H7 m;refine Gh.of (ι:={ z:List (Hd×List AV×List (List AV)) // z.map (·.2)=l }) (need:=[(id,.nest sz e isz ie l)]) (upd:=fun z=>[(j,.row sz (q8 z.1) e),(k,.pins isz (Z0 z.1) ie),(id,.aF)]) (ex:=fun _=>[(t,.aK j)]) (news:=[j,k]) ⟨C,trivial⟩ x (fun _=>B _) (fun _=>by simp[l8,f]) fun c w aO _=>?_;obtain⟨h,z,e0,e1,N,O,Q⟩:=aO.rep id _ (j5 _ _ _);have u:(c.aN j h.v).hd j=h.v:=by simp[Ctx.aN]
 have tk:∀b,(∃v∈eZ (c.hd id),v.ownBlock=some b)->Touch c [(id,.nest sz e isz ie l)] [(j,.row sz (q8 z) e),(k,.pins isz (Z0 z) ie),(id,.aF)] b:=fun b r=>⟨id,_,j5 _ _ _,by rw[E8 _ _ g,E8 _ _ m,j5];rfl,r⟩;rw[e0] at tk;refine⟨⟨z,e1⟩,c.aN j h.v,aS.same aO rfl (fun i hi=>⟨rfl,by simp[Ctx.aN,show i≠j by rintro rfl;simp at hi]⟩) (fun i o hl=>?_) (fun i o b hl a=>?_) (fun i S o T b s hl D a d=>?_),fun U y M=>?_⟩
 ·rcases bP hl with⟨rfl,rfl⟩|⟨_,rfl,rfl⟩|⟨_,_,rfl,rfl⟩
  ·show O7 _ w ((c.aN i h.v).hd i) sz (q8 z) e;rw[u];exact N
  ·exact O
  ·trivial
 ·rcases bP hl with⟨rfl,rfl⟩|⟨_,rfl,rfl⟩|⟨_,_,rfl,rfl⟩
  ·exact tk b ⟨h.v,by simp[eZ],by have:((c.aN i h.v).hd i).ownBlock=some b:=a;rwa [u] at this⟩
  ·obtain⟨p,E,r⟩:=a;obtain⟨q,F,rfl⟩:=MU.1 E;exact tk b ⟨q.1.v,by show _∈(h.v::z.map (·.1.v)).toArray.toList;exact Mr _ (MU.2 ⟨q,F,rfl⟩),r⟩
  ·exact a.elim
 ·have apart:∀b,((c.aN j h.v).hd j).ownBlock=some b->(∃p∈Z0 z,p.1.v.ownBlock=some b)->False:=fun b K ⟨p,E,r⟩=>by
   obtain⟨q,F,rfl⟩:=MU.1 E;exact Q b q (by rwa [u] at K) F r
  rcases bP hl with⟨rfl,rfl⟩|⟨_,rfl,rfl⟩|⟨_,_,rfl,rfl⟩<;>rcases bP D with⟨rfl,rfl⟩|⟨_,rfl,rfl⟩|⟨_,_,rfl,rfl⟩<;>first|exact s rfl|exact a.elim|exact d.elim|exact apart b a d|exact apart b d a
 ·obtain⟨rfl,rfl⟩:=eS M;refine⟨_,hl,fun v L=>?_⟩;obtain⟨A,n,cap,vs,f1,G,H,I⟩:=L.kl;rw[e0] at G;have J:h.v::z.map (·.1.v)=Value.slice A n cap::vs:=by simpa using G
  rw[f1];exact .aK (u.trans (List.cons.inj J).1) H I
theorem Gh.close {ts:Ts} {os:Os} (t j k id:Nat) {sz e isz ie:Nat} {ls:List (List AV)} {J:List (Hd×List (List AV))} (z:List (Hd×List AV×List (List AV))) (hl:lk ts t=some (.aK j)) (Q:lk os j=some (.row sz ls e)) (S:lk os k=some (.pins isz J ie)) (x:ls=q8 z) (B:J=Z0 z)
  {l:List (List AV×List (List AV))} (C:z.map (·.2)=l) (a:AT j k=false) (d:AT j id=false) (f:AT k id=false) (E:F5 [id] ts=true) (F:F4 [id] [(id,.nest sz e isz ie l),(j,.aF),(k,.aF)] os=true) :
  Gh Γ ts os (fun _:Unit=>(t,.cI id)::ts) (fun _=>(id,.nest sz e isz ie l)::(j,.aF)::(k,.aF)::os):=by
 have a:=H7 a;have d:=H7 d;have f:=H7 f;subst x B;refine Gh.of (need:=[(j,.row sz (q8 z) e),(k,.pins isz (Z0 z) ie)]) (upd:=fun _=>[(id,.nest sz e isz ie l),(j,.aF),(k,.aF)]) (ex:=fun _=>[(t,.cI id)]) (news:=[id]) ⟨Q,S,trivial⟩ E (fun _=>F) (fun _=>by simp[l8]) fun c w aO _=>?_;have H:lk [(j,Obj.row sz (q8 z) e),(k,.pins isz (Z0 z) ie)] j=some (.row sz (q8 z) e):=j5 _ _ _;have m:lk [(j,Obj.row sz (q8 z) e),(k,.pins isz (Z0 z) ie)] k=some (.pins isz (Z0 z) ie):=by rw[E8 _ _ a,j5]
 have K:O7 c.Φ w (c.hd j) sz (q8 z) e:=aO.rep j _ H;have rk:da c.Φ w isz (Z0 z) ie:=aO.rep k _ m;obtain⟨h,e1,-⟩:=K.zH;have u:(c.aN id (.tuple (h.v::z.map (·.1.v)).toArray)).hd id=.tuple (h.v::z.map (·.1.v)).toArray:=by simp[Ctx.aN]
 refine⟨(),c.aN id (.tuple (h.v::z.map (·.1.v)).toArray),aS.same aO rfl (fun i hi=>⟨rfl,by simp[Ctx.aN,show i≠id by simpa using hi]⟩) (fun i o hl=>?_) (fun i o b hl r=>?_) (fun i V o W b q hl G r D=>?_),fun X y U=>?_⟩
 ·rcases bP hl with⟨rfl,rfl⟩|⟨_,rfl,rfl⟩|⟨_,_,rfl,rfl⟩
  ·show nd _ w _ sz e isz ie l;rw[u];refine⟨h,z,rfl,C,e1▸K,rk,fun b p x B C=>?_⟩;exact aO.sep j k _ _ b a H m (show(c.hd j).ownBlock=some b by rw[e1];exact x) ⟨(p.1,p.2.2),MU.2 ⟨p,B,rfl⟩,C⟩
  ·trivial
  ·trivial
 ·rcases bP hl with⟨rfl,rfl⟩|⟨_,rfl,rfl⟩|⟨_,_,rfl,rfl⟩
  ·obtain⟨v,s,I⟩:=r;rw[u] at s;have g:v∈h.v::z.map (·.1.v):=s;rcases MG.1 g with rfl|g
   ·exact⟨j,_,H,by rw[E8 _ _ (Ne.symm d),j5];rfl,by show(c.hd j).ownBlock=_;rw[e1];exact I⟩
   ·obtain⟨p,T,rfl⟩:=MU.1 g;exact⟨k,_,m,by rw[E8 _ _ (Ne.symm f),E8 _ _ a,j5];rfl,⟨(p.1,p.2.2),MU.2 ⟨p,T,rfl⟩,I⟩⟩
  ·exact r.elim
  ·exact r.elim
 ·rcases bP hl with⟨rfl,rfl⟩|⟨_,rfl,rfl⟩|⟨_,_,rfl,rfl⟩<;>rcases bP G with⟨rfl,rfl⟩|⟨_,rfl,rfl⟩|⟨_,_,rfl,rfl⟩<;>first|exact q rfl|exact r.elim|exact D.elim
 ·obtain⟨rfl,rfl⟩:=eS U;refine⟨_,hl,fun v s=>?_⟩;obtain⟨A,n,cap,f1,L,M,N⟩:=s.bF;have O:h.v=.slice A n cap:=e1.symm.trans L;rw[f1];exact .cI (vs:=z.map (·.1.v)) (by rw[u,O]) M N
theorem Gh.e8 {ts:Ts} {os:Os} (r i off j j':Nat) {sz e isz ie:Nat} {ls:List (List AV)} {l:List AV} (N:lk os r=some (.row sz ls e)) (hi:ls[i]?=some l) (M:l[off]?=some .aJ) (m:AT j j'=false) (f:AT r j=false) (p:AT r j'=false)
  (A:F5 [j,j'] ts=true) (B:F4 [j,j'] [(r,.row sz (ls.set i (l.set off (.aU (Hd.v ⟨none,0,0⟩)))) e),(j,.row isz [] ie),(j',.eqv j (Hd.v ⟨none,0,0⟩))] os=true) :
  Gh Γ ts os (fun _:Unit=>ts) (fun _=>(r,.row sz (ls.set i (l.set off (.aU (Hd.v ⟨none,0,0⟩)))) e)::(j,.row isz [] ie)::(j',.eqv j (Hd.v ⟨none,0,0⟩))::os):=by
 have m:=H7 m;have f:=H7 f;have p:=H7 p;refine Gh.of (need:=[(r,.row sz ls e)]) (upd:=fun _=>[(r,.row sz (ls.set i (l.set off (.aU (Hd.v ⟨none,0,0⟩)))) e),(j,.row isz [] ie),(j',.eqv j (Hd.v ⟨none,0,0⟩))]) (ex:=fun _=>[]) (news:=[j,j']) ⟨N,trivial⟩ A (fun _=>B) (fun _=>by simp[l8,m,f,p]) fun c w aO _=>?_;obtain⟨css,T,U,I⟩:=aO.rep r _ (j5 _ _ _);have e1:(c.aN j (Hd.v ⟨none,0,0⟩)).hd j=Hd.v ⟨none,0,0⟩:=by simp[Ctx.aN]
 have F:(c.aN j (Hd.v ⟨none,0,0⟩)).hd r=c.hd r:=by simp[Ctx.aN,f]
 have d:∀b,((c.aN j (Hd.v ⟨none,0,0⟩)).hd j).ownBlock=some b->False:=fun b G=>by
  rw[e1] at G;cases G
 refine⟨(),c.aN j (Hd.v ⟨none,0,0⟩),aS.same aO rfl (fun id C=>⟨rfl,by simp[Ctx.aN,show id≠j by rintro rfl;simp at C]⟩) (fun id o hl=>?_) (fun id o b hl s=>?_) (fun id S o X b t hl D s u=>?_),fun Y y Q=>(by cases Q)⟩
 ·rcases bP hl with⟨rfl,rfl⟩|⟨_,rfl,rfl⟩|⟨_,_,rfl,rfl⟩
  ·show O7 c.Φ w ((c.aN j (Hd.v ⟨none,0,0⟩)).hd id) sz _ e;rw[F];refine⟨css,T,by simpa using U,fun n us x H q=>?_⟩;rw[MY] at q;split at q
   ·rename_i K;subst K;split at q
    ·cases q;have z:=I i us l H hi;obtain⟨v,V,W⟩:=z.get M;have O:v=Hd.v ⟨none,0,0⟩:=by cases W;rfl
     have g:=(w9.bC (c:=c) z).set off (v:=v) (a:=.aU (Hd.v ⟨none,0,0⟩)) (by rw[O];exact .fz (.aU _));have E:us.set off v=us:=by
      apply Mn;intro k;rw[MY];split
      ·rename_i J;subst J;split
       ·exact V.symm
       ·rw[Md d9]
      ·rfl
     rw[E] at g;exact g.jw (sO.2 fun a L=>by
      rcases List.mem_or_eq_of_mem_set L with h|h
      ·exact sO.1 z.ids a h
      ·rw[h];rfl)
    ·cases q
   ·exact I n us x H q
  ·show O7 c.Φ w ((c.aN id (Hd.v ⟨none,0,0⟩)).hd id) isz [] ie;rw[e1];exact⟨[],⟨.inl ⟨rfl,rfl⟩,l9,l9⟩,rfl,fun i us l h=>by simp at h⟩
  ·exact e1
 ·rcases bP hl with⟨rfl,rfl⟩|⟨_,rfl,rfl⟩|⟨_,_,rfl,rfl⟩
  ·exact⟨id,_,j5 _ _ _,by rw[j5];rfl,by have:((c.aN j (Hd.v ⟨none,0,0⟩)).hd id).ownBlock=some b:=s;rw[F] at this;exact this⟩
  ·exact(d b s).elim
  ·exact s.elim
 ·rcases bP hl with⟨rfl,rfl⟩|⟨_,rfl,rfl⟩|⟨_,_,rfl,rfl⟩<;>rcases bP D with⟨rfl,rfl⟩|⟨_,rfl,rfl⟩|⟨_,_,rfl,rfl⟩<;>first|exact t rfl|exact s.elim|exact u.elim|exact d b s|exact d b u
theorem Gh.nil {ts:Ts} {os:Os} (t:Nat) {sz:Nat} {ls:List (List AV)} (hl:lk ts t=some (.sl sz ls)):Gh Γ ts os (fun b:{ b:Bool // b=true->ls=[] }=>(t,.fL b.1)::ts) (fun _=>os):=by
 rintro a w ⟨c,⟨j,l,f,m,n⟩,q⟩;obtain⟨v,g1,i⟩:=f t _ hl;obtain⟨A,k,us,b,o,e1,y,z,h,_⟩:=i.jx;have s:Rd c w v (.fL A.isNone):=by rw[e1];exact .fz (.fL _ _ _)
 refine⟨⟨A.isNone,fun g=>?_⟩,c,⟨j,l,fun u x d=>?_,m,n⟩,q⟩
 ·cases ls with
  |nil=>rfl
  |cons p r =>
   rw[(h l9).1] at g;cases g
 ·rw[l8] at d;split at d
  ·rename_i e;subst e;cases d;exact⟨v,g1,s⟩
  ·exact f u x d
theorem Gh.bR {ts:Ts} {os:Os} (d j':Nat) {sz e i off x:Nat} {ls:List (List AV)} (t:lk os d=some (.bR sz ls e i off x)) (a:AT d j'=false) (k:F5 [j'] ts=true) (l:∀h:Hd,F4 [j'] [(d,.row sz (gv ls i off (.aU h.v)) e),(j',.eqv x h.v)] os=true) (q:AT x j'=false) :
  Gh Γ ts os (fun _:Hd=>ts) (fun h=>(d,.row sz (gv ls i off (.aU h.v)) e)::(j',.eqv x h.v)::os):=by
 have a:=H7 a;have q:=H7 q;refine Gh.of (need:=[(d,.bR sz ls e i off x)]) (upd:=fun h:Hd=>[(d,.row sz (gv ls i off (.aU h.v)) e),(j',.eqv x h.v)]) (ex:=fun _=>[]) (news:=[j']) ⟨t,trivial⟩ k l (fun _=>by simp[l8,a]) fun c w aO _=>?_;obtain⟨v,s,p⟩:=aO.rep d _ (j5 _ _ _);obtain⟨A,n,cap,e1,r,-⟩:=s.bF;refine⟨⟨A,n,cap⟩,c,aS.same aO rfl (fun _ _=>⟨rfl,rfl⟩) (fun id o hl=>?_) (fun id o b hl g=>?_) (fun id z o B b f hl m g j=>?_),fun C y u=>(by cases u)⟩
 ·rcases cg hl with⟨rfl,rfl⟩|⟨_,rfl,rfl⟩
  ·rw[e1] at p;exact p
  ·exact r
 ·rcases cg hl with⟨rfl,rfl⟩|⟨_,rfl,rfl⟩
  ·exact⟨id,_,j5 _ _ _,by rw[j5];rfl,g⟩
  ·exact g.elim
 ·rcases cg hl with⟨rfl,rfl⟩|⟨_,rfl,rfl⟩<;>rcases cg m with⟨rfl,rfl⟩|⟨_,rfl,rfl⟩<;>first|exact f rfl|exact g.elim|exact j.elim
theorem Gh.bA {ts:Ts} {os:Os} (t id:Nat) {a:List AV} {e:Nat} (hl:lk ts t=some (.ptr id 0)) (d:lk os id=some (.box a e)) (g:AV.au a=[]):Gh Γ ts os (fun _:Unit=>(t,.fp a)::ts) (fun _=>(id,.aF)::os) :=
 Gh.of (need:=[(id,.box a e)]) (upd:=fun _=>[(id,.aF)]) (ex:=fun _=>[(t,.fp a)]) (news:=[]) ⟨d,trivial⟩ rfl (fun _=>rfl) (fun _=>rfl) fun c w aO _=>⟨(),c.fz [(id,.box a e)],aS.freeze aO,fun n y k=>by
  obtain⟨rfl,rfl⟩:=eS k;refine⟨_,hl,fun v i=>?_⟩;obtain⟨us,l,m⟩:=aO.rep id _ (j5 _ _ _);rw[i.cm];refine .fz (.fp (us:=us) (.inr ⟨id,_,j5 _ _ _,rfl⟩) (fun j u h=>?_) (H5.mono (fun _ _=>rfl) (fun b f=>.inl f) (w9.jw g m)));unfold World.cell?;simp only[Mi,l];simpa using h⟩
end
def sw (a b i:Nat):Nat:=bif AT i a then b else bif AT i b then a else i
def LZ (a b i:Nat):sw a b i=if i=a then b else if i=b then a else i:=by
 unfold sw;by_cases h:i=a
 ·subst h;simp
 ·have e:AT i a=false:=by cases q:AT i a;rfl;exact absurd (MN q) h
  rw[e,N1 h];by_cases c:i=b
  ·subst c;simp
  ·have e:AT i b=false:=by cases q:AT i b;rfl;exact absurd (MN q) c
   rw[e,N1 c];rfl
def Le (a b i:Nat):sw a b (sw a b i)=i:=by
 simp only[LZ];split<;>split<;>(try split)<;>omega
mutual
theorem AV.dE {d:Nat->Nat} (h:∀i,d (d i)=i):∀a:AV,(a.bX d).bX d=a
 |.ptr id off=>by simp only[AV.bX,h]
 |.aK id=>by simp only[AV.bX,h]
 |.dW id n=>by simp only[AV.bX,h]
 |.dQ id n sz=>by simp only[AV.bX,h]
 |.ep id i sz off=>by simp only[AV.bX,h]
 |.mp id=>by simp only[AV.bX,h]
 |.cI id=>by simp only[AV.bX,h]
 |.np id=>by simp only[AV.bX,h]
 |.dj b=>rfl
 |.fn f c=>by simp only[AV.bX,AV.bQ h c]
 |.agg c=>by simp only[AV.bX,AV.bQ h c]
 |.aZ c=>by simp only[AV.bX,AV.bQ h c]
 |.any=>rfl
 |.int n=>rfl
 |.ik k n=>rfl
 |.bool b=>rfl
 |.str s=>rfl
 |.sl sz ls=>rfl
 |.fp c=>rfl
 |.aJ=>rfl
 |.fL b=>rfl
 |.aa=>rfl
 |.aP=>rfl
 |.aU v=>rfl
theorem AV.bQ {b:Nat->Nat} (h:∀i,b (b i)=i):∀l:List AV,AV.cn b (AV.cn b l)=l
 |[]=>rfl
 |a::l=>by simp only[AV.cn,AV.dE h a,AV.bQ h l]
end
theorem Obj.dE {ρ:Nat->Nat} (h:∀i,ρ (ρ i)=i) (o:Obj):(o.bX ρ).bX ρ=o:=by
 cases o
 case deep sz e cols l hs sh =>
  have e1:(hs.map fun p=>(p.1,p.2.1,ρ p.2.2)).map (fun p=>(p.1,p.2.1,ρ p.2.2))=hs:=by
   rw[List.map_map];have:(fun p:Nat×Nat×Nat=>(p.1,p.2.1,ρ p.2.2))∘(fun p=>(p.1,p.2.1,ρ p.2.2))=id:=by funext p;simp[h]
   rw[this,List.map_id]
  simp only[Obj.bX,h,e1]
 all_goals simp only[Obj.bX,AV.bQ h,h]
def fF (a:Nat->Nat):Os->Os
 |[]=>[]
 |(k,o)::r=>(a k,o.bX a)::fF a r
theorem nj {a:Nat->Nat} (h:∀i,a (a i)=i) (id:Nat):∀os:Os,lk (fF a os) id=(lk os (a id)).map (·.bX a)
 |[]=>rfl
 |(k,o)::r=>by
  rw[fF,l8,l8];by_cases e:k=a id
  ·rw[N2 e,N2 (by rw[e,h])];rfl
  ·rw[N1 e,N1 (fun q=>e (by rw[<-q,h])),nj h id r]
def xV {a:Nat->Nat} (h:∀i,a (a i)=i) {id:Nat} {os:Os} {o:Obj} (hl:lk (fF a os) id=some o):lk os (a id)=some (o.bX a):=by
 rw[nj h,MM] at hl;obtain⟨x,b,rfl⟩:=hl;rw[b,Obj.dE h]
theorem Q5.other {c:Ctx} {w:World} {a:Nat->Nat} (h:∀i,a (a i)=i) {os f:Os} (g:∀id o,lk f id=some o->lk os (a id)=some (o.bX a)) (aO:Q5 c w os):Q5 (c.bq a) w f:=by
 refine⟨fun id o hl=>(aO.rep _ _ (g id o hl)).aw,fun id o b hl j=>aO.lt _ _ b (g id o hl) (il.1 j),fun id d o n b m hl l j k=>aO.sep (a id) (a d) _ _ b (fun e=>m ?_) (g id o hl) (g d n l) (il.1 j) (il.1 k),aO.aq⟩;rw[<-h id,e,h]
def I0 {c:Ctx} {a:Nat->Nat} (h:∀i,a (a i)=i) {need upd:Os} {b:Nat} (g:Touch (c.bq a) need upd b):Touch c (fF a need) (fF a upd) b:=by
 obtain⟨id,o,d,e,f⟩:=g;refine⟨a id,o.bX a,by rw[nj h,h,d];rfl,by rw[nj h,h];simpa using e,il.1 f⟩
theorem Spec.swap {P:Program} {f:Nat} {need upd:Os} {ins:List AV} {av:AV} {news:List Nat} (hS:Spec P f need ins av upd news) (a:Nat->Nat) (h:∀i,a (a i)=i) :
  Spec P f (fF a need) (AV.cn a ins) (av.bX a) (fF a upd) (news.map a):=by
 obtain⟨s,t,u⟩:=hS;refine⟨s,fun id j=>?_,fun c w args aO B=>?_⟩
 ·obtain⟨i,hi,rfl⟩:=MU.1 j;rw[nj h,h];simpa using t i hi
 have m:Q5 (c.bq a) w need:=aO.other h fun id o hl=>by rw[nj h,h,hl];rfl
 have l:∀d:Ctx,(d.bq a).bq a=d:=fun d=>by
  cases d;simp only[Ctx.bq,h]
 refine(u (c.bq a) w args m (w9.aw ins B)).mono fun e w' ⟨v,q,x,g,D⟩=>⟨v,q.bq a,x,?_,?_⟩
 ·have n:∀b,Touch (c.bq a) need upd b->Touch c (fF a need) (fF a upd) b:=fun b=>I0 h;have E:∀b,Touch c (fF a need) (fF a upd) b->Touch (c.bq a) need upd b:=fun b ⟨id,o,g1,p,r⟩=>by
   refine⟨a id,o.bX a,xV h g1,?_,?_⟩
   ·rw[nj h] at p;simpa using p
   ·have:aW ((c.bq a).bq a) id o b:=by rw[l];exact r
    exact il.1 this
  refine⟨g.cX,g.tape,g.output,g.size,g.aq,fun b k=>(g.ak b k).imp (fun h=>h) (.imp (fun h=>h) (n b)),fun b k A=>g.ab b k fun C=>A (n b C),fun id j=>?_,g.aO.other h fun id o hl=>xV h hl,fun id o b hl y=>?_⟩
  ·have:=g.ctx (a id) fun z=>j (MU.2 ⟨a id,z,h id⟩);simpa only[Ctx.bq,h] using this
  ·exact(g.az (a id) _ b (xV h hl) (il.1 y)).imp (fun h=>h) (n b)
 ·exact Rd.aw (av.bX a) (by rw[AV.dE h];exact D)
theorem Spec.sw {P:Program} {f:Nat} {need upd:Os} {ins:List AV} {av:AV} {news:List Nat} (hS:Spec P f need ins av upd news) (a b:Nat) :
  Spec P f (fF (sw a b) need) (AV.cn (sw a b) ins) (av.bX (sw a b)) (fF (sw a b) upd) (news.map (sw a b)):=hS.swap _ (Le a b)
def bE : List (Nat×Nat)->Nat->Nat
 |[],i=>i
 |(a,b)::r,i=>bif AT i a then b else bif AT i b then a else bE r i
def d50 : List (Nat×Nat)->Bool
 |[]=>true
 |(a,b)::r=>(r.all fun p=>!Nat.beq p.1 a && !Nat.beq p.1 b && !Nat.beq p.2 a && !Nat.beq p.2 b) && d50 r
theorem C3 : ∀(m:List (Nat×Nat)) (i:Nat),bE m i=i\/∃p∈m,bE m i=p.1\/bE m i=p.2
 |[],i=>.inl rfl
 |(a,b)::r,i=>by
  unfold bE;cases d:AT i a with
  |true=>exact .inr ⟨(a,b),l9,.inr rfl⟩
  |false =>
   cases e:AT i b with
   |true=>exact .inr ⟨(a,b),l9,.inl rfl⟩
   |false =>
    rcases C3 r i with h|⟨p,c,h⟩
    ·exact .inl h
    ·exact .inr ⟨p,by simp[c],h⟩
theorem DV : ∀(m:List (Nat×Nat)),d50 m=true->∀i,bE m (bE m i)=i
 |[],_,i=>rfl
 |(a,b)::r,h,i=>by
  unfold d50 at h;rw[IT] at h;have ih:=DV r h.2
  conv=>lhs;arg 2;unfold bE
  cases d:AT i a with
  |true =>
   have e:=MN d;subst e;simp only[Mz];unfold bE;cases c:AT b i with
   |true=>simpa using(MN c)
   |false=>simp
  |false =>
   cases c:AT i b with
   |true =>
    have e:=MN c;subst e;simp only[N0,Mz];unfold bE;simp
   |false =>
    simp only[N0];have key:AT (bE r i) a=false/\AT (bE r i) b=false:=by
     rcases C3 r i with e|⟨p,f,e⟩
     ·rw[e];exact⟨d,c⟩
     ·have:=MR.1 h.1 p f;simp only[IT,Bool.not_eq_true'] at this;rcases e with e|e<;>rw[e]
      ·exact⟨this.1.1.1,this.1.1.2⟩
      ·exact⟨this.1.2,this.2⟩
    unfold bE;rw[key.1,key.2];simp only[N0];exact ih i
theorem Spec.bE {P:Program} {f:Nat} {need upd:Os} {ins:List AV} {av:AV} {news:List Nat} (hS:Spec P f need ins av upd news) (m:List (Nat×Nat)) (h:d50 m=true) :
  Spec P f (fF (Go.Proofs.YtibjcppjfkamhaaGreatDoor.bE m) need) (AV.cn (Go.Proofs.YtibjcppjfkamhaaGreatDoor.bE m) ins) (av.bX (Go.Proofs.YtibjcppjfkamhaaGreatDoor.bE m)) (fF (Go.Proofs.YtibjcppjfkamhaaGreatDoor.bE m) upd) (news.map (Go.Proofs.YtibjcppjfkamhaaGreatDoor.bE m)):=hS.swap _ (DV m h)
def tab : R9:=[
  (1,⟨0,1,8,[.aP],[],0,0,.i64⟩),
  (2,⟨5,1,8,[.int 0],[],0,0,.i64⟩),
  (3,⟨5,1,8,[.int 0],[],0,0,.i64⟩),
  (4,⟨6,1,1,[.bool false],[],0,0,.i64⟩),
  (5,⟨5,1,1,[.ik .u8 0],[],0,0,.u8⟩),
  (6,⟨5,1,1,[.ik .u8 0],[],0,0,.u8⟩),
  (7,⟨1,4,24,[.int 0,.int 0,.bool false,.ik .u8 0],[(0,1,false),(1,1,false),(2,1,false),(3,1,false)],0,0,.i64⟩),
  (8,⟨1,4,24,[.int 0,.int 0,.bool false,.ik .u8 0],[(0,1,false),(1,1,false),(2,1,false),(3,1,false)],0,0,.i64⟩),
  (9,⟨4,1,16,[.str BY],[],0,0,.i64⟩),
  (10,⟨4,1,16,[.str BY],[],0,0,.i64⟩),
  (11,⟨4,1,16,[.str BY],[],0,0,.i64⟩),
  (12,⟨5,1,8,[.ik .u64 0],[],0,0,.u64⟩),
  (13,⟨1,2,24,[.str BY,.ik .u64 0],[(0,1,false),(1,1,false)],0,0,.i64⟩),
  (14,⟨1,2,24,[.str BY,.ik .u64 0],[(0,1,false),(1,1,false)],0,0,.i64⟩),
  (15,⟨7,1,8,[.aa],[],321,0,.i64⟩),
  (16,⟨7,1,8,[.aa],[],324,0,.i64⟩),
  (17,⟨7,1,8,[.aa],[],331,0,.i64⟩),
  (18,⟨1,1,8,[.aa],[(0,1,false)],0,0,.i64⟩),
  (19,⟨1,1,8,[.aa],[(0,1,false)],0,0,.i64⟩),
  (20,⟨9,1,16,[.dj true],[],0,0,.i64⟩),
  (21,⟨5,1,4,[.ik .i32 0],[],0,0,.i32⟩),
  (22,⟨0,1,8,[.aP],[],0,0,.i64⟩),
  (23,⟨2,1,24,[.aJ],[],34,0,.i64⟩),
  (24,⟨0,1,8,[.aP],[],0,0,.i64⟩),
  (25,⟨2,1,24,[.aJ],[],55,0,.i64⟩),
  (26,⟨1,5,64,[.str BY,.int 0,.int 0,.int 0,.aJ],[(0,1,false),(1,1,false),(2,1,false),(3,1,false),(4,1,false)],0,0,.i64⟩),
  (27,⟨1,5,64,[.str BY,.int 0,.int 0,.int 0,.aJ],[(0,1,false),(1,1,false),(2,1,false),(3,1,false),(4,1,false)],0,0,.i64⟩),
  (28,⟨1,2,16,[.int 0,.int 0],[(0,1,false),(1,1,false)],0,0,.i64⟩),
  (29,⟨1,2,16,[.int 0,.int 0],[(0,1,false),(1,1,false)],0,0,.i64⟩),
  (30,⟨2,1,24,[.aJ],[],29,0,.i64⟩),
  (31,⟨1,4,56,[.int 0,.int 0,.str BY,.aJ],[(0,2,true),(2,1,false),(3,1,false)],0,0,.i64⟩),
  (32,⟨1,4,56,[.int 0,.int 0,.str BY,.aJ],[(0,2,true),(2,1,false),(3,1,false)],0,0,.i64⟩),
  (33,⟨1,13,160,[.int 0,.str BY,.int 0,.int 0,.str BY,.int 0,.int 0,.int 0,.aJ,.int 0,.int 0,.str BY,.aJ],[(0,1,false),(1,1,false),(2,1,false),(3,1,false),(4,5,true),(9,4,true)],0,0,.i64⟩),
  (34,⟨1,13,160,[.int 0,.str BY,.int 0,.int 0,.str BY,.int 0,.int 0,.int 0,.aJ,.int 0,.int 0,.str BY,.aJ],[(0,1,false),(1,1,false),(2,1,false),(3,1,false),(4,5,true),(9,4,true)],0,0,.i64⟩),
  (35,⟨0,1,8,[.aP],[],0,0,.i64⟩),
  (36,⟨0,1,8,[.aP],[],0,0,.i64⟩),
  (37,⟨2,1,24,[.aJ],[],81,0,.i64⟩),
  (38,⟨2,1,24,[.aJ],[],92,0,.i64⟩),
  (39,⟨1,3,56,[.aJ,.aJ,.int 0],[(0,1,false),(1,1,false),(2,1,false)],0,0,.i64⟩),
  (40,⟨1,3,56,[.aJ,.aJ,.int 0],[(0,1,false),(1,1,false),(2,1,false)],0,0,.i64⟩),
  (41,⟨2,1,24,[.aJ],[],159,0,.i64⟩),
  (42,⟨2,1,24,[.aJ],[],162,0,.i64⟩),
  (43,⟨2,1,24,[.aJ],[],5,0,.i64⟩),
  (44,⟨1,6,128,[.aJ,.aJ,.int 0,.aJ,.aJ,.aJ],[(0,3,true),(3,1,false),(4,1,false),(5,1,false)],0,0,.i64⟩),
  (45,⟨1,6,128,[.aJ,.aJ,.int 0,.aJ,.aJ,.aJ],[(0,3,true),(3,1,false),(4,1,false),(5,1,false)],0,0,.i64⟩),
  (46,⟨2,1,24,[.aJ],[],51,0,.i64⟩),
  (47,⟨5,1,8,[.int 0],[],0,0,.i64⟩),
  (49,⟨0,1,8,[.aP],[],0,0,.i64⟩),
  (50,⟨1,4,32,[.int 0,.int 0,.int 0,.int 0],[(0,1,false),(1,1,false),(2,2,true)],0,0,.i64⟩),
  (51,⟨1,4,32,[.int 0,.int 0,.int 0,.int 0],[(0,1,false),(1,1,false),(2,2,true)],0,0,.i64⟩),
  (52,⟨0,1,8,[.aP],[],0,0,.i64⟩),
  (53,⟨0,1,8,[.aP],[],0,0,.i64⟩),
  (54,⟨1,5,48,[.int 0,.int 0,.int 0,.int 0,.str BY],[(0,1,false),(1,1,false),(2,1,false),(3,1,false),(4,1,false)],0,0,.i64⟩),
  (55,⟨1,5,48,[.int 0,.int 0,.int 0,.int 0,.str BY],[(0,1,false),(1,1,false),(2,1,false),(3,1,false),(4,1,false)],0,0,.i64⟩),
  (56,⟨0,1,8,[.aP],[],0,0,.i64⟩),
  (57,⟨0,1,8,[.aP],[],0,0,.i64⟩),
  (58,⟨0,1,8,[.aP],[],0,0,.i64⟩),
  (59,⟨0,1,8,[.aP],[],0,0,.i64⟩),
  (61,⟨0,1,8,[.aP],[],0,0,.i64⟩),
  (62,⟨0,1,8,[.aP],[],0,0,.i64⟩),
  (63,⟨0,1,8,[.aP],[],0,0,.i64⟩),
  (65,⟨0,1,8,[.aP],[],0,0,.i64⟩),
  (66,⟨0,1,8,[.aP],[],0,0,.i64⟩),
  (67,⟨0,1,8,[.aP],[],0,0,.i64⟩),
  (68,⟨0,1,8,[.aP],[],0,0,.i64⟩),
  (69,⟨0,1,8,[.aP],[],0,0,.i64⟩),
  (70,⟨0,1,8,[.aP],[],0,0,.i64⟩),
  (71,⟨2,1,24,[.aJ],[],3,0,.i64⟩),
  (72,⟨0,1,8,[.aP],[],0,0,.i64⟩),
  (74,⟨0,1,8,[.aP],[],0,0,.i64⟩),
  (75,⟨0,1,8,[.aP],[],0,0,.i64⟩),
  (76,⟨0,1,8,[.aP],[],0,0,.i64⟩),
  (77,⟨0,1,8,[.aP],[],0,0,.i64⟩),
  (78,⟨8,1,8,[.any],[],4,9,.i64⟩),
  (79,⟨2,1,24,[.aJ],[],27,0,.i64⟩),
  (80,⟨1,4,56,[.str BY,.int 0,.int 0,.aJ],[(0,1,false),(1,1,false),(2,1,false),(3,1,false)],0,0,.i64⟩),
  (81,⟨1,4,56,[.str BY,.int 0,.int 0,.aJ],[(0,1,false),(1,1,false),(2,1,false),(3,1,false)],0,1,.i64⟩),
  (82,⟨0,1,8,[.aP],[],0,0,.i64⟩),
  (83,⟨0,1,8,[.aP],[],0,0,.i64⟩),
  (84,⟨0,1,8,[.aP],[],0,0,.i64⟩),
  (85,⟨7,1,8,[.aa],[],40,0,.i64⟩),
  (86,⟨7,1,8,[.aa],[],27,0,.i64⟩),
  (87,⟨1,2,16,[.int 0,.int 0],[(0,1,false),(1,1,false)],0,0,.i64⟩),
  (88,⟨1,2,16,[.int 0,.int 0],[(0,1,false),(1,1,false)],0,0,.i64⟩),
  (89,⟨0,1,8,[.aP],[],0,0,.i64⟩),
  (90,⟨0,1,8,[.aP],[],0,0,.i64⟩),
  (91,⟨1,2,32,[.int 0,.aJ],[(0,1,false),(1,1,false)],0,0,.i64⟩),
  (92,⟨1,2,32,[.int 0,.aJ],[(0,1,false),(1,1,false)],0,1,.i64⟩),
  (93,⟨0,1,8,[.aP],[],0,0,.i64⟩),
  (94,⟨7,1,8,[.aa],[],99,0,.i64⟩),
  (95,⟨7,1,8,[.aa],[],97,0,.i64⟩),
  (96,⟨1,2,32,[.aa,.aJ],[(0,1,false),(1,1,false)],0,0,.i64⟩),
  (97,⟨1,2,32,[.aa,.aJ],[(0,1,false),(1,1,false)],0,0,.i64⟩),
  (98,⟨1,2,32,[.aa,.aJ],[(0,2,true)],0,0,.i64⟩),
  (99,⟨1,2,32,[.aa,.aJ],[(0,2,true)],0,0,.i64⟩),
  (100,⟨0,1,8,[.aP],[],0,0,.i64⟩),
  (101,⟨0,1,8,[.aP],[],0,0,.i64⟩),
  (102,⟨0,1,8,[.aP],[],0,0,.i64⟩),
  (103,⟨0,1,8,[.aP],[],0,0,.i64⟩),
  (104,⟨0,1,8,[.aP],[],0,0,.i64⟩),
  (105,⟨7,1,8,[.aa],[],107,0,.i64⟩),
  (106,⟨1,2,24,[.str BY,.bool false],[(0,1,false),(1,1,false)],0,0,.i64⟩),
  (107,⟨1,2,24,[.str BY,.bool false],[(0,1,false),(1,1,false)],0,0,.i64⟩),
  (108,⟨2,1,24,[.aJ],[],9,0,.i64⟩),
  (110,⟨0,1,8,[.aP],[],0,0,.i64⟩),
  (111,⟨7,1,8,[.aa],[],113,0,.i64⟩),
  (112,⟨1,2,32,[.aJ,.bool false],[(0,1,false),(1,1,false)],0,0,.i64⟩),
  (113,⟨1,2,32,[.aJ,.bool false],[(0,1,false),(1,1,false)],0,0,.i64⟩),
  (114,⟨0,1,8,[.aP],[],0,0,.i64⟩),
  (115,⟨0,1,8,[.aP],[],0,0,.i64⟩),
  (116,⟨0,1,8,[.aP],[],0,0,.i64⟩),
  (117,⟨0,1,8,[.aP],[],0,0,.i64⟩),
  (118,⟨0,1,8,[.aP],[],0,0,.i64⟩),
  (119,⟨0,1,8,[.aP],[],0,0,.i64⟩),
  (120,⟨0,1,8,[.aP],[],0,0,.i64⟩),
  (121,⟨0,1,8,[.aP],[],0,0,.i64⟩),
  (122,⟨0,1,8,[.aP],[],0,0,.i64⟩),
  (124,⟨0,1,8,[.aP],[],0,0,.i64⟩),
  (125,⟨0,1,8,[.aP],[],0,0,.i64⟩),
  (126,⟨7,1,8,[.aa],[],45,0,.i64⟩),
  (127,⟨0,1,8,[.aP],[],0,0,.i64⟩),
  (128,⟨0,1,8,[.aP],[],0,0,.i64⟩),
  (129,⟨0,1,8,[.aP],[],0,0,.i64⟩),
  (130,⟨7,1,8,[.aa],[],79,0,.i64⟩),
  (131,⟨0,1,8,[.aP],[],0,0,.i64⟩),
  (132,⟨0,1,8,[.aP],[],0,0,.i64⟩),
  (133,⟨0,1,8,[.aP],[],0,0,.i64⟩),
  (134,⟨0,1,8,[.aP],[],0,0,.i64⟩),
  (136,⟨0,1,8,[.aP],[],0,0,.i64⟩),
  (137,⟨0,1,8,[.aP],[],0,0,.i64⟩),
  (139,⟨0,1,8,[.aP],[],0,0,.i64⟩),
  (140,⟨0,1,8,[.aP],[],0,0,.i64⟩),
  (141,⟨0,1,8,[.aP],[],0,0,.i64⟩),
  (142,⟨9,1,16,[.dj true],[],0,0,.i64⟩),
  (143,⟨9,1,16,[.dj true],[],0,0,.i64⟩),
  (145,⟨0,1,8,[.aP],[],0,0,.i64⟩),
  (146,⟨0,1,8,[.aP],[],0,0,.i64⟩),
  (147,⟨7,1,8,[.aa],[],5,0,.i64⟩),
  (148,⟨0,1,8,[.aP],[],0,0,.i64⟩),
  (149,⟨0,1,8,[.aP],[],0,0,.i64⟩),
  (150,⟨1,4,32,[.int 0,.int 0,.int 0,.int 0],[(0,2,true),(2,1,false),(3,1,false)],0,0,.i64⟩),
  (151,⟨1,4,32,[.int 0,.int 0,.int 0,.int 0],[(0,2,true),(2,1,false),(3,1,false)],0,0,.i64⟩),
  (152,⟨1,11,152,[.aJ,.aJ,.int 0,.int 0,.int 0,.int 0,.int 0,.aJ,.aJ,.int 0,.int 0],[(0,3,true),(3,4,true),(7,1,false),(8,1,false),(9,1,false),(10,1,false)],0,0,.i64⟩),
  (153,⟨1,11,152,[.aJ,.aJ,.int 0,.int 0,.int 0,.int 0,.int 0,.aJ,.aJ,.int 0,.int 0],[(0,3,true),(3,4,true),(7,1,false),(8,1,false),(9,1,false),(10,1,false)],0,0,.i64⟩),
  (154,⟨0,1,8,[.aP],[],0,0,.i64⟩),
  (155,⟨1,3,32,[.int 0,.str BY,.int 0],[(0,1,false),(1,1,false),(2,1,false)],0,0,.i64⟩),
  (156,⟨1,3,32,[.int 0,.str BY,.int 0],[(0,1,false),(1,1,false),(2,1,false)],0,0,.i64⟩),
  (157,⟨2,1,24,[.aJ],[],167,0,.i64⟩),
  (158,⟨1,6,72,[.int 0,.str BY,.int 0,.int 0,.bool false,.aJ],[(0,3,true),(3,1,false),(4,1,false),(5,1,false)],0,0,.i64⟩),
  (159,⟨1,6,72,[.int 0,.str BY,.int 0,.int 0,.bool false,.aJ],[(0,3,true),(3,1,false),(4,1,false),(5,1,false)],0,0,.i64⟩),
  (160,⟨0,1,8,[.aP],[],0,0,.i64⟩),
  (161,⟨1,4,56,[.int 0,.str BY,.int 0,.aJ],[(0,3,true),(3,1,false)],0,0,.i64⟩),
  (162,⟨1,4,56,[.int 0,.str BY,.int 0,.aJ],[(0,3,true),(3,1,false)],0,0,.i64⟩),
  (163,⟨0,1,8,[.aP],[],0,0,.i64⟩),
  (164,⟨0,1,8,[.aP],[],0,0,.i64⟩),
  (165,⟨0,1,8,[.aP],[],0,0,.i64⟩),
  (166,⟨1,2,16,[.int 0,.int 0],[(0,1,false),(1,1,false)],0,0,.i64⟩),
  (167,⟨1,2,16,[.int 0,.int 0],[(0,1,false),(1,1,false)],0,0,.i64⟩),
  (168,⟨0,1,8,[.aP],[],0,0,.i64⟩),
  (169,⟨0,1,8,[.aP],[],0,0,.i64⟩),
  (171,⟨0,1,8,[.aP],[],0,0,.i64⟩),
  (173,⟨0,1,8,[.aP],[],0,0,.i64⟩),
  (174,⟨0,1,8,[.aP],[],0,0,.i64⟩),
  (175,⟨2,1,24,[.aJ],[],213,0,.i64⟩),
  (176,⟨0,1,8,[.aP],[],0,0,.i64⟩),
  (177,⟨0,1,8,[.aP],[],0,0,.i64⟩),
  (178,⟨0,1,8,[.aP],[],0,0,.i64⟩),
  (179,⟨5,1,8,[.ik .u64 0],[],0,0,.u64⟩),
  (180,⟨0,1,8,[.aP],[],0,0,.i64⟩),
  (182,⟨0,1,8,[.aP],[],0,0,.i64⟩),
  (183,⟨0,1,8,[.aP],[],0,0,.i64⟩),
  (184,⟨3,2,16,[.int 0,.int 0],[],3,2,.i64⟩),
  (185,⟨2,1,24,[.aJ],[],184,0,.i64⟩),
  (186,⟨0,1,8,[.aP],[],0,0,.i64⟩),
  (188,⟨0,1,8,[.aP],[],0,0,.i64⟩),
  (189,⟨0,1,8,[.aP],[],0,0,.i64⟩),
  (191,⟨0,1,8,[.aP],[],0,0,.i64⟩),
  (192,⟨0,1,8,[.aP],[],0,0,.i64⟩),
  (193,⟨7,1,8,[.aa],[],198,0,.i64⟩),
  (195,⟨0,1,8,[.aP],[],0,0,.i64⟩),
  (196,⟨2,1,24,[.aJ],[],156,0,.i64⟩),
  (197,⟨1,10,144,[.aJ,.aJ,.int 0,.int 0,.int 0,.int 0,.int 0,.int 0,.aJ,.aJ],[(0,3,true),(3,1,false),(4,1,false),(5,1,false),(6,1,false),(7,1,false),(8,1,false),(9,1,false)],0,0,.i64⟩),
  (198,⟨1,10,144,[.aJ,.aJ,.int 0,.int 0,.int 0,.int 0,.int 0,.int 0,.aJ,.aJ],[(0,3,true),(3,1,false),(4,1,false),(5,1,false),(6,1,false),(7,1,false),(8,1,false),(9,1,false)],0,0,.i64⟩),
  (199,⟨0,1,8,[.aP],[],0,0,.i64⟩),
  (200,⟨0,1,8,[.aP],[],0,0,.i64⟩),
  (201,⟨0,1,8,[.aP],[],0,0,.i64⟩),
  (202,⟨0,1,8,[.aP],[],0,0,.i64⟩),
  (203,⟨0,1,8,[.aP],[],0,0,.i64⟩),
  (204,⟨0,1,8,[.aP],[],0,0,.i64⟩),
  (205,⟨0,1,8,[.aP],[],0,0,.i64⟩),
  (206,⟨0,1,8,[.aP],[],0,0,.i64⟩),
  (207,⟨0,1,8,[.aP],[],0,0,.i64⟩),
  (208,⟨0,1,8,[.aP],[],0,0,.i64⟩),
  (209,⟨0,1,8,[.aP],[],0,0,.i64⟩),
  (211,⟨0,1,8,[.aP],[],0,0,.i64⟩),
  (212,⟨1,5,64,[.int 0,.str BY,.int 0,.int 0,.aJ],[(0,1,false),(1,1,false),(2,1,false),(3,1,false),(4,1,false)],0,0,.i64⟩),
  (213,⟨1,5,64,[.int 0,.str BY,.int 0,.int 0,.aJ],[(0,1,false),(1,1,false),(2,1,false),(3,1,false),(4,1,false)],0,0,.i64⟩),
  (215,⟨0,1,8,[.aP],[],0,0,.i64⟩),
  (216,⟨0,1,8,[.aP],[],0,0,.i64⟩),
  (217,⟨0,1,8,[.aP],[],0,0,.i64⟩),
  (218,⟨5,1,8,[.int 0],[],0,0,.i64⟩),
  (220,⟨0,1,8,[.aP],[],0,0,.i64⟩),
  (221,⟨0,1,8,[.aP],[],0,0,.i64⟩),
  (222,⟨0,1,8,[.aP],[],0,0,.i64⟩),
  (223,⟨0,1,8,[.aP],[],0,0,.i64⟩),
  (224,⟨0,1,8,[.aP],[],0,0,.i64⟩),
  (225,⟨5,1,4,[.ik .u32 0],[],0,0,.u32⟩),
  (226,⟨0,1,8,[.aP],[],0,0,.i64⟩),
  (227,⟨5,1,8,[.ik .u64 0],[],0,0,.u64⟩),
  (229,⟨0,1,8,[.aP],[],0,0,.i64⟩),
  (230,⟨3,24,24,[.ik .u8 0,.ik .u8 0,.ik .u8 0,.ik .u8 0,.ik .u8 0,.ik .u8 0,.ik .u8 0,.ik .u8 0,.ik .u8 0,.ik .u8 0,.ik .u8 0,.ik .u8 0,.ik .u8 0,.ik .u8 0,.ik .u8 0,.ik .u8 0,.ik .u8 0,.ik .u8 0,.ik .u8 0,.ik .u8 0,.ik .u8 0,.ik .u8 0,.ik .u8 0,.ik .u8 0],[],5,24,.i64⟩),
  (231,⟨0,1,8,[.aP],[],0,0,.i64⟩),
  (233,⟨0,1,8,[.aP],[],0,0,.i64⟩),
  (234,⟨5,1,8,[.int 0],[],0,0,.i64⟩),
  (236,⟨0,1,8,[.aP],[],0,0,.i64⟩),
  (237,⟨7,1,8,[.aa],[],280,0,.i64⟩),
  (238,⟨0,1,8,[.aP],[],0,0,.i64⟩),
  (239,⟨0,1,8,[.aP],[],0,0,.i64⟩),
  (240,⟨0,1,8,[.aP],[],0,0,.i64⟩),
  (241,⟨0,1,8,[.aP],[],0,0,.i64⟩),
  (242,⟨0,1,8,[.aP],[],0,0,.i64⟩),
  (243,⟨0,1,8,[.aP],[],0,0,.i64⟩),
  (244,⟨0,1,8,[.aP],[],0,0,.i64⟩),
  (245,⟨0,1,8,[.aP],[],0,0,.i64⟩),
  (246,⟨0,1,8,[.aP],[],0,0,.i64⟩),
  (247,⟨0,1,8,[.aP],[],0,0,.i64⟩),
  (248,⟨7,1,8,[.aa],[],251,0,.i64⟩),
  (249,⟨2,1,24,[.aJ],[],288,0,.i64⟩),
  (250,⟨1,10,96,[.aa,.aP,.aP,.int 0,.int 0,.int 0,.aJ,.int 0,.int 0,.int 0],[(0,1,false),(1,1,false),(2,1,false),(3,1,false),(4,1,false),(5,1,false),(6,1,false),(7,2,true),(9,1,false)],0,0,.i64⟩),
  (251,⟨1,10,96,[.aa,.aP,.aP,.int 0,.int 0,.int 0,.aJ,.int 0,.int 0,.int 0],[(0,1,false),(1,1,false),(2,1,false),(3,1,false),(4,1,false),(5,1,false),(6,1,false),(7,2,true),(9,1,false)],0,0,.i64⟩),
  (252,⟨0,1,8,[.aP],[],0,0,.i64⟩),
  (253,⟨0,1,8,[.aP],[],0,0,.i64⟩),
  (254,⟨0,1,8,[.aP],[],0,0,.i64⟩),
  (255,⟨0,1,8,[.aP],[],0,0,.i64⟩),
  (256,⟨0,1,8,[.aP],[],0,0,.i64⟩),
  (257,⟨0,1,8,[.aP],[],0,0,.i64⟩),
  (258,⟨7,1,8,[.aa],[],260,0,.i64⟩),
  (259,⟨1,6,96,[.aa,.aa,.aJ,.int 0,.aJ,.aJ],[(0,1,false),(1,1,false),(2,1,false),(3,1,false),(4,1,false),(5,1,false)],0,0,.i64⟩),
  (260,⟨1,6,96,[.aa,.aa,.aJ,.int 0,.aJ,.aJ],[(0,1,false),(1,1,false),(2,1,false),(3,1,false),(4,1,false),(5,1,false)],0,0,.i64⟩),
  (261,⟨0,1,8,[.aP],[],0,0,.i64⟩),
  (262,⟨0,1,8,[.aP],[],0,0,.i64⟩),
  (263,⟨0,1,8,[.aP],[],0,0,.i64⟩),
  (264,⟨0,1,8,[.aP],[],0,0,.i64⟩),
  (265,⟨0,1,8,[.aP],[],0,0,.i64⟩),
  (266,⟨5,1,8,[.ik .u64 0],[],0,0,.u64⟩),
  (267,⟨0,1,8,[.aP],[],0,0,.i64⟩),
  (268,⟨0,1,8,[.aP],[],0,0,.i64⟩),
  (269,⟨0,1,8,[.aP],[],0,0,.i64⟩),
  (270,⟨7,1,8,[.aa],[],3,0,.i64⟩),
  (271,⟨0,1,8,[.aP],[],0,0,.i64⟩),
  (272,⟨0,1,8,[.aP],[],0,0,.i64⟩),
  (273,⟨3,20,160,[.ik .u64 0,.ik .u64 0,.ik .u64 0,.ik .u64 0,.ik .u64 0,.ik .u64 0,.ik .u64 0,.ik .u64 0,.ik .u64 0,.ik .u64 0,.ik .u64 0,.ik .u64 0,.ik .u64 0,.ik .u64 0,.ik .u64 0,.ik .u64 0,.ik .u64 0,.ik .u64 0,.ik .u64 0,.ik .u64 0],[],227,20,.i64⟩),
  (274,⟨3,65,65,[.ik .u8 0,.ik .u8 0,.ik .u8 0,.ik .u8 0,.ik .u8 0,.ik .u8 0,.ik .u8 0,.ik .u8 0,.ik .u8 0,.ik .u8 0,.ik .u8 0,.ik .u8 0,.ik .u8 0,.ik .u8 0,.ik .u8 0,.ik .u8 0,.ik .u8 0,.ik .u8 0,.ik .u8 0,.ik .u8 0,.ik .u8 0,.ik .u8 0,.ik .u8 0,.ik .u8 0,.ik .u8 0,.ik .u8 0,.ik .u8 0,.ik .u8 0,.ik .u8 0,.ik .u8 0,.ik .u8 0,.ik .u8 0,.ik .u8 0,.ik .u8 0,.ik .u8 0,.ik .u8 0,.ik .u8 0,.ik .u8 0,.ik .u8 0,.ik .u8 0,.ik .u8 0,.ik .u8 0,.ik .u8 0,.ik .u8 0,.ik .u8 0,.ik .u8 0,.ik .u8 0,.ik .u8 0,.ik .u8 0,.ik .u8 0,.ik .u8 0,.ik .u8 0,.ik .u8 0,.ik .u8 0,.ik .u8 0,.ik .u8 0,.ik .u8 0,.ik .u8 0,.ik .u8 0,.ik .u8 0,.ik .u8 0,.ik .u8 0,.ik .u8 0,.ik .u8 0,.ik .u8 0],[],5,65,.i64⟩),
  (275,⟨0,1,8,[.aP],[],0,0,.i64⟩),
  (277,⟨0,1,8,[.aP],[],0,0,.i64⟩),
  (278,⟨0,1,8,[.aP],[],0,0,.i64⟩),
  (279,⟨1,3,48,[.str BY,.str BY,.dj true],[(0,1,false),(1,1,false),(2,1,false)],0,0,.i64⟩),
  (280,⟨1,3,48,[.str BY,.str BY,.dj true],[(0,1,false),(1,1,false),(2,1,false)],0,0,.i64⟩),
  (281,⟨0,1,8,[.aP],[],0,0,.i64⟩),
  (283,⟨0,1,8,[.aP],[],0,0,.i64⟩),
  (284,⟨0,1,8,[.aP],[],0,0,.i64⟩),
  (285,⟨0,1,8,[.aP],[],0,0,.i64⟩),
  (286,⟨0,1,8,[.aP],[],0,0,.i64⟩),
  (287,⟨1,10,144,[.int 0,.int 0,.bool false,.aJ,.int 0,.int 0,.aJ,.aJ,.aJ,.int 0],[(0,1,false),(1,1,false),(2,1,false),(3,1,false),(4,2,true),(6,1,false),(7,1,false),(8,1,false),(9,1,false)],0,0,.i64⟩),
  (288,⟨1,10,144,[.int 0,.int 0,.bool false,.aJ,.int 0,.int 0,.aJ,.aJ,.aJ,.int 0],[(0,1,false),(1,1,false),(2,1,false),(3,1,false),(4,2,true),(6,1,false),(7,1,false),(8,1,false),(9,1,false)],0,1,.i64⟩),
  (289,⟨7,1,8,[.aa],[],288,0,.i64⟩),
  (290,⟨0,1,8,[.aP],[],0,0,.i64⟩),
  (291,⟨0,1,8,[.aP],[],0,0,.i64⟩),
  (292,⟨0,1,8,[.aP],[],0,0,.i64⟩),
  (293,⟨0,1,8,[.aP],[],0,0,.i64⟩),
  (294,⟨0,1,8,[.aP],[],0,0,.i64⟩),
  (295,⟨7,1,8,[.aa],[],159,0,.i64⟩),
  (296,⟨0,1,8,[.aP],[],0,0,.i64⟩),
  (297,⟨0,1,8,[.aP],[],0,0,.i64⟩),
  (298,⟨0,1,8,[.aP],[],0,0,.i64⟩),
  (299,⟨0,1,8,[.aP],[],0,0,.i64⟩),
  (300,⟨0,1,8,[.aP],[],0,0,.i64⟩),
  (301,⟨0,1,8,[.aP],[],0,0,.i64⟩),
  (302,⟨7,1,8,[.aa],[],266,0,.i64⟩),
  (303,⟨0,1,8,[.aP],[],0,0,.i64⟩),
  (304,⟨0,1,8,[.aP],[],0,0,.i64⟩),
  (305,⟨0,1,8,[.aP],[],0,0,.i64⟩),
  (306,⟨7,1,8,[.aa],[],308,0,.i64⟩),
  (307,⟨1,1,16,[.str BY],[(0,1,false)],0,0,.i64⟩),
  (308,⟨1,1,16,[.str BY],[(0,1,false)],0,0,.i64⟩),
  (309,⟨0,1,8,[.aP],[],0,0,.i64⟩),
  (310,⟨0,1,8,[.aP],[],0,0,.i64⟩),
  (311,⟨0,1,8,[.aP],[],0,0,.i64⟩),
  (312,⟨0,1,8,[.aP],[],0,0,.i64⟩),
  (313,⟨0,1,8,[.aP],[],0,0,.i64⟩),
  (314,⟨0,1,8,[.aP],[],0,0,.i64⟩),
  (315,⟨0,1,8,[.aP],[],0,0,.i64⟩),
  (316,⟨3,32,32,[.ik .u8 0,.ik .u8 0,.ik .u8 0,.ik .u8 0,.ik .u8 0,.ik .u8 0,.ik .u8 0,.ik .u8 0,.ik .u8 0,.ik .u8 0,.ik .u8 0,.ik .u8 0,.ik .u8 0,.ik .u8 0,.ik .u8 0,.ik .u8 0,.ik .u8 0,.ik .u8 0,.ik .u8 0,.ik .u8 0,.ik .u8 0,.ik .u8 0,.ik .u8 0,.ik .u8 0,.ik .u8 0,.ik .u8 0,.ik .u8 0,.ik .u8 0,.ik .u8 0,.ik .u8 0,.ik .u8 0,.ik .u8 0],[],5,32,.i64⟩),
  (317,⟨3,64,64,[.ik .u8 0,.ik .u8 0,.ik .u8 0,.ik .u8 0,.ik .u8 0,.ik .u8 0,.ik .u8 0,.ik .u8 0,.ik .u8 0,.ik .u8 0,.ik .u8 0,.ik .u8 0,.ik .u8 0,.ik .u8 0,.ik .u8 0,.ik .u8 0,.ik .u8 0,.ik .u8 0,.ik .u8 0,.ik .u8 0,.ik .u8 0,.ik .u8 0,.ik .u8 0,.ik .u8 0,.ik .u8 0,.ik .u8 0,.ik .u8 0,.ik .u8 0,.ik .u8 0,.ik .u8 0,.ik .u8 0,.ik .u8 0,.ik .u8 0,.ik .u8 0,.ik .u8 0,.ik .u8 0,.ik .u8 0,.ik .u8 0,.ik .u8 0,.ik .u8 0,.ik .u8 0,.ik .u8 0,.ik .u8 0,.ik .u8 0,.ik .u8 0,.ik .u8 0,.ik .u8 0,.ik .u8 0,.ik .u8 0,.ik .u8 0,.ik .u8 0,.ik .u8 0,.ik .u8 0,.ik .u8 0,.ik .u8 0,.ik .u8 0,.ik .u8 0,.ik .u8 0,.ik .u8 0,.ik .u8 0,.ik .u8 0,.ik .u8 0,.ik .u8 0,.ik .u8 0],[],5,64,.i64⟩),
  (319,⟨0,1,8,[.aP],[],0,0,.i64⟩),
  (320,⟨1,4,40,[.aa,.aa,.aa,.str BY],[(0,1,false),(1,1,false),(2,1,false),(3,1,false)],0,0,.i64⟩),
  (321,⟨1,4,40,[.aa,.aa,.aa,.str BY],[(0,1,false),(1,1,false),(2,1,false),(3,1,false)],0,0,.i64⟩),
  (322,⟨3,0,0,[],[],16,0,.i64⟩),
  (323,⟨1,0,0,[],[(0,0,true)],0,0,.i64⟩),
  (324,⟨1,0,0,[],[(0,0,true)],0,0,.i64⟩),
  (325,⟨5,1,1,[.ik .u8 0],[],0,0,.u8⟩),
  (326,⟨5,1,1,[.ik .u8 0],[],0,0,.u8⟩),
  (327,⟨0,1,8,[.aP],[],0,0,.i64⟩),
  (328,⟨5,1,4,[.ik .i32 0],[],0,0,.i32⟩),
  (329,⟨5,1,4,[.ik .i32 0],[],0,0,.i32⟩),
  (330,⟨1,11,48,[.ik .u64 0,.ik .u64 0,.ik .u32 0,.ik .u8 0,.ik .u8 0,.ik .u8 0,.ik .u8 0,.aP,.aa,.ik .i32 0,.ik .i32 0],[(0,1,false),(1,1,false),(2,1,false),(3,1,false),(4,1,false),(5,1,false),(6,1,false),(7,1,false),(8,1,false),(9,1,false),(10,1,false)],0,0,.i64⟩),
  (331,⟨1,11,48,[.ik .u64 0,.ik .u64 0,.ik .u32 0,.ik .u8 0,.ik .u8 0,.ik .u8 0,.ik .u8 0,.aP,.aa,.ik .i32 0,.ik .i32 0],[(0,1,false),(1,1,false),(2,1,false),(3,1,false),(4,1,false),(5,1,false),(6,1,false),(7,1,false),(8,1,false),(9,1,false),(10,1,false)],0,0,.i64⟩)]
def eg : M9 prog tab:=M9.of (by kernel_rfl)
def eC : eK :=
 (156,[.int .i64,.str,.int .i64]) ::
 (167,[.int .i64,.int .i64]) ::
 (29,[.int .i64,.int .i64]) ::
 (88,[.int .i64,.int .i64]) ::
 (151,[.int .i64,.int .i64,.int .i64,.int .i64]) ::
 (51,[.int .i64,.int .i64,.int .i64,.int .i64]) ::
 (55,[.int .i64,.int .i64,.int .i64,.int .i64,.str]) ::
 []
def vA : fw prog eC:=fw.of C8
def mixed : prog.follows .mixedOrders=true:=C8
def go {a:Z7} {n:Nat} (b:a.n=n) {c:Code} {ts:Ts} {os:Os} {Q:Qt} (h:fM prog tab eC a n c ts os Q):j6 prog a c ts os Q:=by
 subst b;exact yl eg vA c ts os Q h
def H6 {a:Z7} {n:Nat} (b:a.n=n) {x y:Code} {ts:Ts} {os:Os} {Q:Qt} (h:fM prog tab eC a n (.seq x y) ts os Q):j6 prog a (.seq x y) ts os Q:=go b h
def M4 {a:Z7} {n:Nat} (b:a.n=n) {id:Nat} {l:Array Oper} {ts:Ts} {os:Os} {Q:Qt} (h:fM prog tab eC a n (.region id l false) ts os Q):j6 prog a (.region id l false) ts os Q:=go b h
def O1 {a:Z7} {n:Nat} (b:a.n=n) {id:Nat} {x:Code} {ts:Ts} {os:Os} {Q:Qt} (h:fM prog tab eC a n (.block id x) ts os Q):j6 prog a (.block id x) ts os Q:=go b h
def M3 {a:Z7} {n:Nat} (b:a.n=n) {c:Operand} {x y:Code} {ts:Ts} {os:Os} {Q:Qt} (h:fM prog tab eC a n (.cond c x y) ts os Q):j6 prog a (.cond c x y) ts os Q:=go b h
def M0 {a:Z7} {n:Nat} (b:a.n=n) {id:Nat} {ts:Ts} {os:Os} {Q:Qt} (h:fM prog tab eC a n (.exit id) ts os Q):j6 prog a (.exit id) ts os Q:=go b h
def K7 {a:Z7} {n:Nat} (b:a.n=n) {ts:Ts} {os:Os} {Q:Qt} (h:fM prog tab eC a n .skip ts os Q):j6 prog a .skip ts os Q:=go b h
def ao {a:Z7} {n:Nat} (b:a.n=n) {ts:Ts} {os:Os} {Q:Qt} (h:fM prog tab eC a n .ret ts os Q):j6 prog a .ret ts os Q:=go b h
def tY {a:Z7} {n:Nat} (b:a.n=n) {id:Nat} {l:Array Oper} (hd:ee l.toList=true) {ts:Ts} {os:Os} {Q:Qt} (h:fa ts fun ts=>iX prog tab eC n l.toList 0 l.toList ts os [] (Q .normal)):j6 prog a (.region id l true) ts os Q :=
 j6.draw eg vA b mixed hd h
def Hp (a ms:Nat) {b:Z7} {n:Nat} (c:b.n=n) {id:Nat} {l:Array Oper} (hd:ee l.toList=true) {ts:Ts} {os:Os} {Q:Qt} (h:fa ts fun ts=>iY prog tab eC n l.toList a ms 0 l.toList ts os [] none (Q .normal)):j6 prog b (.region id l true) ts os Q :=
 j6.tU eg vA c mixed hd a ms h
def jv {a:Z7} {n:Nat} (b:a.n=n) (k:Nat) {ops l:List Oper} {ts:Ts} {os:Os} {Q:Qt} (h:fa ts fun ts=>jt prog tab eC n ops (l.take k) ts os fun ts os=>cY prog a ops (l.drop k) ts os Q):cY prog a ops l ts os Q :=
 cY.chunk eg vA b k h
def xf {k n:Nat} (h:k<n) (a:n<=maxLen):I5 ((k:Int)+1):=by simp only[maxLen] at a;exact⟨d9,d9⟩
abbrev Fit (n B:Nat):Prop:=n*B<=140737488355328
abbrev wr (n:Int):Int:=IntKind.i64.wrap n
def q9 {n:Int} (h:I5 n):wr n=n:=IntWalk.i64_in n h
def IZ (a:AV):tb a a:=by
 cases a<;>simp only[tb]<;>first|exact sF _|exact xy _
theorem Bv : ∀l:List AV,d51 l l
 |[]=>trivial
 |a::l=>⟨IZ a,Bv l⟩
def Ja (a:AV):mN a a:=by
 cases a<;>simp only[mN]<;>first|exact sF _|exact Bv _|exact xy _
theorem kF : ∀{l l':List AV},l=l'->dU l l'
 |[],_,rfl=>trivial
 |a::l,_,rfl=>⟨Ja a,kF rfl⟩
def zA (a b:St):cz [.int a.cls,.str a.name,.int a.pos] [.int b.cls,.str b.name,.int b.pos]=decide (a=b):=by
 obtain⟨c,d,e⟩:=a;obtain⟨f,g,h⟩:=b;by_cases i:c=f<;>by_cases j:d=g<;>by_cases k:e=h<;>simp[cz,qc,i,j,k]
def Hi (a b:Ln):cz [.int a.cls,.int a.found] [.int b.cls,.int b.found]=decide (a=b):=by
 obtain⟨c,d⟩:=a;obtain⟨e,f⟩:=b;by_cases g:c=e<;>by_cases h:d=f<;>simp[cz,qc,g,h]
def Lk (a b:V):cz [.int a.k,.int a.n] [.int b.k,.int b.n]=decide (a=b):=by
 obtain⟨c,d⟩:=a;obtain⟨e,f⟩:=b;by_cases g:c=e<;>by_cases h:d=f<;>simp[cz,qc,g,h]
def LM (a b:Ins):cz [.int a.op,.int a.a,.int a.b,.int a.c,.str a.name] [.int b.op,.int b.a,.int b.b,.int b.c,.str b.name]=decide (a=b):=by
 obtain⟨d,e,f,g,h⟩:=a;obtain⟨i,j,k,l,m⟩:=b;by_cases n:d=i<;>by_cases o:e=j<;>by_cases p:f=k<;>by_cases q:g=l<;>by_cases r:h=m<;>simp[cz,qc,n,o,p,q,r]
inductive H9 (ρ σ:Type):Type where
 |ret (r:ρ)
 |next (s:σ)
def j4 {α:Type} (l:List α) (i:Int):Option α:=bif decide (0<=i) then l[i.toNat]? else none
def mA (s:ByteArray) (i:Int):Option UInt8:=bif decide (0<=i) then s[i.toNat]? else none
def l6 {α:Type} {l:List α} {i:Int} {x:α} (h:j4 l i=some x):0<=i/\l[i.toNat]?=some x:=by
 unfold j4 at h;by_cases a:0<=i
 ·rw[N6 a] at h;exact⟨a,h⟩
 ·rw[N5 a] at h;cases h
def D7 {α:Type} (l:List α) (k:Nat):j4 l (k:Int)=l[k]?:=by
 unfold j4;rw[N6 (Int.natCast_nonneg k)];rfl
def fU {α:Type} {l:List α} {i:Int} {x:α} (h:j4 l i=some x):0<=i/\i<l.length:=by
 obtain⟨a,b⟩:=l6 h;have:=(ME.1 b).1;exact⟨a,d9⟩
def N7 {α b:Type} {x:Option α} {f:α->Option b} {r:b} (h:x.bind f=some r):∃a,x=some a/\f a=some r:=by
 cases x with
 |none=>cases h
 |some a=>exact⟨a,rfl,h⟩
def LW {a:Type} {b:Bool} {x y:Option a} {r:a} (h:(bif b then x else y)=some r) {X Y:Prop} (c:b=true->x=some r->X) (d:b=false->y=some r->Y):iO.match_1 (motive:=fun _ _ _=>Prop) b X Y (fun X _=>X) (fun _ Y=>Y):=by
 cases b
 ·exact d rfl h
 ·exact c rfl h
def d13 {b:Bool} {X Y:Prop} (a:b=true) (c:X):iO.match_1 (motive:=fun _ _ _=>Prop) b X Y (fun X _=>X) (fun _ Y=>Y):=by subst a;exact c
def nu {b:Bool} {X Y:Prop} (a:b=false) (c:Y):iO.match_1 (motive:=fun _ _ _=>Prop) b X Y (fun X _=>X) (fun _ Y=>Y):=by subst a;exact c
def j7 {a:Type} {b:Bool} {x:Option a} {r:a} (h:(bif b then x else none)=some r):b=true/\x=some r:=by
 cases b
 ·cases h
 ·exact⟨rfl,h⟩
def mD (p:ByteArray×Bool):AV×AV:=(.str p.1,.bool p.2)
def fe {α:Type} [DecidableEq α] (k:α):List (α×Bool)->Bool
 |[]=>false
 |p::l=>if k=p.1 then p.2 else fe k l
def eM {α:Type} [DecidableEq α] (k:α) (b:Bool):List (α×Bool)->List (α×Bool)
 |[]=>[(k,b)]
 |p::l=>if k=p.1 then(k,b)::l else p::eM k b l
theorem xd {α:Type} [DecidableEq α] (k:α) (b:Bool):∀l:List (α×Bool),(eM k b l).length<=l.length+1
 |[]=>It _
 |p::l=>by
  rw[eM];split
  ·simp
  ·simpa using xd k b l
theorem yW {α:Type} [DecidableEq α] {f:α->AV} (c:∀a b,qM (f a) (f b)=some (decide (a=b))) (k:α) (b:Bool):∀(l:List (α×Bool)) (i:Nat),∃r,iy (f k) (l.map fun p=>(f p.1,.bool p.2)) i=some r /\
  (match r with|none=>AV.bool false|some p=>p.2)=.bool (fe k l)/\∀pre:List (AV×AV),pre.length=i->mC (f k) (.bool b) (pre++l.map fun p=>(f p.1,.bool p.2)) r=pre++(eM k b l).map fun p=>(f p.1,.bool p.2)
 |[],i=>⟨none,rfl,rfl,fun pre _=>by simp[mC,eM]⟩
 |p::l,i=>by
  obtain⟨r,e,g,j⟩:=yW c k b l (i+1);by_cases h:k=p.1
  ·refine⟨some (i,.bool p.2),by simp[iy,c,h],by simp[fe,h],fun pre d=>?_⟩;subst d;simp[mC,eM,h]
  ·refine⟨r,by simp[iy,c,h,e],by simp only[fe,N1 h];exact g,fun pre d=>?_⟩;have:=j (pre++[(f p.1,.bool p.2)]) (by simp[d]);simp only[eM,N1 h,MS,MV,List.singleton_append] at this⊢;exact this
def La {m:List (ByteArray×Bool)} {k:ByteArray} {A B C D:Prop} (a:A) (b:B) (c:C) (d:D) {K:AV->Prop} (H:K (.bool (fe k m))) :
  A/\B/\C/\D/\∃r,iy (.str k) (m.map mD) 0=some r/\∀q,q=(match r with|none=>AV.bool false|some p=>p.2)->K q:=by
 obtain⟨r,e,g,_⟩:=yW (f:=AV.str) (fun _ _=>rfl) k false m 0;exact⟨a,b,c,d,r,e,fun q h=>by rw[h,g];exact H⟩
def Hl {m:List (ByteArray×Bool)} {k:ByteArray} {v:Bool} {A B:Prop} (a:A) (b:B) (g:IN (m.length+1) 140737488355328=true) {K:List (AV×AV)->Prop} (H:K ((eM k v m).map mD)) :
  A/\B/\∃r,iy (.str k) (m.map mD) 0=some r/\(mC (.str k) (.bool v) (m.map mD) r).length<=maxLen/\∀q,q=mC (.str k) (.bool v) (m.map mD) r->K q:=by
 obtain⟨r,d,_,c⟩:=yW (f:=AV.str) (fun _ _=>rfl) k v m 0;have c:=c [] rfl;have e:mC (.str k) (.bool v) (m.map mD) r=(eM k v m).map mD:=c;refine⟨a,b,r,d,?_,fun q h=>by rw[h,e];exact H⟩;rw[e,MW];have:=xd k v m;have:=MZ g;simp only[maxLen];omega
section
variable {α:Type} {enc:α->List AV}
def J2 {l:List α} {K:Nat->Prop} (H:l.length<=maxLen->K l.length):∀n:Nat,n=(l.map enc).length->n<=maxLen->K n:=fun n e h=>by
 rw[MW] at e;subst e;exact H h
def G6 {l:List α} {i:Int} {x:α} (h:j4 l i=some x) {K:List AV->Prop} (H:K (enc x)):0<=i/\i<((l.map enc).length:Int)/\∀a,(l.map enc)[i.toNat]?=some a->cK a->K a:=by
 obtain⟨c,d⟩:=l6 h;refine⟨c,by rw[MW];exact(fU h).2,fun a b _=>?_⟩;rw[Mj,d] at b;cases b;exact H
def P9 {l:List α} {k:Nat} {x:α} (h:l[k]?=some x) {K:List AV->Prop} (H:K (enc x)):0<=(k:Int)/\(k:Int)<((l.map enc).length:Int)/\∀a,(l.map enc)[k]?=some a->cK a->K a :=
 G6 (i:=(k:Int)) (by rw[D7];exact h) H
def bT {l:List α} {i:Int} {x:α} (h:j4 l i=some x) {K:Prop} (H:K):0<=i/\i<((l.map enc).length:Int)/\K :=
 ⟨(l6 h).1,by rw[MW];exact(fU h).2,H⟩
def V8 {l:List α} {i:Nat} {x:α} (h:l[i]?=some x) {K:List AV->Prop} (H:K (enc x)):i<(l.map enc).length/\∀a,(l.map enc)[i]?=some a->K a:=by
 refine⟨by rw[MW];exact(ME.1 h).1,fun a b=>?_⟩;rw[Mj,h] at b;cases b;exact H
def D0 {l:List α} {i:Nat} {x c:α} {b:List AV} (h:l[i]?=some x) (d:iQ b (enc c)):bt ((l.map enc).set i b) ((l.set i c).map enc):=by
 induction l generalizing i with
 |nil=>simp at h
 |cons a l ih =>
  cases i with
  |zero=>exact⟨d,O4 _⟩
  |succ i=>exact⟨sF _,ih (by simpa using h)⟩
def Is {ls c q d:List (List AV)} (h:bt ls q) (e:bt c d):bt (ls++c) (q++d):=by
 induction ls generalizing q with
 |nil=>cases q with
  |nil=>exact e
  |cons=>exact h.elim
 |cons a ls ih=>cases q with
  |nil=>exact h.elim
  |cons b q=>exact⟨h.1,ih h.2⟩
def sV {l l2:List α} {a:List (List AV)} (b:bt a (l2.map enc)):bt (l.map enc++a) ((l++l2).map enc):=by
 rw[List.map_append];exact Is (O4 _) b
def JI {n:Nat} {z:List AV} {x:α} (h:iQ z (enc x)):bt (MI n z) ((MI n x).map enc):=by
 induction n with
 |zero=>trivial
 |succ n ih=>exact⟨h,ih⟩
def EC {l l2:List α} {a:List (List AV)} {B C:Nat} (d:IN ((l.length+l2.length)*B) C=true) (b:bt a (l2.map enc)) {K:List (List AV)->Prop} (H:K ((l++l2).map enc)) :
  ((l.map enc).length+a.length)*B<=C/\∃q,bt (l.map enc++a) q/\K q:=by
 have c:=(yV b).1;rw[MW] at c;refine⟨?_,_,sV b,H⟩;rw[MW,c];exact MZ d
def Hy {α:Type} {enc:α->List AV} (l:List α) (n:Nat):bt ((l.map enc).drop n) ((l.drop n).map enc):=by
 rw[List.map_drop];exact O4 _
def kj {a:Int} {B:Int} {z:List AV} {x:α} (b:(decide (0<=a) && decide (a<=140737488355328) && decide (a*B<=140737488355328))=true) (c:iQ z (enc x)) {K:List (List AV)->Prop} (H:K ((MI a.toNat x).map enc)) :
  a=a/\0<=a/\a<=140737488355328/\a*B<=140737488355328/\∃q,bt (MI a.toNat z) q/\K q:=by
 simp only[IT,NA] at b;exact⟨rfl,b.1.1,b.1.2,b.2,_,JI c,H⟩
def jr {l:List α} {b:Int} {X Y:Prop} (a:(decide (0<=b) && decide (b<=(l.length:Int)))=true) (c:X) (d:Y) {K:List (List AV)->Prop} (H:K ((l.take b.toNat).map enc)) :
  X/\Y/\0<=b/\b<=((l.map enc).length:Int)/\∀q,q=(l.map enc).take b.toNat->K q:=by
 simp only[IT,NA] at a;refine⟨c,d,a.1,by rw[MW];exact a.2,fun q e=>?_⟩;rw[e,<-List.map_take];exact H
def LA {l:List α} {b:Int} {X Y c:Prop} (a:(decide (0<=b) && decide (b<=(l.length:Int)))=true) (d:X) (g:Y) {K:List (List AV)->Prop} (H:K ((l.drop b.toNat).map enc)) :
  X/\Y/\0<=b/\b<=((l.map enc).length:Int)/\(c\/∀q,q=(l.map enc).drop b.toNat->K q):=by
 simp only[IT,NA] at a;refine⟨d,g,a.1,by rw[MW];exact a.2,.inr fun q e=>?_⟩;rw[e,<-List.map_drop];exact H
def d41 {l:List α} {b:Int} {X Y c K:Prop} (a:(decide (0<=b) && decide (b<=(l.length:Int)))=true) (d:X) (e:Y) (H:c) :
  X/\Y/\0<=b/\b<=((l.map enc).length:Int)/\(c\/K):=by
 simp only[IT,NA] at a;exact⟨d,e,a.1,by rw[MW];exact a.2,.inl H⟩
end
def uw {s:ByteArray} {i:Int} {u:UInt8} (h:mA s i=some u) {K:UInt8->Prop} (H:K u):0<=i/\i<(s.size:Int)/\∀u,s[i.toNat]?=some u->K u:=by
 unfold mA at h;by_cases a:0<=i
 ·rw[N6 a] at h;have h:s[i.toNat]?=some u:=h;have hl:i.toNat<s.size:=by
   rcases Nat.lt_or_ge i.toNat s.size with b|b
   ·exact b
   ·rw[getElem?_neg s i.toNat d9] at h;cases h
  exact⟨a,d9,fun d c=>by rw[h] at c;cases c;exact H⟩
 ·rw[N5 a] at h;cases h
def Hv {a b:Int} (c:0<b) (e:b<=4611686018427387904) {K:Prop} (H:K):b≠0/\I5 (a.tmod b)/\K:=by
 refine⟨d9,?_,H⟩;unfold I5;have g:=Int.tmod_lt_of_pos a c;have d:=Int.tmod_lt_of_pos (-a) c;rw[Int.neg_tmod] at d;omega
def Ht {l:List Int} {s:ByteArray} {C:Nat} (a:IN (l.length+s.size) C=true) {K:List (List AV)->Prop} (H:K ((l++eX s).map fun n=>[AV.ik .u8 n])) :
  (l.map fun n=>[AV.ik .u8 n]).length+s.size<=C/\∃q,bt (l.map (fun n=>[AV.ik .u8 n])++(eX s).map fun n=>[AV.ik .u8 n]) q/\K q :=
 ⟨by rw[MW];exact MZ a,_,O4 _,by rw[<-List.map_append];exact H⟩
def yx {p:Prop} [Decidable p] (h:decide p=true) {K:Prop} (H:K):p/\K:=⟨of_decide_eq_true h,H⟩
def KT {α:Type} {l:List α} {k:Nat} (h:[]=l.drop k):decide ((k:Int)<(l.length:Int))=false:=by
 have:=List.drop_eq_nil_iff.1 h.symm;exact N5 d9
def eE {α:Type} {l r:List α} {k:Nat} {x:α} (h:x::r=l.drop k):l[k]?=some x/\r=l.drop (k+1)/\decide ((k:Int)<(l.length:Int))=true:=by
 have a:(l.drop k)[0]?=some x:=by rw[<-h];rfl
 rw[Mm] at a;have a:l[k]?=some x:=a;refine⟨a,?_,N6 (by have:=(ME.1 a).1;omega)⟩;have:=congrArg List.tail h;rw[List.tail_drop] at this;exact this
def M7 {α:Type} {l:List α} {k:Nat} {x:α} (h:l[k]?=some x) (hl:l.length<=maxLen):I5 ((k:Int)+1):=xf (ME.1 h).1 hl
def LN {n:Int} {k:Nat} (h:0=(n-k).toNat):decide ((k:Int)<n)=false:=N5 d9
def Dr {n:Int} {k m:Nat} (h:m+1=(n-k).toNat):m=(n-((k+1:Nat):Int)).toNat/\decide ((k:Int)<n)=true:=⟨d9,N6 d9⟩
def jc {n:Int} {k:Nat} (h:decide ((k:Int)<n)=true) (a:cK [.int n]):I5 ((k:Int)+1):=by
 have h:=of_decide_eq_true h;have a:I5 n:=a.1;exact⟨d9,by have:=a.2;omega⟩
section
variable {P:Program} {Γ:Z7}
theorem j6.AI {c:Code} {ts:Ts} {os:Os} {Q:Qt} {id:Nat} (h:j6 P Γ c ts os fun e d b=>match e with
  |.normal=>Q .normal d b
  |.exit k=>match AT k id with
   |true=>Q .normal d b
   |false=>Q (.exit k) d b
  |.ret=>Q .ret d b):j6 P Γ (.block id c) ts os Q:=by
 refine⟨fun a w r=>wp_block (wp_mono (h.run a w r) fun e s w' ⟨ex,d,b,n,g,l⟩=>?_)⟩
 match e,ex,n,g with
 |.normal,.normal,_,g=>exact⟨.normal,d,b,trivial,g,l⟩
 |.exit i,.exit j,n,g =>
  have o:i=j:=n;subst o;simp only at g;split at g
  ·rename_i m;have q:=MN m;simp only[Exit.inBlock,N2 q];exact⟨.normal,d,b,trivial,g,l⟩
  ·rename_i m;have p:¬i=id:=fun e=>by rw[e] at m;simp at m
   simp only[Exit.inBlock,N1 p];exact⟨.exit i,d,b,rfl,g,l⟩
 |.ret,.ret,_,g=>exact⟨.ret,d,b,trivial,g,l⟩
theorem j6.oX {x y:Code} {ts:Ts} {os:Os} {Q:Qt} (h:∀a:Qt,(∀ts os,j6 P Γ y ts os Q->a .normal ts os)->(∀id ts os,Q (.exit id) ts os->a (.exit id) ts os)->(∀ts os,Q .ret ts os->a .ret ts os)->j6 P Γ x ts os a):j6 P Γ (.seq x y) ts os Q :=
 j6.seq (h _ (fun _ _ h=>h) (fun _ _ _ h=>h) (fun _ _ h=>h))
theorem j6.sa {c:Code} {ts:Ts} {os:Os} {Q:Qt} {b:Nat} (h:∀a:Qt,(∀ts os,Q .normal ts os->a .normal ts os)->(∀ts os,Q .normal ts os->a (.exit b) ts os)->(∀id ts os,AT id b=false->Q (.exit id) ts os->a (.exit id) ts os)->(∀ts os,Q .ret ts os->a .ret ts os)->j6 P Γ c ts os a):j6 P Γ (.block b c) ts os Q :=
 j6.AI (h _ (fun _ _ h=>h) (fun _ _ h=>by simpa using h) (fun id _ _ d h=>by simp only[d];exact h) (fun _ _ h=>h))
def JQ {ι:Type} (St:ι->Ts) (a:ι->Os) (p:ι->Prop):Qt:=fun _ ts os=>∃i b,p i/\dT ts os (St i) (a i) b
theorem j6.gQ {ι:Type} (St:ι->Ts) (k:ι->Os) {c:Code} {ts:Ts} {os:Os} {Q:Qt} (h:∀j:Qt,(∀d b,X6 Γ d b (JQ St k fun _=>True)->j .normal d b)->(∀id ts os,Q (.exit id) ts os->j (.exit id) ts os)->(∀ts os,Q .ret ts os->j .ret ts os)->j6 P Γ c ts os j)
  (s:∀i,((St i).all fun p=>MX p.1 Γ.n)=true) (q:∀i,Q .normal (St i) (k i)):j6 P Γ c ts os Q :=
by
 have h:=h (fun e d b=>match e with
  |.normal=>X6 Γ d b (JQ St k fun _=>True)
  |.exit id=>Q (.exit id) d b
  |.ret=>Q .ret d b) (fun _ _ h=>h) (fun _ _ _ h=>h) (fun _ _ h=>h)
 refine⟨fun a w t=>wp_mono (h.run a w t) fun e o w' ⟨ex,d,b,l,g,m⟩=>?_⟩;cases ex with
 |normal =>
  obtain⟨x,v,⟨i,y,_,u⟩,r⟩:=X6.run g o w' m;exact⟨.normal,_,_,l,q i,u.rel (s i) r⟩
 |exit id=>exact⟨.exit id,d,b,l,g,m⟩
 |ret=>exact⟨.ret,d,b,l,g,m⟩
def d55 : Ts->Ts->Prop
 |[],_=>True
 |(t,a)::r,ts=>lk ts t=some a/\d55 r ts
theorem AL {ts:Ts}:∀{a:Ts},d55 a ts->∀t x,lk a t=some x->lk ts t=some x
 |(k,y)::r,h,t,x,hl=>by
  rw[l8] at hl;split at hl
  ·rename_i e;subst e;cases hl;exact h.1
  ·exact AL h.2 t x hl
theorem E5.ab {ts h:Ts} {os g:Os} {a:Act} {w:World} (p:d55 h ts) (n:jh g os) (r:E5 Γ ts os a w):E5 Γ h g a w:=by
 obtain⟨c,⟨i,j,k,l,d⟩,m⟩:=r;have e:=sG n;exact⟨c,⟨i,j,fun t x hl=>k t x (AL p t x hl),l.sub e,⟨d.cX,d.tape,d.output,d.size,d.aq,d.ak,d.ab,fun id o b hl q=>d.az _ _ b (e id o hl) q⟩⟩,m⟩
def fm {tab:R9} {b:List ResultVar} {ts:Ts} {os:Os} {av:AV} {upd:Os} {news:List Nat} {a:List (Nat×Nat)} {r:List AV} (c:oC tab ts os b=some r:=by rfl) (d:mN (zC r) (av.bX (rn a)):=by repeat (first|exact trivial|exact rfl|(refine AN ?_ ?_))) (e:qT (rn a) os upd:=by repeat (first|exact trivial|exact rfl|(refine AN ?_ ?_)))
  (g:tT (rn a) upd=true:=by rfl) (h:d19 a=true:=by rfl) (j:(upd.all fun p=>news.elem p.1 || IN Go.Proofs.YtibjcppjfkamhaaGreatDoor.top p.1)=true:=by rfl) (k:(av.ids.all fun i=>(lk upd i).isSome || IN Go.Proofs.YtibjcppjfkamhaaGreatDoor.top i)=true:=by rfl)
  (l:(upd.all fun p=>p.2.ids.all fun i=>(lk upd i).isSome || IN Go.Proofs.YtibjcppjfkamhaaGreatDoor.top i)=true:=by rfl):Fin tab b ts os av upd news a r:=⟨c,d,e,g,h,j,k,l⟩
section
variable {os:Os} {K:Kt} {f:Nat} {ins ins':List AV} {need upd:Os} {news:List Nat} {av:AV}
def cA (h:Spec P f need ins' av upd news) (b:K av (need.map (·.1)) news upd) (a:dU ins ins':=by repeat (first|exact trivial|exact rfl|(refine AN ?_ ?_))) (d:jh need os:=by repeat (first|exact trivial|exact rfl|(refine AN ?_ ?_))) (c:(need.all fun p=>kI news p.2.ids)=true:=by rfl):L9 P f ins os K:=L9.a_ h a d c b
def cF (h:Spec P f need ins' av upd news) (b:K av (((ch os ins).2++need).map (·.1)) news (upd++I7 (ch os ins).2)) (a:dU (ch os ins).1 ins':=by repeat (first|exact trivial|exact rfl|(refine AN ?_ ?_))) (d:jh need os:=by repeat (first|exact trivial|exact rfl|(refine AN ?_ ?_))) (hd:(need.all fun p=>(lk (ch os ins).2 p.1).isNone)=true:=by rfl)
  (c:(need.all fun p=>kI news p.2.ids)=true:=by rfl):L9 P f ins os K:=L9.fz h a d hd c b
def cD (h:Spec P f [] ins' av [] []) (b:K av ((cV os ins).2.map (·.1)) [] []) (a:dU (cV os ins).1 ins':=by repeat (first|exact trivial|exact rfl|(refine AN ?_ ?_))) (c:nz av=true:=by rfl):L9 P f ins os K:=L9.tf h a c b
def vE (h:Spec P f [] ins' av upd news) (d:lu upd) (b:K av ((cV os ins).2.map (·.1)) news upd) (a:dU (cV os ins).1 ins':=by repeat (first|exact trivial|exact rfl|(refine AN ?_ ?_))) (c:qR av=true:=by rfl):L9 P f ins os K:=L9.tg h a c d b
end
theorem j6.jJ {ι:Type} (St:ι->Ts) (l:ι->Os) (m:ι->Nat) {c:Code} {ts:Ts} {os:Os} {Q:Qt} (v:ι) (E:List (Nat×Nat)) (J:dT ts os (St v) (l v) E) (H:∀i,((St i).all fun p=>MX p.1 Γ.n)=true)
  (R:∀i,∀t:Qt,(∀d b,X6 Γ d b (JQ St l fun j=>m j<m i)->t .normal d b)->(∀id ts os,Q (.exit id) ts os->t (.exit id) ts os)->(∀ts os,Q .ret ts os->t .ret ts os)->j6 P Γ c (St i) (l i) t):j6 P Γ (.loop c) ts os Q:=by
 have D:∀i,j6 P Γ c (St i) (l i) fun e d b=>match e with
   |.normal=>X6 Γ d b (JQ St l fun j=>m j<m i)
   |.exit id=>Q (.exit id) d b
   |.ret=>Q .ret d b:=fun i=>R i _ (fun _ _ h=>h) (fun _ _ _ h=>h) (fun _ _ h=>h)
 refine⟨fun a w r=>?_⟩;let I:Act->World->Prop:=fun a w=>∃i,E5 Γ (St i) (l i) a w;have A:I a w:=⟨v,J.rel (H v) r⟩;have o:∀a w,∃n,I a w->(∃i,m i=n/\E5 Γ (St i) (l i) a w)/\∀i,E5 Γ (St i) (l i) a w->n<=m i:=by
  intro a w;by_cases u:I a w
  ·obtain⟨i,hi⟩:=u;obtain⟨n,⟨j,G,z⟩,L⟩:=exists_least (p:=fun n=>∃i,m i=n/\E5 Γ (St i) (l i) a w) ⟨m i,i,rfl,hi⟩;exact⟨n,fun _=>⟨⟨j,G,z⟩,fun k N=>L (m k) ⟨k,rfl,N⟩⟩⟩
  ·exact⟨0,fun h=>absurd h u⟩
 refine wp_loop I (fun a w=>Classical.choose (o a w)) A fun a w u=>?_;obtain⟨⟨i,G,z⟩,_⟩:=Classical.choose_spec (o a w) u;refine wp_mono ((D i).run a w z) fun e F w' ⟨ex,d,b,C,q,g⟩=>?_
 match e,ex,C,q with
 |.normal,.normal,_,q =>
  obtain⟨T,S,⟨j,U,O,s⟩,M⟩:=X6.run q F w' g;have B:=s.rel (H j) M;refine⟨⟨j,B⟩,?_⟩;have:=(Classical.choose_spec (o F w') ⟨j,B⟩).2 j B;omega
 |.exit x,.exit y,C,q=>exact⟨.exit y,d,b,C,q,g⟩
 |.ret,.ret,_,q=>exact⟨.ret,d,b,trivial,q,g⟩
def aT {P:Prop} (h:P:=by repeat (first|exact trivial|exact rfl|(refine AN ?_ ?_))):P:=h
def oI {α:Type} {a b:α} (h:some a=some b):a=b:=Option.some.inj h
mutual
def AV.kc (id sz:Nat) (ls:List (List AV)):AV->AV
 |.aK j=>bif AT j id then .sl sz ls else .aK j
 |.fn f b=>.fn f (AV.cW id sz ls b)
 |.agg b=>.agg (AV.cW id sz ls b)
 |.aZ b=>.aZ (AV.cW id sz ls b)
 |a=>a
def AV.cW (id sz:Nat) (ls:List (List AV)):List AV->List AV
 |[]=>[]
 |a::l=>a.kc id sz ls::AV.cW id sz ls l
end
mutual
theorem Rd.kc {c c':Ctx} {w:World} {id sz:Nat} {ls:List (List AV)} (b:∀v a,Rd c w v a->Rd c' w v a) (g:∀v,Rd c w v (.aK id)->Rd c' w v (.sl sz ls)):∀(a:AV) {v:Value},Rd c w v a->Rd c' w v (a.kc id sz ls)
 |.aK j,v,h=>by
  unfold AV.kc;cases i:AT j id
  ·exact b _ _ h
  ·have:=MN i;subst this;exact g v h
 |.fn f d,v,h=>by
  obtain⟨us,rfl,e⟩:=h.qd;exact .fn (w9.cW b g d e)
 |.agg d,v,h=>by
  obtain⟨us,rfl,e⟩:=h.cU;exact .agg (w9.cW b g d e)
 |.aZ d,v,h=>by
  obtain⟨us,rfl,e⟩:=h.fo;exact .aZ (w9.cW b g d e)
 |.any,_,h=>b _ _ h
 |.int _,_,h=>b _ _ h
 |.ik _ _,_,h=>b _ _ h
 |.bool _,_,h=>b _ _ h
 |.str _,_,h=>b _ _ h
 |.sl _ _,_,h=>b _ _ h
 |.ptr _ _,_,h=>b _ _ h
 |.fp _,_,h=>b _ _ h
 |.dW _ _,_,h=>b _ _ h
 |.dQ _ _ _,_,h=>b _ _ h
 |.ep _ _ _ _,_,h=>b _ _ h
 |.aJ,_,h=>b _ _ h
 |.fL _,_,h=>b _ _ h
 |.aa,_,h=>b _ _ h
 |.aP,_,h=>b _ _ h
 |.mp _,_,h=>b _ _ h
 |.cI _,_,h=>b _ _ h
 |.np _,_,h=>b _ _ h
 |.dj _,_,h=>b _ _ h
 |.aU _,_,h=>b _ _ h
theorem w9.cW {c c':Ctx} {w:World} {id sz:Nat} {ls:List (List AV)} (e:∀v a,Rd c w v a->Rd c' w v a) (d:∀v,Rd c w v (.aK id)->Rd c' w v (.sl sz ls)):∀(b:List AV) {vs:List Value},w9 c w vs b->w9 c' w vs (AV.cW id sz ls b)
 |[],_,.nil=>.nil
 |a::b,_,.cons h t=>.cons (Rd.kc e d a h) (w9.cW e d b t)
end
def Obj.ER (id sz:Nat) (ls:List (List AV)):Obj->Obj
 |.box a e=>.box (AV.cW id sz ls a) e
 |o=>o
def kZ (id sz:Nat) (ls:List (List AV)):Ts->Ts
 |[]=>[]
 |(t,a)::r=>(t,a.kc id sz ls)::kZ id sz ls r
def jB (id sz:Nat) (ls:List (List AV)):Os->Os
 |[]=>[]
 |(k,o)::r=>(k,o.ER id sz ls)::jB id sz ls r
theorem wj (id sz:Nat) (ls:List (List AV)) (t:Nat):∀ts:Ts,lk (kZ id sz ls ts) t=(lk ts t).map (AV.kc id sz ls)
 |[]=>rfl
 |(k,a)::r=>by
  rw[kZ,l8,l8,wj id sz ls t r];split<;>rfl
theorem yY (id sz:Nat) (ls:List (List AV)) (t:Nat):∀ts:Os,lk (jB id sz ls ts) t=(lk ts t).map (Obj.ER id sz ls)
 |[]=>rfl
 |(k,a)::r=>by
  rw[jB,l8,l8,yY id sz ls t r];split<;>rfl
theorem E5.ar {ts:Ts} {os:Os} (id:Nat) {sz e:Nat} {ls:List (List AV)} (C:lk os id=some (.row sz ls e)) {a:Act} {w:World} (F:E5 Γ ts os a w):E5 Γ (kZ id sz ls ts) ((id,.aF)::jB id sz ls os) a w:=by
 obtain⟨g,⟨O,Q,R,A,S⟩,T⟩:=F;have j:∀i o,lk [(id,Obj.row sz ls e)] i=some o->lk os i=some o:=fun i o hl=>by
  rw[l8] at hl;split at hl
  ·rename_i e1;subst e1;cases hl;exact C
  ·cases hl
 have n:=A.sub j;have L:=aS.freeze n;have m:Q5 (g.fz [(id,.row sz ls e)]) w (I7 [(id,.row sz ls e)]++os):=A.frame j L (fun _ h=>(by cases h)) (fun _ _ _ _ _ h=>(by cases h));have J:∀v a,Rd g w v a->Rd (g.fz [(id,.row sz ls e)]) w v a:=fun v a F=>Rd.mono (c:=g) (c':=g.fz [(id,.row sz ls e)]) (fun _ _=>rfl) (fun _ h=>MF h) (fun _ _=>⟨rfl,rfl⟩) F;have I:∀v,Rd g w v (.aK id)->Rd (g.fz [(id,.row sz ls e)]) w v (.sl sz ls):=fun v V=>nr n (j5 _ _ _) V;have k:∀i o,lk ((id,Obj.aF)::jB id sz ls os) i=some o->∃l,lk (I7 [(id,Obj.row sz ls e)]++os) i=some l/\(∀b,aW (g.fz [(id,.row sz ls e)]) i o b↔aW (g.fz [(id,.row sz ls e)]) i l b)/\dH (g.fz [(id,.row sz ls e)]) w i o:=fun i o hl=>by
  have U:=hl;rw[l8] at hl;split at hl
  ·rename_i e1;subst e1;cases hl;exact⟨.aF,by simp[I7,j5],fun _=>Iff.rfl,trivial⟩
  ·rename_i e1;rw[yY] at hl;obtain⟨l,s,rfl⟩:=MM.1 hl;have r:lk (I7 [(id,Obj.row sz ls e)]++os) i=some l:=by simp only[I7,List.cons_append,List.nil_append];rw[E8 _ _ e1];exact s
   have u:=m.rep i l r;refine⟨l,r,fun b=>?_,?_⟩
   ·cases l<;>exact Iff.rfl
   ·cases l with
    |box N e2 =>
     obtain⟨us,G,H⟩:=A.rep i _ s;exact⟨us,G,w9.cW J I N H⟩
    |_=>exact u
 refine⟨g.fz [(id,.row sz ls e)],⟨O,Q,fun t x hl=>?_,⟨fun i o hl=>?_,fun i o b hl q=>?_,fun i M o l b E hl D q B=>?_,m.aq⟩,?_⟩,T⟩
 ·rw[wj] at hl;obtain⟨y,X,rfl⟩:=MM.1 hl;obtain⟨v,G,H⟩:=R t y X;exact⟨v,G,Rd.kc J I y H⟩
 ·obtain⟨_,_,_,h⟩:=k i o hl;exact h
 ·obtain⟨z,g1,p,_⟩:=k i o hl;exact m.lt i z b g1 ((p b).1 q)
 ·obtain⟨z,g1,p,_⟩:=k i o hl;obtain⟨o2,Y,Z,_⟩:=k M l D;exact m.sep i M z o2 b E g1 Y ((p b).1 q) ((Z b).1 B)
 ·have d:Inv Γ (g.fz [(id,.row sz ls e)]) w (I7 [(id,.row sz ls e)]++os):=S.post A j L (fun _ h=>(by cases h)) (fun _ _ _ _ x W=>(by cases W));exact⟨d.cX,d.tape,d.output,d.size,d.aq,d.ak,d.ab,fun i o b hl q=>by
   obtain⟨z,g1,p,_⟩:=k i o hl;exact d.az i z b g1 ((p b).1 q)⟩
theorem j6.ar {c:Code} {ts:Ts} {os:Os} {Q:Qt} (id:Nat) {sz e:Nat} {ls:List (List AV)} (b:lk os id=some (.row sz ls e)) (h:j6 P Γ c (kZ id sz ls ts) ((id,.aF)::jB id sz ls os) Q):j6 P Γ c ts os Q :=
 ⟨fun a w d=>h.run a w (d.ar id b)⟩
theorem X6.ar {ts:Ts} {os:Os} {Q:Qt} (id:Nat) {sz e:Nat} {ls:List (List AV)} (b:lk os id=some (.row sz ls e)) (h:X6 Γ (kZ id sz ls ts) ((id,.aF)::jB id sz ls os) Q):X6 Γ ts os Q :=
 ⟨fun a w c=>h.run a w (c.ar id b)⟩
theorem X6.bG {ts:Ts} {os:Os} {Q:Qt} (t id sz e:Nat) (hl:lk ts t=some .aJ) (b:F5 [id] ts=true) (c:F4 [id] [(id,.row sz [] e)] os=true) (h:X6 Γ ((t,.aK id)::ts) ((id,.row sz [] e)::os) Q):X6 Γ ts os Q :=
 ⟨fun a w d=>h.run a w (d.bG t id sz e hl b c)⟩
end
section
open Go.ChangeShapes Go.WideShapes Go.ChangeAt Go.RowKit Go.Deep
def tM (W:World):Ctx:=⟨fun b=>b<W.heap.size,fun _=>0,fun _=>undef⟩
theorem Spec.law {P:Program} {f:Nat} {ins:List AV} (hS:Spec P f [] ins (.bool true) [] []) {W:World} {args:Array Value} (h:w9 (tM W) W args.toList ins) :
  Calls P f args W fun e d=>e=.returned (.bool true)/\Below W.heap.size W d:=by
 have c:∀(id:Nat) (o:Obj),lk ([]:Os) id=some o->False:=fun id o h=>by cases h
 refine(hS.2.2 (tM W) W args ⟨fun id o h=>(c id o h).elim,fun id o b h=>(c id o h).elim,fun id l o m b _ h=>(c id o h).elim,fun b g=>g⟩ h).mono ?_;rintro e d ⟨v,c',rfl,a,j⟩;exact⟨by rw[j.bL],a.cX,a.tape,a.output,a.size,fun k i=>a.ab k i fun⟨id,o,h,_⟩=>c id o h⟩
def gV (n:Int):Prop:=I5 n
def tn (s:ByteArray):Prop:=s.size<=maxLen
def okB (_:Bool):Prop:=True
def oT {b:Type} (ok:b->Prop) (l:List b):Prop:=l.length<=maxLen/\∀a∈l,ok a
def gO (_:Int):Nat:=1
def pr (s:ByteArray):Nat:=s.size+1
def Et (_:Bool):Nat:=1
def eN {a:Type} (bk:a->Nat) (l:List a):Nat:=(l.map bk).sum+1
def Cs {b:Type} (bk:b->Nat) (a:b) (l:List b):eN bk (a::l)=bk a+eN bk l:=by simp only[eN,MS,Mb];omega
def Jy {b:Type} {bk:b->Nat} (h:∀a,1<=bk a) (l:List b):l.length+1<=eN bk l:=by
 induction l with
 |nil=>simp[eN]
 |cons a l ih=>rw[Cs,ML];have:=h a;omega
def K1 {b:Type} {bk:b->Nat} {l:List b} {a:b} (h:a∈l):bk a+1<=eN bk l:=by
 induction l with
 |nil=>cases h
 |cons x l ih =>
  rw[Cs];rcases MG.1 h with rfl|h
  ·simp only[eN];omega
  ·have:=ih h;omega
def d86 {H:Type} {l:List (DataW H)} (h:Rows.uptoSmall H l=true):Rows.uptoBulkAll l<=1048576:=of_decide_eq_true h
structure U7 (P:Program) (t:TypeId) (sz:Nat) {α:Type} (enc:α->List AV) (ok:α->Prop) (bk:α->Nat):Prop where
 out:∀{H:Type} {eH:TypeId×Value->H} {w:World} {sp:Nat->Bool} {held:Bool} {fuel:Nat} {cs:List Value} {x:DataW H×List MemPlace},DataW.trod eH P w 0 sp held fuel t cs=some x ->
  ∃a:α,H5 (fun b=>b<w.heap.size) w cs (enc a)/\cs.length=sz/\(∀u∈cs,u.oneCell'=true)/\ok a/\bk a<=Rows.uptoBulk x.1
section
variable {P:Program}
theorem U7.int {t:TypeId} (b:P.underlying t=some (.int .i64)):U7 P t 1 cE gV gO:=⟨fun h=>by
 obtain⟨n,rfl,rfl,c⟩:=DataW.trod_int b h;have a:I5 n:=by
  have:IntKind.i64.min<=n/\n<=IntKind.i64.max:=by simpa[Lit.wf] using c
  exact this
 exact⟨n,.cons (.int a) .nil,rfl,by simp[Value.oneCell'],a,It _⟩⟩
theorem U7.str {t:TypeId} (b:P.underlying t=some .string):U7 P t 1 px tn pr:=⟨fun h=>by
 obtain⟨s,rfl,rfl,a⟩:=DataW.trod_string b h;exact⟨s,.cons (.str a) .nil,rfl,by simp[Value.oneCell'],a,by simp[pr,Rows.uptoBulk]⟩⟩
theorem U7.bool {t:TypeId} (a:P.underlying t=some .bool):U7 P t 1 (fun b:Bool=>[AV.bool b]) okB Et:=⟨fun h=>by
 obtain⟨b,rfl,rfl⟩:=DataW.trod_bool a h;exact⟨b,.cons (.bool b) .nil,rfl,by simp[Value.oneCell'],trivial,It _⟩⟩
def sU {w:World} {b o:Nat} {v:Value} (h:w.cell? ⟨b,o,none⟩=some v):b<w.heap.size:=by
 unfold World.cell? at h;cases a:w.heap[b]? with
 |none=>rw[a] at h;cases h
 |some x=>exact(Array.getElem?_eq_some_iff.1 a).1
theorem E2 {H a:Type} (bk:a->Nat):∀(n:Nat) (g:_root_.Fin n->a) (D:Nat->DataW H),(∀i:_root_.Fin n,bk (g i)<=Rows.uptoBulk (D i))->((List.ofFn g).map bk).sum<=Rows.uptoBulkAll ((List.range n).map D)
 |0,g,D,_=>l9
 |n+1,g,D,h=>by
  have ih:=E2 bk n (fun i=>g i.succ) (fun i=>D (i+1)) (fun i=>by simpa using h i.succ);have b:=h 0;rw[List.ofFn_succ,List.range_succ_eq_map];simp only[MS,Mb,List.map_map,Rows.uptoBulkAll];have e:(D∘Nat.succ)=fun i=>D (i+1):=rfl;rw[e];have c:bk (g 0)<=Rows.uptoBulk (D 0):=b;omega
theorem U7.slice {t e:TypeId} {sz:Nat} {z:Type} {enc:z->List AV} {ok:z->Prop} {bk:z->Nat} (ht:P.underlying t=some (.slice e)) (Z:P.cellsOf e=sz) (W:0<sz) (L:U7 P e sz enc ok bk) :
  U7 P t 1 (fun l:List z=>[AV.sl sz (l.map enc)]) (oT ok) (eN bk):=⟨fun {H eH w sp U fuel d x} h=>by
 rcases open_slice ht h with⟨rfl,rfl⟩|⟨a,len,cap,m,n,D,Pl,rfl,hb,hl,V,M,rfl,hi⟩
 ·refine⟨[],.cons ?_ .nil,rfl,by simp[Value.oneCell'],⟨by simp[maxLen],l9⟩,by simp[eN,Rows.uptoBulk]⟩;exact Rf.sl (A:=none) (c:=0) (ls:=[]) (fun _=>[]) 0 0 l9 (by simp[maxLen]) (fun h=>absurd h l9) (fun i d h=>by simp at h) (fun i d h=>by simp at h) (fun i d h=>by simp at h) (fun i d h=>by simp at h)
 ·have hlm:len<=m:=by rw[M];split<;>omega
  have r:∀i:_root_.Fin len,∃y:z,(∃d:List Value,(H5 (fun b=>b<w.heap.size) w d (enc y)/\d.length=sz/\∀u∈d,u.oneCell'=true)/\∀(j:Nat) (u:Value),d[j]?=some u->w.cell? ((a.add (i*sz)).add j)=some u)/\ok y/\bk y<=Rows.uptoBulk (D i):=by
   intro i;obtain⟨I,C,Q⟩:=hi i d9;obtain⟨y,S,R,B,aO,J⟩:=L.out Q;rw[Z] at C;obtain⟨_,p,k⟩:=World.cells?_some C;refine⟨y,⟨I,⟨S,R,B⟩,fun j u E=>?_⟩,aO,J⟩;rw[k j (by rw[<-p];exact(ME.1 E).1),E]
  let g:_root_.Fin len->z:=fun i=>(r i).choose;have v:=fun i=>(r i).choose_spec;have p:(List.ofFn g).length=len:=l9;have get:∀(i:Nat) (d:List AV),((List.ofFn g).map enc)[i]?=some d->∃hi:i<len,d=enc (g ⟨i,hi⟩):=by
   intro i d h;rw[Mj,MM] at h;obtain⟨y,B,Y⟩:=h;obtain⟨f,e1⟩:=ME.1 B;simp only[List.length_ofFn] at f;exact⟨f,by rw[<-Y,<-e1];simp⟩
  have O:0<len->∃b o,a=⟨b,o,none⟩/\b<w.heap.size:=by
   intro N;obtain⟨⟨d,⟨S,R,_⟩,k⟩,_⟩:=v ⟨0,N⟩;have q:=k 0 d[0] (IS d9);have B:((a.add (0*sz)).add 0)=a:=by simp[Addr.add]
   simp only at q;rw[B] at q;have G:a.spot=none:=by
    unfold World.cell? at q;split at q
    ·cases G:a.spot with
     |none=>rfl
     |some s=>rw[G] at q;simp at q
    ·cases q
   obtain⟨b,o,s⟩:=a;simp only at G;subst G;exact⟨b,o,rfl,sU q⟩
  refine⟨List.ofFn g,.cons ?_ .nil,rfl,by simp[Value.oneCell'],⟨by rw[p];omega,fun y hy=>?_⟩,?_⟩
  ·have F:len=((List.ofFn g).map enc).length:=l9;by_cases N:0<len
   ·obtain⟨b,o,T,K⟩:=O N
    suffices key:Rf (fun b=>b<w.heap.size) w (.slice (some a) ((List.ofFn g).map enc).length cap) (.sl sz ((List.ofFn g).map enc)) by
     rw[<-F] at key;exact key
    refine Rf.sl (fun i=>if h:i<len then(v ⟨i,h⟩).1.choose else[]) b o (by rw[<-F];exact hl) V (fun _=>⟨by rw[T],K⟩) (fun i d h=>?_) (fun i d h j u E=>?_) (fun i d h=>?_) (fun i d h u X=>?_)<;>obtain⟨f,rfl⟩:=get i d h
    ·rw[dif_pos f];exact(v ⟨i,f⟩).1.choose_spec.1.2.1
    ·rw[dif_pos f] at E;have:=(v ⟨i,f⟩).1.choose_spec.2 j u E;rw[T] at this;simpa only[fv] using this
    ·rw[dif_pos f];exact(v ⟨i,f⟩).1.choose_spec.1.1
    ·rw[dif_pos f] at X;exact(v ⟨i,f⟩).1.choose_spec.1.2.2 u X
   ·have q:len=0:=d9;subst q;have e0:((List.ofFn g).map enc)=[]:=l9;rw[e0];exact Rf.sl (A:=some a) (c:=cap) (ls:=[]) (fun _=>[]) 0 0 l9 V (fun h=>absurd h l9) (fun i d h=>by simp at h) (fun i d h=>by simp at h) (fun i d h=>by simp at h) (fun i d h=>by simp at h)
  ·obtain⟨i,rfl⟩:=List.mem_ofFn.1 hy;exact(v i).2.1
  ·have:=E2 bk len g D fun i=>(v i).2.2;simp only[eN,Rows.uptoBulk];omega⟩
end
def Jx {c:Ctx} {w:World} {v:Value} {a:AV} (h:H5 c.Φ w [v] [a]):Rd c w v a:=by
 cases h with|cons h _=>exact .fz h
end
section
variable {Γ:Z7}
def xU {a:Type} {l:List a} {k:Nat} {x:a} (h:l[k]?=some x):l.set k x=l:=by
 apply Mn;intro j;rw[MY];split
 ·rename_i e;subst e;split
  ·exact h.symm
  ·rw[Md d9]
 ·rfl
theorem H5.oY {Φ:Nat->Prop} {w:World}:∀{vs:List Value} {b:List AV},H5 Φ w vs b->∀(n:Nat) {v:Value} {a:AV},vs[n]?=some v->Rf Φ w v a->H5 Φ w vs (b.set n a)
 |_,_,.nil,n,_,_,h,_=>by simp at h
 |_,_,.cons h t,0,_,_,e,k=>by simp at e;subst e;exact .cons k t
 |_,_,.cons h t,n+1,_,_,e,k=>.cons h (H5.oY t n (by simpa using e) k)
theorem E5.kb {ts:Ts} {os:Os} (r i off j j':Nat) {sz e isz ie:Nat} {ls d:List (List AV)} {q:List AV} {v:Value} (Z:lk os r=some (.row sz ls e)) (X:lk os j=some (.row isz d ie)) (J:lk os j'=some (.eqv j v))
  (hi:ls[i]?=some q) (Y:q[off]?=some (.aU v)) (g:AT r j=false) (m:AT r j'=false) (p:AT j j'=false) {a:Act} {w:World} (B:E5 Γ ts os a w) :
  E5 Γ ts ((r,.row sz (ls.set i (q.set off (.sl isz d))) e)::(j,.aF)::(j',.aF)::os) a w:=by
 have g:=H7 g;have m:=H7 m;have p:=H7 p;refine E5.ghost (need:=[(r,.row sz ls e),(j,.row isz d ie),(j',.eqv j v)]) (upd:=[(r,.row sz (ls.set i (q.set off (.sl isz d))) e),(j,.aF),(j',.aF)]) (news:=[]) [] B ⟨Z,X,J,trivial⟩ rfl rfl rfl fun c aO=>?_;have E:lk [(r,Obj.row sz ls e),(j,.row isz d ie),(j',.eqv j v)] r=some (.row sz ls e):=j5 _ _ _;have C:lk [(r,Obj.row sz ls e),(j,.row isz d ie),(j',.eqv j v)] j=some (.row isz d ie):=by rw[E8 _ _ g,j5]
 have M:lk [(r,Obj.row sz ls e),(j,.row isz d ie),(j',.eqv j v)] j'=some (.eqv j v):=by rw[E8 _ _ m,E8 _ _ p,j5]
 have W:∀x o,lk [(j,Obj.row isz d ie)] x=some o->lk [(r,Obj.row sz ls e),(j,.row isz d ie),(j',.eqv j v)] x=some o:=fun x o h=>by
  obtain⟨rfl,rfl⟩:=eS h;exact C
 have hv:c.hd j=v:=aO.rep j' _ M;have z:Rd c w v (.aK j):=by
  obtain⟨css,N,Q,O⟩:=aO.rep j _ C;obtain⟨A,cap,e1,T,U⟩:=N.head;rw[<-hv,e1];exact .aK (by rw[e1]) T U
 have L:Rf (c.fz [(j,.row isz d ie)]).Φ w v (.sl isz d):=(nr (aO.sub W) (j5 _ _ _) z).rf (by simp[AV.ids]);have ql:∀id,(lk [(r,Obj.row sz (ls.set i (q.set off (.sl isz d))) e),(j,.aF),(j',.aF)] id).isSome=true↔id=r\/id=j\/id=j':=fun id=>by
  rw[l8,l8,l8];by_cases k:r=id<;>by_cases l:j=id<;>by_cases G:j'=id<;>simp[k,l,G,lk]<;>omega
 refine⟨c.fz [(j,.row isz d ie)],⟨rfl,rfl,rfl,It _,fun b h=>.inl h,fun b H=>?_,fun _ _ _=>rfl,fun _ _=>⟨rfl,rfl⟩,⟨fun id o hl=>?_,fun id o b hl f=>?_,fun id id' o o' b t hl K f I=>?_,fun b H=>?_⟩,fun id o b hl f=>?_⟩,fun t' y hy=>(by cases hy)⟩
 ·rcases H with h|⟨id,o,k,l⟩
  ·exact .inl h
  ·obtain⟨rfl,rfl⟩:=eS k;exact .inr (.inr ⟨id,_,C,(ql id).2 (.inr (.inl rfl)),l⟩)
 ·rcases bP hl with⟨rfl,rfl⟩|⟨_,rfl,rfl⟩|⟨_,_,rfl,rfl⟩
  ·obtain⟨css,N,Q,O⟩:=aO.rep id _ E;refine⟨css,N,by simpa using Q,fun n us F D s=>?_⟩;have R:∀{us:List Value} {S:List AV},H5 c.Φ w us S->H5 (c.fz [(j,.row isz d ie)]).Φ w us S:=fun h=>h.mono (fun _ _=>rfl) fun _ h=>.inl h;rw[MY] at s;split at s
   ·rename_i V;subst V;split at s
    ·cases s;have P:=O i us q D hi;obtain⟨u,v1,v2⟩:=P.get Y;have D:u=v:=by cases v2;rfl
     subst D;exact(R P).oY off v1 L
    ·cases s
   ·exact R (O n us F D s)
  ·trivial
  ·trivial
 ·rcases bP hl with⟨rfl,rfl⟩|⟨_,rfl,rfl⟩|⟨_,_,rfl,rfl⟩
  ·have k:=aO.lt id _ b E f;refine⟨k.1,fun h=>?_⟩;rcases h with h|⟨x,o,l,G⟩
   ·exact k.2 h
   ·obtain⟨rfl,rfl⟩:=eS l;exact aO.sep id x _ _ b g E C f G
  ·exact f.elim
  ·exact f.elim
 ·rcases bP hl with⟨rfl,rfl⟩|⟨_,rfl,rfl⟩|⟨_,_,rfl,rfl⟩<;>rcases bP K with⟨rfl,rfl⟩|⟨_,rfl,rfl⟩|⟨_,_,rfl,rfl⟩<;>first|exact t rfl|exact f.elim|exact I.elim
 ·rcases H with h|⟨id,o,k,l⟩
  ·exact aO.aq b h
  ·obtain⟨rfl,rfl⟩:=eS k;exact(aO.lt id _ b C l).1
 ·rcases bP hl with⟨rfl,rfl⟩|⟨_,rfl,rfl⟩|⟨_,_,rfl,rfl⟩
  ·exact .inr ⟨id,_,E,(ql id).2 (.inl rfl),f⟩
  ·exact f.elim
  ·exact f.elim
theorem j6.kb {P:Program} {c:Code} {ts:Ts} {os:Os} {Q:Qt} (r i off j j':Nat) {sz e isz ie:Nat} {ls m:List (List AV)} {d:List AV} {v:Value} (p:lk os r=some (.row sz ls e)) (n:lk os j=some (.row isz m ie)) (f:lk os j'=some (.eqv j v))
  (hi:ls[i]?=some d) (o:d[off]?=some (.aU v)) (g:AT r j=false) (k:AT r j'=false) (l:AT j j'=false) (h:j6 P Γ c ts ((r,.row sz (ls.set i (d.set off (.sl isz m))) e)::(j,.aF)::(j',.aF)::os) Q):j6 P Γ c ts os Q :=
 ⟨fun a w b=>h.run a w (b.kb r i off j j' p n f hi o g k l)⟩
theorem E5.flat {ts:Ts} {os:Os} (t id k:Nat) {sz e isz ie:Nat} {l:List (List AV×List (List AV))} (hl:lk ts t=some (.cI id)) (N:lk os id=some (.nest sz e isz ie l)) (P:AT k id=false)
  (L:F5 [k] ts=true) (M:F4 [k] [(k,.row sz (du isz l) e),(id,.aF)] os=true) {a:Act} {w:World} (F:E5 Γ ts os a w) :
  E5 Γ ((t,.aK k)::ts) ((k,.row sz (du isz l) e)::(id,.aF)::os) a w:=by
 have P:=H7 P;refine E5.ghost (need:=[(id,.nest sz e isz ie l)]) (upd:=[(k,.row sz (du isz l) e),(id,.aF)]) (news:=[k]) [(t,.aK k)] F ⟨N,trivial⟩ L M (by simp[j5]) fun c aO=>?_;have m:lk [(id,Obj.nest sz e isz ie l)] id=some (.nest sz e isz ie l):=j5 _ _ _;obtain⟨h,z,e1,U,h3,h4,h5⟩:=aO.rep id _ m;have inner:∀p∈Z0 z,∀b,p.1.v.ownBlock=some b->aW c id (.nest sz e isz ie l) b:=fun p j b d=>by
  refine⟨p.1.v,?_,d⟩;rw[e1];simp only[eZ,MG,MU];obtain⟨q,Q,rfl⟩:=MU.1 j;exact .inr ⟨q,Q,rfl⟩
 have f:∀b,h.v.ownBlock=some b->aW c id (.nest sz e isz ie l) b:=fun b d=>⟨h.v,by rw[e1];simp[eZ],d⟩;let s:Nat->Prop:=fun b=>c.Φ b\/∃p∈Z0 z,p.1.v.ownBlock=some b;let c':Ctx:={ (c.aN k h.v) with Φ:=s };have B:c'.hd k=h.v:=by simp[c',Ctx.aN]
 have r:∀b,aW c id (.nest sz e isz ie l) b->Touch c [(id,.nest sz e isz ie l)] [(k,.row sz (du isz l) e),(id,.aF)] b:=fun b d=>⟨id,_,m,by rw[E8 _ _ P,j5];rfl,d⟩;have D:∀b,h.v.ownBlock=some b->¬s b:=by
  rintro b d (G|⟨p,j,G⟩)
  ·exact(aO.lt id _ b m (f b d)).2 G
  ·obtain⟨q,Q,rfl⟩:=MU.1 j;exact h5 b q d Q G
 refine⟨c',⟨rfl,rfl,rfl,It _,fun b d=>.inl d,fun b d=>?_,fun _ _ _=>rfl,fun x G=>⟨rfl,?_⟩,⟨fun x o hl=>?_,fun x o b hl g=>?_,fun x x' o o' b C hl O g K=>?_,fun b d=>?_⟩,fun x o b hl g=>?_⟩,fun t' y hy=>?_⟩
 ·rcases d with d|⟨p,j,d⟩
  ·exact .inl d
  ·exact .inr (.inr (r b (inner p j b d)))
 ·have:x≠k:=by simpa using G
  simp[c',Ctx.aN,this]
 ·rcases cg hl with⟨rfl,rfl⟩|⟨_,rfl,rfl⟩
  ·show O7 s w (c'.hd x) sz (du isz l) e;rw[B];obtain⟨css,q1,q2,q3⟩:=h3;refine⟨css,q1,by rw[q2];simp only[q8,du,MW,<-U],fun i us W hu I=>?_⟩;have hz:∃p,z[i]?=some p/\W=p.2.1++[.sl isz p.2.2]:=by
    rw[<-U] at I;simp only[du,List.map_map] at I;rw[Mj,MM] at I;obtain⟨p,j,rfl⟩:=I;exact⟨p,j,rfl⟩
   obtain⟨p,j,rfl⟩:=hz;have ho:(q8 z)[i]?=some (p.2.1++[.aU p.1.v]):=by simp[q8,j]
   have h0:=q3 i us _ hu ho;have E:(p.1,p.2.2)∈Z0 z:=MU.2 ⟨p,MP j,rfl⟩;obtain⟨T,r1,r2,r3⟩:=h4.1 _ E;have R:Rf s w p.1.v (.sl isz p.2.2):=r1.rf r2 r3 (fun _ d=>.inl d) fun b d=>.inr ⟨_,E,d⟩;have V:H5 s w us (p.2.1++[.aU p.1.v]):=h0.mono (fun _ _=>rfl) fun _ d=>.inl d;have ad:(p.2.1++[AV.aU p.1.v])[p.2.1.length]?=some (.aU p.1.v):=l9;obtain⟨u,u1,u2⟩:=V.get ad;have S:u=p.1.v:=by cases u2;rfl
   subst S;have:=V.oY p.2.1.length u1 R;simpa using this
  ·trivial
 ·rcases cg hl with⟨rfl,rfl⟩|⟨_,rfl,rfl⟩
  ·have g:h.v.ownBlock=some b:=by rw[<-B];exact g
   exact⟨(aO.lt id _ b m (f b g)).1,D b g⟩
  ·exact g.elim
 ·rcases cg hl with⟨rfl,rfl⟩|⟨_,rfl,rfl⟩<;>rcases cg O with⟨rfl,rfl⟩|⟨_,rfl,rfl⟩<;>first|exact C rfl|exact g.elim|exact K.elim
 ·rcases d with d|⟨p,j,d⟩
  ·exact aO.aq b d
  ·exact(aO.lt id _ b m (inner p j b d)).1
 ·rcases cg hl with⟨rfl,rfl⟩|⟨_,rfl,rfl⟩
  ·have g:h.v.ownBlock=some b:=by rw[<-B];exact g
   exact .inr (r b (f b g))
  ·exact g.elim
 ·obtain⟨rfl,rfl⟩:=xL hy;refine⟨_,hl,fun v hv=>?_⟩;obtain⟨A,n,cap,vs,X,H,Y,Z⟩:=hv.kl;rw[e1] at H;have J:h.v=.slice A n cap:=by
   injection H with H
   have:=congrArg (fun a:Array Value=>a.toList.head?) H;simpa using this
  rw[X];exact .aK (by rw[B,J]) Y Z
theorem j6.flat {P:Program} {c:Code} {ts:Ts} {os:Os} {Q:Qt} (t id k:Nat) {sz e isz ie:Nat} {l:List (List AV×List (List AV))} (hl:lk ts t=some (.cI id)) (g:lk os id=some (.nest sz e isz ie l)) (i:AT k id=false)
  (d:F5 [k] ts=true) (f:F4 [k] [(k,.row sz (du isz l) e),(id,.aF)] os=true) (h:j6 P Γ c ((t,.aK k)::ts) ((k,.row sz (du isz l) e)::(id,.aF)::os) Q):j6 P Γ c ts os Q :=
 ⟨fun a w b=>h.run a w (b.flat t id k hl g i d f)⟩
theorem E5.bl {ts:Ts} {os:Os} (id:Nat) {sz e:Nat} {ls:List (List AV)} (q:List (List AV)) (f:lk os id=some (.row sz ls e)) (g:bt ls q) {a:Act} {w:World} (d:E5 Γ ts os a w):E5 Γ ts ((id,.row sz q e)::os) a w :=
 E5.ghost (need:=[(id,.row sz ls e)]) (upd:=[(id,.row sz q e)]) (news:=[]) [] d ⟨f,trivial⟩ rfl rfl rfl fun c aO =>
  ⟨c,aS.bl (U:=[]) ⟨rfl,rfl,rfl,It _,fun _ h=>h,fun _ h=>.inl h,fun _ _ _=>rfl,fun _ _=>⟨rfl,rfl⟩,aO,fun i o b hl j=>.inr ⟨i,o,hl,by rw[hl];rfl,j⟩⟩ g,fun l y k=>(by cases k)⟩
theorem j6.bl {P:Program} {c:Code} {ts:Ts} {os:Os} {Q:Qt} (id:Nat) {sz e:Nat} {ls:List (List AV)} (q:List (List AV)) (d:lk os id=some (.row sz ls e)) (f:bt ls q) (h:j6 P Γ c ts ((id,.row sz q e)::os) Q):j6 P Γ c ts os Q :=
 ⟨fun a w b=>h.run a w (b.bl id q d f)⟩
end
def Ho {a:Type} (e:a->List AV):Option a->AV
 |none=>.aa
 |some x=>.fp (e x)
section
variable {Γ:Z7}
theorem w9.aN {c:Ctx} {w:World} {vs:List Value} {d:List AV} {g:Nat} {v:Value} (h:w9 c w vs d) (f:(AV.au d).all (fun i=>!Nat.beq i g)=true):w9 (c.aN g v) w vs d :=
 w9.mono (c:=c) (c':=c.aN g v) (fun _ _=>rfl) (fun _ h=>h) (fun id a=>⟨rfl,by
  have:=MR.1 f id a;have b:id≠g:=fun e=>by subst e;simp at this
  simp[Ctx.aN,b]⟩) h
def cL {a:Type} {l:List a} {k:Nat} {x:a} (h:l[k]?=some x):l.set k x=l:=xU h
theorem E5.eU {ts:Ts} {os:Os} (b off id sz e:Nat) {f:List AV} {j:Nat} (C:lk os b=some (.box f j)) (ad:f[off]?=some .aJ) (hi:(AV.au f).all (fun i=>!Nat.beq i id)=true) (l:AT b id=false)
  (r:F5 [id] ts=true) (s:F4 [id] [(b,.box (f.set off (.aK id)) j),(id,.row sz [] e)] os=true) {a:Act} {w:World} (m:E5 Γ ts os a w) :
  E5 Γ ts ((b,.box (f.set off (.aK id)) j)::(id,.row sz [] e)::os) a w:=by
 have l:=H7 l;refine E5.ghost (need:=[(b,.box f j)]) (upd:=[(b,.box (f.set off (.aK id)) j),(id,.row sz [] e)]) (news:=[id]) [] m ⟨C,trivial⟩ r s (by simp[l8,l]) fun c aO=>⟨c.aN id (.slice none 0 0),?_,fun K y E=>(by cases E)⟩;have u:lk [(b,Obj.box f j)] b=some (.box f j):=j5 _ _ _;have p:(c.aN id (.slice none 0 0)).hd id=.slice none 0 0:=by simp[Ctx.aN]
 obtain⟨us,F,G⟩:=aO.rep b _ u;refine aS.same aO rfl (fun i hi=>⟨rfl,by have:i≠id:=(by simpa using hi);simp[Ctx.aN,this]⟩) (fun x o hl=>?_) (fun x o d hl k=>?_) (fun x L o J d g hl t k q=>?_)
 ·rcases cg hl with⟨rfl,rfl⟩|⟨_,rfl,rfl⟩
  ·refine⟨us,F,?_⟩;have B:=G.aN (v:=.slice none 0 0) hi;obtain⟨v,H,I⟩:=B.get ad;have D:=I.bH;subst D;have:=B.set off (v:=.slice none 0 0) (a:=.aK id) (.aK (n:=0) (cap:=0) (A:=none) p (It _) (by simp[maxLen]))
   rwa [cL H] at this
  ·exact⟨[],by rw[p];exact⟨.inl ⟨rfl,rfl⟩,l9,l9⟩,rfl,fun i us f h=>by simp at h⟩
 ·rcases cg hl with⟨rfl,rfl⟩|⟨_,rfl,rfl⟩
  ·exact⟨x,_,u,by rw[hl];rfl,k⟩
  ·have k:((c.aN x (.slice none 0 0)).hd x).ownBlock=some d:=k;rw[p] at k;cases k
 ·have z:∀d,((c.aN id (.slice none 0 0)).hd id).ownBlock=some d->False:=fun d h=>by rw[p] at h;cases h
  rcases cg hl with⟨rfl,rfl⟩|⟨_,rfl,rfl⟩<;>rcases cg t with⟨rfl,rfl⟩|⟨_,rfl,rfl⟩
  ·exact g rfl
  ·exact z d q
  ·exact z d k
  ·exact g rfl
theorem j6.eU {P:Program} {c:Code} {ts:Ts} {os:Os} {Q:Qt} (b off id sz e:Nat) {d:List AV} {g:Nat} (m:lk os b=some (.box d g)) (ad:d[off]?=some .aJ) (hi:(AV.au d).all (fun i=>!Nat.beq i id)=true) (l:AT b id=false)
  (j:F5 [id] ts=true) (k:F4 [id] [(b,.box (d.set off (.aK id)) g),(id,.row sz [] e)] os=true) (h:j6 P Γ c ts ((b,.box (d.set off (.aK id)) g)::(id,.row sz [] e)::os) Q):j6 P Γ c ts os Q :=
 ⟨fun a w f=>h.run a w (f.eU b off id sz e m ad hi l j k)⟩
theorem E5.jN {ts:Ts} {os:Os} (b off j g:Nat) {k:List AV} {m sz e:Nat} {ls:List (List AV)} (G:lk os b=some (.box k m)) (ad:k[off]?=some (.aK j)) (H:lk os j=some (.row sz ls e)) (hi:(AV.au k).all (fun i=>!Nat.beq i g)=true)
  (f:AT b j=false) (q:AT b g=false) (r:AT j g=false)
  (z:F5 [g] ts=true) (B:F4 [g] [(b,.box (k.set off (.aK g)) m),(g,.row sz ls e),(j,.aF)] os=true) {a:Act} {w:World} (t:E5 Γ ts os a w) :
  E5 Γ ts ((b,.box (k.set off (.aK g)) m)::(g,.row sz ls e)::(j,.aF)::os) a w:=by
 have f:=H7 f;have q:=H7 q;have r:=H7 r;refine E5.ghost (need:=[(b,.box k m),(j,.row sz ls e)]) (upd:=[(b,.box (k.set off (.aK g)) m),(g,.row sz ls e),(j,.aF)]) (news:=[g]) [] t ⟨G,H,trivial⟩ z B (by simp[l8,q]) fun c aO=>⟨c.aN g (c.hd j),?_,fun T y I=>(by cases I)⟩;have D:lk [(b,Obj.box k m),(j,.row sz ls e)] b=some (.box k m):=j5 _ _ _;have E:lk [(b,Obj.box k m),(j,.row sz ls e)] j=some (.row sz ls e):=by rw[E8 _ _ f,j5]
 have u:(c.aN g (c.hd j)).hd g=c.hd j:=by simp[Ctx.aN]
 obtain⟨us,O,F⟩:=aO.rep b _ D;have N:O7 c.Φ w (c.hd j) sz ls e:=aO.rep j _ E;refine aS.same aO rfl (fun i hi=>⟨rfl,by have:i≠g:=(by simpa using hi);simp[Ctx.aN,this]⟩) (fun x o hl=>?_) (fun x o d hl l=>?_) (fun x U o S d s hl C l p=>?_)
 ·rcases bP hl with⟨rfl,rfl⟩|⟨_,rfl,rfl⟩|⟨_,_,rfl,rfl⟩
  ·refine⟨us,O,?_⟩;obtain⟨v,Q,R⟩:=F.get ad;have P:=F.aN (v:=c.hd j) hi;obtain⟨A,n,cap,J,K,L,M⟩:=R.bF;have:=P.set off (v:=v) (a:=.aK g) (by rw[J];exact .aK (by rw[u,K]) L M)
   rwa [cL Q] at this
  ·show O7 c.Φ w ((c.aN x (c.hd j)).hd x) sz ls e;rw[u];exact N
  ·trivial
 ·rcases bP hl with⟨rfl,rfl⟩|⟨_,rfl,rfl⟩|⟨_,_,rfl,rfl⟩
  ·exact⟨x,_,D,by rw[hl];rfl,l⟩
  ·have l:((c.aN x (c.hd j)).hd x).ownBlock=some d:=l;rw[u] at l;exact⟨j,_,E,by rw[E8 _ _ f,E8 _ _ (Ne.symm r),j5];rfl,l⟩
  ·exact l.elim
 ·have apart:∀d,((c.aN g (c.hd j)).hd g).ownBlock=some d->d≠c.μ b:=fun d h e=>by
   rw[u] at h;exact aO.sep j b _ _ d (Ne.symm f) E D h e
  rcases bP hl with⟨rfl,rfl⟩|⟨_,rfl,rfl⟩|⟨_,_,rfl,rfl⟩<;>rcases bP C with⟨rfl,rfl⟩|⟨_,rfl,rfl⟩|⟨_,_,rfl,rfl⟩<;>first|exact s rfl|exact l.elim|exact p.elim|exact apart d l p|exact apart d p l
theorem j6.jN {P:Program} {c:Code} {ts:Ts} {os:Os} {Q:Qt} (b off j g:Nat) {d:List AV} {k sz e:Nat} {ls:List (List AV)} (q:lk os b=some (.box d k)) (ad:d[off]?=some (.aK j)) (r:lk os j=some (.row sz ls e)) (hi:(AV.au d).all (fun i=>!Nat.beq i g)=true)
  (n:AT b j=false) (o:AT b g=false) (p:AT j g=false)
  (l:F5 [g] ts=true) (m:F4 [g] [(b,.box (d.set off (.aK g)) k),(g,.row sz ls e),(j,.aF)] os=true) (h:j6 P Γ c ts ((b,.box (d.set off (.aK g)) k)::(g,.row sz ls e)::(j,.aF)::os) Q):j6 P Γ c ts os Q :=
 ⟨fun a w f=>h.run a w (f.jN b off j g q ad r hi n o p l m)⟩
theorem E5.e7 {ts:Ts} {os:Os} (id:Nat) {h:List AV} {e:Nat} (b:List AV) (i:lk os id=some (.box h e)) (k:dU h b) {a:Act} {w:World} (g:E5 Γ ts os a w):E5 Γ ts ((id,.box b e)::os) a w :=
 E5.ghost (need:=[(id,.box h e)]) (upd:=[(id,.box b e)]) (news:=[]) [] g ⟨i,trivial⟩ rfl rfl rfl fun c aO =>
  ⟨c,aS.same aO rfl (fun _ _=>⟨rfl,rfl⟩) (fun x o hl=>by
   obtain⟨rfl,rfl⟩:=eS hl;obtain⟨us,n,p⟩:=aO.rep x _ (j5 _ _ _);exact⟨us,n,sP k p⟩) (fun x o d hl l=>by
   obtain⟨rfl,rfl⟩:=eS hl;exact⟨x,_,j5 _ _ _,by rw[j5];rfl,l⟩) (fun x s o q d f hl j _=>by
   obtain⟨rfl,_⟩:=eS hl;obtain⟨rfl,_⟩:=eS j;exact absurd rfl f),fun r y m=>(by cases m)⟩
theorem j6.e7 {P:Program} {c:Code} {ts:Ts} {os:Os} {Q:Qt} (id:Nat) {i:List AV} {e:Nat} (b:List AV) (f:lk os id=some (.box i e)) (g:dU i b) (h:j6 P Γ c ts ((id,.box b e)::os) Q):j6 P Γ c ts os Q :=
 ⟨fun a w d=>h.run a w (d.e7 id b f g)⟩
theorem X6.e7 {ts:Ts} {os:Os} {Q:Qt} (id:Nat) {g:List AV} {e:Nat} (b:List AV) (d:lk os id=some (.box g e)) (f:dU g b) (h:X6 Γ ts ((id,.box b e)::os) Q):X6 Γ ts os Q :=
 ⟨fun a w c=>h.run a w (c.e7 id b d f)⟩
end
def bb {a:Type} (p:a->Bool) (d:a) (l:List a):List a×Nat:=match l.findIdx? p with
 |some k=>(l,k)
 |none=>(l++[d],l.length)
def xK {a:Type} {l:List a} {k:Nat} {x:a} (h:l[k]?=some x):l.take (k+1)=l.take k++[x]:=by
 rw[List.take_add_one,h];rfl
def uN (z:List (Hd×List AV×List (List AV))) (x:Hd×List AV×List (List AV)):q8 (z++[x])=q8 z++[x.2.1++[.aU x.1.v]]:=by simp[q8]
def vG (z:List (Hd×List AV×List (List AV))) (x:Hd×List AV×List (List AV)):Z0 (z++[x])=Z0 z++[(x.1,x.2.2)]:=by simp[Z0]
def jd {z:List (Hd×List AV×List (List AV))} {a:Type} {l:List a} {f:a->List AV×List (List AV)} (h:z.map (·.2)=l.map f):z.length=l.length:=by
 have:=congrArg List.length h;simpa using this
def fk {a:Type} (p:a->Bool) (l:List a):Int:=match l.findIdx? p with
 |some i=>i
 |none=>-1
def nY {a:Type} (p:a->Bool) (x:a) (l:List a):(x::l).findIdx? p=if p x=true then some 0 else(l.findIdx? p).map (·+1):=by
 rw[List.findIdx?_cons]
def vX {a:Type} (p:a->Bool) (l:List a):(∃(k:Nat) (x:a),fk p l=(k:Int)/\l[k]?=some x/\p x=true/\l.findIdx? p=some k)\/(fk p l=-1/\l.findIdx? p=none):=by
 unfold fk;cases h:l.findIdx? p with
 |none=>exact .inr ⟨rfl,rfl⟩
 |some k =>
  obtain⟨b,c,_⟩:=List.findIdx?_eq_some_iff_getElem.1 h;exact .inl ⟨k,l[k],rfl,IS b,c,rfl⟩
theorem List.ae {a:Type}:∀{l:List a} {n:Nat} (h:n<l.length),(l[n]::l.eraseIdx n).Perm l
 |x::l,0,_=>.refl _
 |x::l,n+1,h=>by
  have ih:=List.ae (l:=l) (n:=n) (by simpa using h);exact(List.Perm.swap x _ _).trans (ih.cons x)
def xD {a:Type} {l:List a} {k:Nat} {x:a} (h:l[k]?=some x) {f:a->a}:l.modify k f=l.set k (f x):=by
 apply Mn;intro j;rw[List.getElem?_modify,MY];split
 ·rename_i e;subst e;rw[h,N2 (ME.1 h).1];rfl
 ·cases l[j]?<;>rfl
theorem set_perm {b:Type}:∀{l:List b} {k:Nat} {a:b},k<l.length->(l.set k a).Perm (a::l.eraseIdx k)
 |x::l,0,a,_=>.refl _
 |x::l,k+1,a,h=>((set_perm (l:=l) (k:=k) (a:=a) (by simpa using h)).cons x).trans (List.Perm.swap _ _ _)
def Dk {a c:Type} {z:List (Hd×c)} {l:List a} {f:a->c} (h:z.map (·.2)=l.map f) {k:Nat} {x:a} (i:l[k]?=some x):∃g,z[k]?=some (g,f x):=by
 have:(z.map (·.2))[k]?=some (f x):=by rw[h];simp[i]
 rw[Mj,MM] at this;obtain⟨⟨g,b⟩,d,e⟩:=this;exact⟨g,by rw[d,<-e]⟩
end Go.Proofs.YtibjcppjfkamhaaGreatDoor
