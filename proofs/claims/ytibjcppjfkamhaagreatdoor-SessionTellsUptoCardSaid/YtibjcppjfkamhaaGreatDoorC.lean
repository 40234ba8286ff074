import Derived.Shelf.Strings.Builder1
import Derived.Shelf.Strconv.Itoa3
import Derived.Shelf.Strconv.ErrVarAll
import Derived.Shelf.Strings.Shaped
import Derived.Lib.ItoaLen
import Derived.Stop.LaidErr
import Derived.MakeChecks
import Derived.Lib.AppendZerosOnto
import Derived.Shelf.Spec.SlicesInsert
import Derived.Shelf.SlSortCmp.SmallK
import Derived.Test.YtibjcppjfkamhaaGreatDoorB
set_option linter.unusedVariables false
set_option linter.defProp false
set_option linter.unusedSimpArgs false
namespace Go.Proofs.YtibjcppjfkamhaaGreatDoor
open Go.RowKit Go.Proofs.Tryz
open _root_.And renaming intro->AN
open _root_.Bool renaming and_eq_true->It
open _root_.ByteArray renaming empty->IS
open _root_.Int renaming toNat_natCast->Qc
open _root_.List renaming getElem?_eq_getElem->No,getElem?_eq_some_iff->OR,length_append->Of,mem_cons->QG,replicate->QH,length_cons->QI,map->QK,map_cons->QO,all_eq_true->QP,append_assoc->QR,mem_append->QS,mem_map->QT,length_map->QU,getElem?_set->QV,getElem?_append_right->QY,length_set->Qa,getElem?_eq_none->Qb,nil_append->Qd,mem_singleton->Qf,length_nil->Qh,getElem?_map->Qi,eq_nil_of_length_eq_zero->Qj,getElem?_drop->Qk,ext_getElem?->Ql,getElem?_append_left->Qn,length_take->Qo,mem_cons_of_mem->Qp,getElem?_take->Qs,size_toArray->Qu,getElem?_cons_succ->Qw,getElem?_cons_zero->Qy
open _root_.Nat renaming ble->AT,beq->BY,le_refl->NO,le_of_ble_eq_true->QW,zero_add->Qg,add_assoc->Qm
open _root_.Option renaming bind_some->A0,map_eq_some_iff->QL,map_some->QZ
open _root_.Or renaming inl->IN
section
variable {Γ:bE}
def tY{c:Ctx}{x sh:Nat}{u v:Value}(h:x≠sh):((c.aL x u).aL sh v).hd x=u:=by simp[Ctx.aL,h]
def wm{c:Ctx}{x sh:Nat}{u v:Value}:((c.aL x u).aL sh v).hd sh=v:=by simp[Ctx.aL]
def p7{c:Ctx}{x sh i:Nat}{u v:Value}(a:i≠x)(b:i≠sh):((c.aL x u).aL sh v).hd i=c.hd i:=by simp[Ctx.aL,a,b]
def Gh.pg{ts:Ts}{os:Os}(id x g i off:Nat){sz e sh isz ie:Nat}{f:cR}{l:List (List AV)}{q:Hs}{ls:List (List AV)}{X:List AV}(hid:lk os id=some (.deep sz e f l q sh))(H:lk f off=some (isz,ie))(hi:l[i]?=some X)(ho:X[off]?=some (.sl isz ls))(hno:gZ q off=none)(s:BY id x=false)(z:BY id g=false)(B:BY x g=false)(hn4:(q.all fun p=>!Nat.beq p.2.2 x && !Nat.beq p.2.2 g)=true)(hf1:G8 [x,g] ts=true)(hf2:H5 [x,g] [(id,.deep sz e f l ((i,off,x)::q) g),(x,.row isz ls ie),(g,.aK)] os=true):
  Gh Γ ts os (fun _:Unit=>ts) (fun _=>(id,.deep sz e f l ((i,off,x)::q) g)::(x,.row isz ls ie)::(g,.aK)::os):=by
 have s:=I5 s;have z:=I5 z;have B:=I5 B;have hh:∀j o y,(j,o,y)∈q->y≠x/\y≠g:=fun j o y O=>by
  have:=QP.1 hn4 _ O;simp only[It,Bool.not_eq_true'] at this;exact⟨I5 this.1,I5 this.2⟩
 refine Gh.of (need:=[(id,.deep sz e f l q sh)]) (upd:=fun _=>[(id,.deep sz e f l ((i,off,x)::q) g),(x,.row isz ls ie),(g,.aK)]) (ex:=fun _=>[]) (news:=[x,g]) ⟨hid,trivial⟩ hf1 (fun _=>hf2) (fun _=>?_) fun c w aO _=>?_
 ·simp only[List.all_cons,List.all_nil,Bool.and_true,It];exact⟨by rw[F7 _ _ s,j6];rfl,by rw[F7 _ _ z,F7 _ _ B,j6];rfl⟩
 obtain⟨css,p1,F,p3,p4⟩:=aO.rep id _ (j6 _ _ _);have E:css[i]?=some (css[i]'(by rw[F.len];exact(OR.1 hi).1)):=No _;generalize css[i]'(by rw[F.len];exact(OR.1 hi).1)=us at E;have V:=(F.cell i us X E hi).1;have Y:us[off]?=some (us[off]'(by rw[V];exact(OR.1 ho).1)):=No _;generalize us[off]'(by rw[V];exact(OR.1 ho).1)=u at Y;have U:¬fE q i off:=FA hno i;obtain⟨M,Q,q2⟩:=F.inner i us X off isz ie u E hi H Y U;have hls:M=ls:=by rw[ho] at Q;injection Q with Q;injection Q with _ Q;exact Q.symm
 subst hls;have K:bO css f q i off u:=⟨us,_,E,H,Y,U⟩;obtain⟨L,hL⟩:=A9 css f ((i,off,x)::q);have m:∀{j o v},bO css f ((i,off,x)::q) j o v->bO css f q j o v/\¬(j=i/\o=off):=fun {j o v} ⟨us',p,a,b,d,hq⟩=>⟨⟨us',p,a,b,d,fun⟨y,hy⟩=>hq ⟨y,Qp _ hy⟩⟩,fun⟨e1,e2⟩=>hq ⟨x,by rw[e1,e2];simp⟩⟩;have r:∀b,aW c id (.deep sz e f l q sh) b->Touch c [(id,.deep sz e f l q sh)] [(id,.deep sz e f l ((i,off,x)::q) g),(x,.row isz M ie),(g,.aK)] b:=fun b G=>⟨id,_,j6 _ _ _,by rw[j6];rfl,G⟩;have I:∀{j o v b},bO css f q j o v->v.ownBlock=some b->aW c id (.deep sz e f l q sh) b:=fun {j o v b} C G=>.inr ⟨v,(p3 v).2 ⟨j,o,C⟩,G⟩;refine⟨(),(c.aL x u).aL g (.tuple L.toArray),aR.mk' aO rfl rfl rfl rfl (NO _) (fun _ _ _=>rfl) (fun k hk=>⟨rfl,p7 (by rintro rfl;simp at hk) (by rintro rfl;simp at hk)⟩) (fun k o hl=>?_) (fun k o b hl D=>?_) (fun k k' o o' b hne hl hl' D J=>?_),fun t y h=>by cases h⟩
 ·rcases bV hl with⟨rfl,rfl⟩|⟨_,rfl,rfl⟩|⟨_,_,rfl,rfl⟩
  ·refine⟨css,by rw[p7 s z];exact p1,⟨F.len,F.cell,fun j us' Z o W ie' u' R S a3 a4 a5=>F.inner j us' Z o W ie' u' R S a3 a4 fun⟨y,hy⟩=>a5 ⟨y,Qp _ hy⟩,fun j o y us' u' O R S=>?_,fun j o v j' o' v' b N T=>F.apart j o v j' o' v' b (m N).1 (m T).1⟩,fun v=>by rw[wm,pC];exact hL v,fun j o v b C G=>p4 j o v b (m C).1 (by rwa [p7 s z] at G)⟩;rcases QG.1 O with e'|O
   ·cases e';rw[E] at R;cases R;rw[Y] at S;cases S;obtain⟨h,e1,_,e2,e3⟩:=O5.BO q2;exact⟨(tY B).symm,h.A,h.n,h.c,e1,e2,e3⟩
   ·have:=hh j o y O;rw[p7 this.1 this.2];exact F.hole j o y us' u' O R S
  ·show O5 c.Φ w (((c.aL k u).aL g (.tuple L.toArray)).hd k) isz M ie;rw[tY B];exact q2
  ·trivial
 ·rcases bV hl with⟨rfl,rfl⟩|⟨_,rfl,rfl⟩|⟨_,_,rfl,rfl⟩
  ·rcases D with D|⟨v,C,G⟩
   ·rw[p7 s z] at D;exact .inr (r b (.inl D))
   ·rw[wm,pC] at C;obtain⟨j,o,C⟩:=(hL v).1 C;exact .inr (r b (I (m C).1 G))
  ·have D:(((c.aL k u).aL g (.tuple L.toArray)).hd k).ownBlock=some b:=D;rw[tY B] at D;exact .inr (r b (I K D))
  ·exact D.elim
 ·have key:∀b,aW ((c.aL x u).aL g (.tuple L.toArray)) id (.deep sz e f l ((i,off,x)::q) g) b->(((c.aL x u).aL g (.tuple L.toArray)).hd x).ownBlock=some b->False:=fun b N T=>by
   rw[tY B] at T;rcases N with N|⟨v,C,G⟩
   ·rw[p7 s z] at N;exact p4 i off u b K N T
   ·rw[wm,pC] at C;obtain⟨j,o,C⟩:=(hL v).1 C;exact(m C).2 (F.apart j o v i off u b (m C).1 K G T)
  rcases bV hl with⟨rfl,rfl⟩|⟨_,rfl,rfl⟩|⟨_,_,rfl,rfl⟩<;>rcases bV hl' with⟨rfl,rfl⟩|⟨_,rfl,rfl⟩|⟨_,_,rfl,rfl⟩<;>first|exact hne rfl|exact D.elim|exact J.elim|exact key b D J|exact key b J D
def Gh.attach{ts:Ts}{os:Os}(id y g i off:Nat){sz e sh isz ie:Nat}{f:cR}{l l':List (List AV)}{n:Hs}{ls:List (List AV)}{M:List AV}(hid:lk os id=some (.deep sz e f l n sh))(hy:lk os y=some (.row isz ls ie))(H:lk f off=some (isz,ie))(hi:l[i]?=some M)(aa:gZ n off=some (i,y))(hu:pQ n=true)(X:l'=l.set i (M.set off (.sl isz ls)))(A:BY id y=false)(r:BY id g=false)(O:BY y g=false)(hn4:(n.all fun p=>!Nat.beq p.2.2 g)=true)(hf1:G8 [g] ts=true)(hf2:H5 [g] [(id,.deep sz e f l' (ef n off) g),(y,.aK),(g,.aK)] os=true):
  Gh Γ ts os (fun _:Unit=>ts) (fun _=>(id,.deep sz e f l' (ef n off) g)::(y,.aK)::(g,.aK)::os):=by
 have A:=I5 A;have r:=I5 r;have O:=I5 O;have hh:∀j o z,(j,o,z)∈n->z≠g:=fun j o z hm=>by
  have:=QP.1 hn4 _ hm;simp only[Bool.not_eq_true'] at this;exact I5 this
 refine Gh.of (need:=[(id,.deep sz e f l n sh),(y,.row isz ls ie)]) (upd:=fun _=>[(id,.deep sz e f l' (ef n off) g),(y,.aK),(g,.aK)]) (ex:=fun _=>[]) (news:=[g]) ⟨hid,hy,trivial⟩ hf1 (fun _=>hf2) (fun _=>?_) fun c w aO _=>?_
 ·simp only[List.all_cons,List.all_nil,Bool.and_true];rw[F7 _ _ r,F7 _ _ O,j6];rfl
 have g1:lk [(id,Obj.deep sz e f l n sh),(y,.row isz ls ie)] id=some (.deep sz e f l n sh):=j6 _ _ _;have g2:lk [(id,Obj.deep sz e f l n sh),(y,.row isz ls ie)] y=some (.row isz ls ie):=by rw[F7 _ _ A,j6]
 obtain⟨css,p1,D,p3,p4⟩:=aO.rep id _ g1;have ry:O5 c.Φ w (c.hd y) isz ls ie:=aO.rep y _ g2;have W:i<l.length:=(OR.1 hi).1;have q:css[i]?=some (css[i]'(by rw[D.len];exact W)):=No _;generalize css[i]'(by rw[D.len];exact W)=us at q;obtain⟨L,hL⟩:=A9 css f (ef n off);have N:∀k m,l'[k]?=some m->(k=i/\m=M.set off (.sl isz ls))\/(k≠i/\l[k]?=some m):=fun k m h=>by
  rw[X,QV] at h;split at h
  ·rename_i e1;subst e1;cases h;exact .inl ⟨rfl,rfl⟩
  ·rename_i e1;exact .inr ⟨fun h'=>e1 h'.symm,h⟩
 have F:∀{j o v},bO css f (ef n off) j o v->(j=i/\o=off/\v=c.hd y)\/(bO css f n j o v/\¬(j=i/\o=off)):=fun {j o v} ⟨us',p,a,b,d,hq⟩=>by
  by_cases e1:j=i/\o=off
  ·obtain⟨rfl,rfl⟩:=e1;exact .inl ⟨rfl,rfl,(D.hole j o y us' v (zq aa) a d).1⟩
  ·refine .inr ⟨⟨us',p,a,b,d,fun⟨z,hz⟩=>?_⟩,e1⟩;by_cases e2:o=off
   ·subst e2;exact e1 ⟨(d64 hu aa hz).1,rfl⟩
   ·exact hq ⟨z,pA.2 ⟨hz,e2⟩⟩
 have T1:∀b,aW c id (.deep sz e f l n sh) b->Touch c [(id,.deep sz e f l n sh),(y,.row isz ls ie)] [(id,.deep sz e f l' (ef n off) g),(y,.aK),(g,.aK)] b:=fun b x=>⟨id,_,g1,by rw[j6];rfl,x⟩;have T2:∀b,(c.hd y).ownBlock=some b->Touch c [(id,.deep sz e f l n sh),(y,.row isz ls ie)] [(id,.deep sz e f l' (ef n off) g),(y,.aK),(g,.aK)] b:=fun b x=>⟨y,_,g2,by rw[F7 _ _ A,j6];rfl,x⟩;have C:∀{j o v b},bO css f n j o v->v.ownBlock=some b->aW c id (.deep sz e f l n sh) b:=fun {j o v b} J x=>.inr ⟨v,(p3 v).2 ⟨j,o,J⟩,x⟩;have E:∀b,aW c id (.deep sz e f l n sh) b->(c.hd y).ownBlock=some b->False:=fun b V h2=>aO.sep id y _ _ b A g1 g2 V h2;have B:∀z,z≠g->(c.aL g (.tuple L.toArray)).hd z=c.hd z:=fun z hz=>by simp[Ctx.aL,hz]
 have Z:(c.aL g (.tuple L.toArray)).hd g=.tuple L.toArray:=by simp[Ctx.aL]
 refine⟨(),c.aL g (.tuple L.toArray),aR.mk' aO rfl rfl rfl rfl (NO _) (fun _ _ _=>rfl) (fun k hk=>⟨rfl,B k (by rintro rfl;simp at hk)⟩) (fun k o hl=>?_) (fun k o b hl I=>?_) (fun k k' o o' b Q hl hl' I hf'=>?_),fun t y h=>by cases h⟩
 ·rcases bV hl with⟨rfl,rfl⟩|⟨_,rfl,rfl⟩|⟨_,_,rfl,rfl⟩
  ·refine⟨css,by rw[B k r];exact p1,⟨by rw[D.len,X,Qa],fun j us' m s G=>?_,fun j us' m o K ie' u' s G T a4 a5=>?_,fun j o z us' u' hm s G=>?_,fun j o v j' o' v' b V h2 U R=>?_⟩,fun v=>by rw[Z,pC];exact hL v,fun j o v b J x hvb=>?_⟩
   ·rcases N j m G with⟨rfl,rfl⟩|⟨_,G⟩
    ·rw[q] at s;cases s;have old:=D.cell j us M q hi;refine⟨by simpa using old.1,fun o u a U R hn=>?_⟩;have:o≠off:=fun e1=>by rw[e1,H] at hn;cases hn
     rw[List.getElem?_set_ne (fun e1=>this e1.symm)] at R;exact old.2 o u a U R hn
    ·exact D.cell j us' m s G
   ·rcases F (j:=j) (o:=o) (v:=u') ⟨us',_,s,T,a4,a5⟩ with⟨rfl,rfl,rfl⟩|⟨⟨us2,p,c1,c2,c3,c4⟩,Q⟩
    ·rw[H] at T;cases T;rcases N j m G with⟨_,rfl⟩|⟨h',_⟩
     ·refine⟨ls,?_,ry⟩;have:o<M.length:=by
       have V:=(D.cell j us M q hi).1;rw[q] at s;cases s;rw[<-V];exact(OR.1 a4).1
      rw[List.getElem?_set_self this]
     ·exact absurd rfl h'
    ·rcases N j m G with⟨rfl,rfl⟩|⟨_,G⟩
     ·have:o≠off:=fun e1=>Q ⟨rfl,e1⟩;rw[q] at s;cases s;rw[List.getElem?_set_ne (fun e1=>this e1.symm)];exact D.inner j us M o K ie' u' q hi T a4 c4
     ·exact D.inner j us' m o K ie' u' s G T a4 c4
   ·have Y:=pA.1 hm;rw[B z (hh j o z Y.1)];exact D.hole j o z us' u' Y.1 s G
   ·rcases F V with⟨rfl,rfl,rfl⟩|⟨S,n1⟩<;>rcases F h2 with⟨rfl,rfl,rfl⟩|⟨q2,n2⟩
    ·exact⟨rfl,rfl⟩
    ·exact(E b (C q2 R) U).elim
    ·exact(E b (C S U) R).elim
    ·exact D.apart j o v j' o' v' b S q2 U R
   ·rw[B k r] at x;rcases F J with⟨rfl,rfl,rfl⟩|⟨S,_⟩
    ·exact E b (.inl x) hvb
    ·exact p4 j o v b S x hvb
  ·trivial
  ·trivial
 ·rcases bV hl with⟨rfl,rfl⟩|⟨_,rfl,rfl⟩|⟨_,_,rfl,rfl⟩
  ·rcases I with I|⟨v,J,x⟩
   ·rw[B k r] at I;exact .inr (T1 b (.inl I))
   ·rw[Z,pC] at J;obtain⟨j,o,J⟩:=(hL v).1 J;rcases F J with⟨_,_,rfl⟩|⟨S,_⟩
    ·exact .inr (T2 b x)
    ·exact .inr (T1 b (C S x))
  ·exact I.elim
  ·exact I.elim
 ·rcases bV hl with⟨rfl,rfl⟩|⟨_,rfl,rfl⟩|⟨_,_,rfl,rfl⟩<;>rcases bV hl' with⟨rfl,rfl⟩|⟨_,rfl,rfl⟩|⟨_,_,rfl,rfl⟩<;>first|exact Q rfl|exact I.elim|exact hf'.elim
end
section
variable {Γ:bE}{P:Program}
def F8.po{ts:Ts}{os:Os}(id:Nat){sz:Nat}{ls:List (List AV)}{ob:Obj}(B:lk os id=some ob)(W:∀(c:Ctx) (w:World) (v:Value) (g:Os),R4 c w g->lk g id=some ob->Rd c w v (.aN id)->Rd (c.fz g) w v (.sl sz ls)){a:Act}{w:World}(E:F8 Γ ts os a w):F8 Γ (nJ id sz ls ts) ((id,.aK)::kR id sz ls os) a w:=by
 obtain⟨e,⟨M,N,O,z,Q⟩,R⟩:=E;have f:∀i o,lk [(id,ob)] i=some o->lk os i=some o:=fun i o hl=>by
  rw[p8] at hl;split at hl
  ·rename_i e1;subst e1;cases hl;exact B
  ·cases hl
 have m:=z.sub f;have J:=aR.freeze m;have l:R4 (e.fz [(id,ob)]) w (J3 [(id,ob)]++os):=z.frame f J (fun _ h=>(by cases h)) (fun _ _ _ _ _ h=>(by cases h));have I:∀v a,Rd e w v a->Rd (e.fz [(id,ob)]) w v a:=fun v a E=>Rd.mono (c:=e) (c':=e.fz [(id,ob)]) (fun _ _=>rfl) (fun _ h=>IN h) (fun _ _=>⟨rfl,rfl⟩) E;have H:∀v,Rd e w v (.aN id)->Rd (e.fz [(id,ob)]) w v (.sl sz ls):=fun v T=>W e w v _ m (j6 _ _ _) T;have j:∀i o,lk ((id,Obj.aK)::kR id sz ls os) i=some o->∃k,lk (J3 [(id,ob)]++os) i=some k/\(∀b,aW (e.fz [(id,ob)]) i o b↔aW (e.fz [(id,ob)]) i k b)/\dZ (e.fz [(id,ob)]) w i o:=fun i o hl=>by
  have S:=hl;rw[p8] at hl;split at hl
  ·rename_i e1;subst e1;cases hl;exact⟨.aK,by simp[J3,j6],fun _=>Iff.rfl,trivial⟩
  ·rename_i e1;rw[AP] at hl;obtain⟨k,r,rfl⟩:=QL.1 hl;have q:lk (J3 [(id,ob)]++os) i=some k:=by simp only[J3,List.cons_append,Qd];rw[F7 _ _ e1];exact r
   have s:=l.rep i k q;refine⟨k,q,fun b=>?_,?_⟩
   ·cases k<;>exact Iff.rfl
   ·cases k with
    |box L e2 =>
     obtain⟨us,F,G⟩:=z.rep i _ r;exact⟨us,F,D5.cu I H L G⟩
    |_=>exact s
 refine⟨e.fz [(id,ob)],⟨M,N,fun t x hl=>?_,⟨fun i o hl=>?_,fun i o b hl p=>?_,fun i K o k b D hl C p A=>?_,l.aq⟩,?_⟩,R⟩
 ·rw[AO] at hl;obtain⟨y,V,rfl⟩:=QL.1 hl;obtain⟨v,F,G⟩:=O t y V;exact⟨v,F,Rd.lK I H y G⟩
 ·obtain⟨_,_,_,h⟩:=j i o hl;exact h
 ·obtain⟨u,g1,n,_⟩:=j i o hl;exact l.lt i u b g1 ((n b).1 p)
 ·obtain⟨u,g1,n,_⟩:=j i o hl;obtain⟨Z,X,Y,_⟩:=j K k C;exact l.sep i K u Z b D g1 X ((n b).1 p) ((Y b).1 A)
 ·have d:Inv Γ (e.fz [(id,ob)]) w (J3 [(id,ob)]++os):=Q.post z f J (fun _ h=>(by cases h)) (fun _ _ _ _ x U=>(by cases U));exact⟨d.dB,d.tape,d.output,d.size,d.aq,d.al,d.ad,fun i o b hl p=>by
   obtain⟨u,g1,n,_⟩:=j i o hl;exact d.ay i u b g1 ((n b).1 p)⟩
def j5.az{c:Code}{ts:Ts}{os:Os}{Q:Qt}(id:Nat){sz e sh:Nat}{b:cR}{l:List (List AV)}(d:lk os id=some (.deep sz e b l [] sh))(h:j5 P Γ c (nJ id sz l ts) ((id,.aK)::kR id sz l os) Q):j5 P Γ c ts os Q :=
 ⟨fun a w f=>h.run a w (f.po id d fun _ _ _ _ aO g f=>Ae aO g f)⟩
def Gh.qL{ts:Ts}{os:Os}(id sh:Nat)(a:cR){sz e:Nat}(n:lk os id=some (.row sz [] e))(d:BY id sh=false)(l:G8 [sh] ts=true)(m:H5 [sh] [(id,.deep sz e a [] [] sh),(sh,.aK)] os=true):
  Gh Γ ts os (fun _:Unit=>ts) (fun _=>(id,.deep sz e a [] [] sh)::(sh,.aK)::os):=by
 have d:=I5 d;refine Gh.of (need:=[(id,.row sz [] e)]) (upd:=fun _=>[(id,.deep sz e a [] [] sh),(sh,.aK)]) (ex:=fun _=>[]) (news:=[sh]) ⟨n,trivial⟩ l (fun _=>m) (fun _=>?_) fun c w aO _=>?_
 ·simp only[List.all_cons,List.all_nil,Bool.and_true];rw[F7 _ _ d,j6];rfl
 obtain⟨css,G,H,L⟩:=aO.rep id _ (j6 _ _ _);have g:css=[]:=Qj (by simpa using H);subst g;have z:(c.aL sh (.tuple #[])).hd id=c.hd id:=by simp[Ctx.aL,d]
 have A:(c.aL sh (.tuple #[])).hd sh=.tuple #[]:=by simp[Ctx.aL]
 have s:∀{i off v},¬bO [] a [] i off v:=fun {i off v} ⟨us,p,h,_⟩=>by simp at h
 refine⟨(),c.aL sh (.tuple #[]),aR.mk' aO rfl rfl rfl rfl (NO _) (fun _ _ _=>rfl) (fun k E=>⟨rfl,by have:k≠sh:=(by rintro rfl;simp at E);simp[Ctx.aL,this]⟩) (fun k o hl=>?_) (fun k o b hl f=>?_) (fun k J o K b r hl q f j=>?_),fun t y h=>by cases h⟩
 ·rcases dA hl with⟨rfl,rfl⟩|⟨_,rfl,rfl⟩
  ·refine⟨[],by rw[z];exact G,⟨rfl,fun i us D h=>by simp at h,fun i us D off isz ie u h=>by simp at h,fun i off x us u F=>(by cases F),fun i off v I C M b h=>(s h).elim⟩,fun v=>by rw[A];exact⟨fun h=>by simp[fF] at h,fun⟨i,off,h⟩=>(s h).elim⟩,fun i off v b h=>(s h).elim⟩
  ·trivial
 ·rcases dA hl with⟨rfl,rfl⟩|⟨_,rfl,rfl⟩
  ·rcases f with f|⟨v,B,_⟩
   ·rw[z] at f;exact .inr ⟨k,_,j6 _ _ _,by rw[j6];rfl,f⟩
   ·rw[A] at B;simp[fF] at B
  ·exact f.elim
 ·rcases dA hl with⟨rfl,rfl⟩|⟨_,rfl,rfl⟩<;>rcases dA q with⟨rfl,rfl⟩|⟨_,rfl,rfl⟩<;>first|exact r rfl|exact f.elim|exact j.elim
end
def Gh.uV{Γ:bE}{ts:Ts}{os:Os}(b off j g m:Nat){p:List AV}{q sz e sh:Nat}{f:cR}{l:List (List AV)}(Z:lk os b=some (.box p q))(aa:p[off]?=some (.aN j))(hj:lk os j=some (.deep sz e f l [] sh))(hi:(AV.ar p).all (fun i=>!Nat.beq i g && !Nat.beq i m)=true)(s:BY b j=false)(D:BY b g=false)(E:BY j g=false)(F:BY b m=false)(G:BY j m=false)(z:BY g m=false)(K:G8 [g,m] ts=true)(L:H5 [g,m] [(b,.box (p.set off (.aN g)) q),(g,.deep sz e f l [] m),(m,.aK),(j,.aK)] os=true):
  Gh Γ ts os (fun _:Unit=>ts) (fun _=>(b,.box (p.set off (.aN g)) q)::(g,.deep sz e f l [] m)::(m,.aK)::(j,.aK)::os):=by
 have s:=I5 s;have D:=I5 D;have E:=I5 E;have F:=I5 F;have G:=I5 G;have z:=I5 z;refine Gh.of (need:=[(b,.box p q),(j,.deep sz e f l [] sh)]) (upd:=fun _=>[(b,.box (p.set off (.aN g)) q),(g,.deep sz e f l [] m),(m,.aK),(j,.aK)]) (ex:=fun _=>[]) (news:=[g,m]) ⟨Z,hj,trivial⟩ K (fun _=>L) (fun _=>?_) fun c w aO _=>?_
 ·simp only[List.all_cons,List.all_nil,Bool.and_true,It];exact⟨by rw[F7 _ _ D,j6];rfl,by rw[F7 _ _ F,F7 _ _ z,j6];rfl⟩
 have R:lk [(b,Obj.box p q),(j,.deep sz e f l [] sh)] b=some (.box p q):=j6 _ _ _;have S:lk [(b,Obj.box p q),(j,.deep sz e f l [] sh)] j=some (.deep sz e f l [] sh):=by rw[F7 _ _ s,j6]
 obtain⟨us,u1,V⟩:=aO.rep b _ R;obtain⟨css,p1,I,p3,p4⟩:=aO.rep j _ S;have e1:((c.aL g (c.hd j)).aL m (c.hd sh)).hd g=c.hd j:=tY z;have T:((c.aL g (c.hd j)).aL m (c.hd sh)).hd m=c.hd sh:=wm;have r:∀{k o},lk [(b,Obj.box (p.set off (.aN g)) q),(g,.deep sz e f l [] m),(m,.aK),(j,.aK)] k=some o->(k=b/\o=.box (p.set off (.aN g)) q)\/(k=g/\o=.deep sz e f l [] m)\/o=.aK:=fun {k o} h=>by
  rw[p8] at h;split at h
  ·rename_i e;subst e;cases h;exact .inl ⟨rfl,rfl⟩
  rw[p8] at h;split at h
  ·rename_i e;subst e;cases h;exact .inr (.inl ⟨rfl,rfl⟩)
  rw[p8] at h;split at h
  ·cases h;exact .inr (.inr rfl)
  rw[p8] at h;split at h
  ·cases h;exact .inr (.inr rfl)
  ·cases h
 have W:∀d,aW c b (.box p q) d->Touch c [(b,.box p q),(j,.deep sz e f l [] sh)] [(b,.box (p.set off (.aN g)) q),(g,.deep sz e f l [] m),(m,.aK),(j,.aK)] d:=fun d hd=>⟨b,_,R,by rw[j6];rfl,hd⟩;have X:∀d,aW c j (.deep sz e f l [] sh) d->Touch c [(b,.box p q),(j,.deep sz e f l [] sh)] [(b,.box (p.set off (.aN g)) q),(g,.deep sz e f l [] m),(m,.aK),(j,.aK)] d:=fun d hd=>⟨j,_,S,by rw[F7 _ _ s,F7 _ _ (Ne.symm E),F7 _ _ (Ne.symm G),j6];rfl,hd⟩;have J:∀d,aW ((c.aL g (c.hd j)).aL m (c.hd sh)) g (.deep sz e f l [] m) d->aW c j (.deep sz e f l [] sh) d:=fun d hd=>by
  rcases hd with hd|⟨v,H,O⟩
  ·rw[e1] at hd;exact .inl hd
  ·rw[T] at H;exact .inr ⟨v,H,O⟩
 refine⟨(),(c.aL g (c.hd j)).aL m (c.hd sh),aR.mk' aO rfl rfl rfl rfl (NO _) (fun _ _ _=>rfl) (fun k U=>⟨rfl,p7 (by rintro rfl;simp at U) (by rintro rfl;simp at U)⟩) (fun k o hl=>?_) (fun k o d hl B=>?_) (fun k k' o o' d N hl M B C=>?_),fun t y h=>by cases h⟩
 ·rcases r hl with⟨rfl,rfl⟩|⟨rfl,rfl⟩|rfl
  ·refine⟨us,u1,?_⟩;obtain⟨v,v1,v2⟩:=V.get aa;have i1:(AV.ar p).all (fun i=>!Nat.beq i g)=true:=by
    rw[QP] at hi⊢;intro x Q;have:=hi x Q;simp only[It] at this;exact this.1
   have i2:(AV.ar p).all (fun i=>!Nat.beq i m)=true:=by
    rw[QP] at hi⊢;intro x Q;have:=hi x Q;simp only[It] at this;exact this.2
   have u3:=(V.aL (v:=c.hd j) i1).aL (v:=c.hd sh) i2;obtain⟨A,n,cap,q1,q2,q3,q4⟩:=v2.bJ;have:=u3.set off (v:=v) (a:=.aN g) (by rw[q1];exact .aN (by rw[e1,q2]) q3 q4)
   rwa [cX v1] at this
  ·refine⟨css,by rw[e1];exact p1,⟨I.len,I.cell,I.inner,fun i off x us u hm=>(by cases hm),I.apart⟩,fun v=>by rw[T];exact p3 v,fun i off v d H hd=>p4 i off v d H (by rwa [e1] at hd)⟩
  ·trivial
 ·rcases r hl with⟨rfl,rfl⟩|⟨rfl,rfl⟩|rfl
  ·exact .inr (W d B)
  ·exact .inr (X d (J d B))
  ·exact B.elim
 ·have apart:∀d,aW c j (.deep sz e f l [] sh) d->d=c.μ b->False:=fun d h Y=>aO.sep j b _ _ d (Ne.symm s) S R h Y;rcases r hl with⟨rfl,rfl⟩|⟨rfl,rfl⟩|rfl<;>rcases r M with⟨rfl,rfl⟩|⟨rfl,rfl⟩|rfl<;>first|exact N rfl|exact B.elim|exact C.elim|exact apart d (J d B) C|exact apart d (J d C) B
def Gh.BS{Γ:bE}{ts:Ts}{os:Os}(id a:Nat){sz e sh:Nat}{b:cR}{l:List (List AV)}(r:lk os id=some (.deep sz e b l [] sh))(f:BY id a=false)(p:G8 [a] ts=true)(q:H5 [a] [(id,.deep sz e b l [] a),(a,.aK)] os=true):
  Gh Γ ts os (fun _:Unit=>ts) (fun _=>(id,.deep sz e b l [] a)::(a,.aK)::os):=by
 have f:=I5 f;refine Gh.of (need:=[(id,.deep sz e b l [] sh)]) (upd:=fun _=>[(id,.deep sz e b l [] a),(a,.aK)]) (ex:=fun _=>[]) (news:=[a]) ⟨r,trivial⟩ p (fun _=>q) (fun _=>?_) fun c w aO _=>?_
 ·simp only[List.all_cons,List.all_nil,Bool.and_true];rw[F7 _ _ f,j6];rfl
 have g1:lk [(id,Obj.deep sz e b l [] sh)] id=some (.deep sz e b l [] sh):=j6 _ _ _;obtain⟨css,F,m,G,H⟩:=aO.rep id _ g1;have e1:(c.aL a (c.hd sh)).hd id=c.hd id:=by simp[Ctx.aL,f]
 have B:(c.aL a (c.hd sh)).hd a=c.hd sh:=by simp[Ctx.aL]
 have C:∀d,aW (c.aL a (c.hd sh)) id (.deep sz e b l [] a) d->aW c id (.deep sz e b l [] sh) d:=fun d hd=>by
  rcases hd with hd|⟨v,j,A⟩
  ·rw[e1] at hd;exact .inl hd
  ·rw[B] at j;exact .inr ⟨v,j,A⟩
 refine⟨(),c.aL a (c.hd sh),aR.mk' aO rfl rfl rfl rfl (NO _) (fun _ _ _=>rfl) (fun k D=>⟨rfl,by have:k≠a:=(by rintro rfl;simp at D);simp[Ctx.aL,this]⟩) (fun k o hl=>?_) (fun k o d hl g=>?_) (fun k I o J d z hl s g n=>?_),fun t y h=>by cases h⟩
 ·rcases dA hl with⟨rfl,rfl⟩|⟨_,rfl,rfl⟩
  ·exact⟨css,by rw[e1];exact F,⟨m.len,m.cell,m.inner,fun i off x us u E=>(by cases E),m.apart⟩,fun v=>by rw[B];exact G v,fun i off v d j hd=>H i off v d j (by rwa [e1] at hd)⟩
  ·trivial
 ·rcases dA hl with⟨rfl,rfl⟩|⟨_,rfl,rfl⟩
  ·exact .inr ⟨k,_,g1,by rw[j6];rfl,C d g⟩
  ·exact g.elim
 ·rcases dA hl with⟨rfl,rfl⟩|⟨_,rfl,rfl⟩<;>rcases dA s with⟨rfl,rfl⟩|⟨_,rfl,rfl⟩<;>first|exact z rfl|exact g.elim|exact n.elim
section
variable {α:Type}{enc:α->List AV}
def HA{l:List α}{i:Nat}{x:α}(h:l[i]?=some x):i<(l.map enc).length:=by
 rw[QU];exact(OR.1 h).1
def uo{l:List α}{i:Nat}{x:α}(h:l[i]?=some x):(l.map enc)[i]?=some (enc x):=by rw[Qi,h];rfl
def Po{l:List α}{i:Int}{x:α}(h:j3 l i=some x){X Y K:Prop}(a:X)(b:Y)(H:K):X/\Y/\0<=i/\i<((l.map enc).length:Int)/\K :=
 ⟨a,b,R7 h H⟩
def BA{l:List α}{i:Nat}{x:α}(h:l[i]?=some x){A B C D K:Prop}(a:A)(b:B)(c:C)(d:D)(H:K):A/\B/\i<(l.map enc).length/\C/\D/\K:=⟨a,b,HA h,c,d,H⟩
def On{l:List α}{i:Nat}{x:α}(h:l[i]?=some x){A B D K:Prop}(a:A)(b:B)(d:D)(H:K):A/\B/\i<(l.map enc).length/\D/\K:=⟨a,b,HA h,d,H⟩
def Pw{l:List α}{i:Nat}{x:α}(h:l[i]?=some x){A B C:Prop}(a:A)(b:B)(c:C){K:List AV->Prop}(H:K (enc x)):A/\B/\C/\i<(l.map enc).length/\∀d,(l.map enc)[i]?=some d->K d :=
 ⟨a,b,c,Q9 h H⟩
def Gr{l:List α}{i:Nat}{b:α}{a:List AV}(h:a=enc b):(l.set i b).map enc=(l.map enc).set i a:=by rw[h,List.map_set]
def MU{l:List α}{i:Nat}{x:α}(h:l[i]?=some x){a:List AV}(b:a=enc x):l.map enc=(l.map enc).set i a:=by
 rw[b];exact(cX (uo h)).symm
def setAt{l:List α}{i:Nat}{x y:α}(h:l[i]?=some x):(l.set i y)[i]?=some y:=List.getElem?_set_self (OR.1 h).1
def PX{h l2:List α}{B:Nat}(k:AT ((h.length+l2.length)*B) 140737488355328=true){a b c d e f g:Prop}(j:a)(i:b)(l:c)(hd:d)(m:e)(n:f)(o:g){K:List (List AV)->Prop}(H:K ((h++l2).map enc)):
  a/\b/\c/\d/\e/\f/\g/\((h.map enc).length+(l2.map enc).length)*B<=140737488355328/\∀q,q=h.map enc++l2.map enc->K q :=
 ⟨j,i,l,hd,m,n,o,by rw[QU,QU];exact QW k,fun q e=>by rw[e,<-List.map_append];exact H⟩
end
def Gw{α a:Type}{o:Option α}{A:Option a}{B:α->Option a}{r:a}(h:o.elim A B=some r):(o=none/\A=some r)\/∃x,o=some x/\B x=some r:=by
 cases o with
 |none=>exact .inl ⟨rfl,h⟩
 |some x=>exact .inr ⟨x,rfl,h⟩
def BF{e:Nat}(l:List V):rA (.row 2 (l.map eV) e):=fun a h=>by
 obtain⟨x,_,rfl⟩:=QT.1 h;rfl
def OU{e g:Nat}{f:Hs}{sh:Nat}(l:List Ob):rA (.deep 2 e [(1,(2,g))] (l.map eQ) f sh):=fun i h off a b=>by
 obtain⟨x,_,rfl⟩:=QT.1 h;cases off with
 |zero=>simp only[eQ,Qy] at b;cases b;rfl
 |succ off =>
  cases off with
  |zero =>
   simp only[eQ,Qw,Qy] at b;cases b;exact⟨2,_,rfl,fun c d=>by obtain⟨y,_,rfl⟩:=QT.1 d;rfl⟩
  |succ off=>simp[eQ] at b
def Spec.drop1{P:Program}{f:Nat}{need upd:Os}{av:AV}{news:List Nat}{α:Type}{enc:α->List AV}{l:List α}{n sz:Nat}(h:Spec P f need [.sl sz (QK enc (l.drop n))] av upd news):Spec P f need [.sl sz ((QK enc l).drop n)] av upd news:=by
 rw[<-List.map_drop];exact h
def Gh.drop{Γ:bE}{ts:Ts}{os:Os}(id:Nat){o:Obj}(d:lk os id=some o):Gh Γ ts os (fun _:Unit=>ts) (fun _=>(id,.aK)::os) :=
 Gh.of (need:=[(id,o)]) (upd:=fun _=>[(id,.aK)]) (ex:=fun _=>[]) (news:=[]) ⟨d,trivial⟩ rfl (fun _=>rfl) (fun _=>rfl) fun c w aO _ =>
  ⟨(),c,aR.mk' aO rfl rfl rfl rfl (NO _) (fun _ _ _=>rfl) (fun k _=>⟨rfl,rfl⟩) (fun k e hl=>by
   obtain⟨_,rfl⟩:=eu hl;trivial) (fun k e b hl a=>by
   obtain⟨_,rfl⟩:=eu hl;exact a.elim) (fun k j e l b i hl g a f=>by
   obtain⟨_,rfl⟩:=eu hl;exact a.elim),fun t y h=>by cases h⟩
def ph(k:IntKind)(n:Int):List AV:=[.ik k n]
structure O8 where
  aP:V
  name:ByteArray
  args:(List V)
  deriving DecidableEq,Inhabited
def ir(x:O8):List AV:=[.int x.aP.k,.int x.aP.n,.str x.name,.sl 2 (QK eV x.args)]
structure eM where
  kind:Int
  name:ByteArray
  aE:Int
  aG:Int
  aJ:Me
  call:O8
  deriving DecidableEq,Inhabited
def u9(x:eM):List AV:=[.int x.kind,.str x.name,.int x.aE,.int x.aG,.str x.aJ.name,.int x.aJ.args,.int x.aJ.a8,.int x.aJ.aS,.sl 5 (QK bh x.aJ.code),.int x.call.aP.k,.int x.call.aP.n,.str x.call.name,.sl 2 (QK eV x.call.args)]
structure H9 where
  world:Wd
  cells:(List Ce)
  aU:(List Tl)
  saved:(List Int)
  deriving DecidableEq,Inhabited
def M8(x:H9):List AV:=[.sl 4 (QK eA x.world.a7),.sl 2 (QK eQ x.world.heap),.int x.world.aC,.sl 6 (QK fJ x.cells),.sl 4 (QK fx x.aU),.sl 1 (QK (ph .u8) x.saved)]
structure ch where
  err:Int
  n:Int
  value:V
  deriving DecidableEq,Inhabited
def gp(x:ch):List AV:=[.int x.err,.int x.n,.int x.value.k,.int x.value.n]
structure dK where
  err:Int
  aH:Int
  deriving DecidableEq,Inhabited
def wL(x:dK):List AV:=[.int x.err,.int x.aH]
structure F3 where
  s:ByteArray
  fA:Bool
  deriving DecidableEq,Inhabited
def X6(x:F3):List AV:=[.str x.s,.bool x.fA]
structure bC where
  l:(List ByteArray)
  fA:Bool
  deriving DecidableEq,Inhabited
def fI(x:bC):List AV:=[.sl 1 (QK lI x.l),.bool x.fA]
structure dX where
  value:V
  err:Int
  sends:Int
  deriving DecidableEq,Inhabited
def pU(x:dX):List AV:=[.int x.value.k,.int x.value.n,.int x.err,.int x.sends]
structure D9 where
  world:Wd
  fL:dX
  cells:(List Ce)
  aU:(List Tl)
  eh:Int
  not:Int
  deriving DecidableEq,Inhabited
def fD(x:D9):List AV:=[.sl 4 (QK eA x.world.a7),.sl 2 (QK eQ x.world.heap),.int x.world.aC,.int x.fL.value.k,.int x.fL.value.n,.int x.fL.err,.int x.fL.sends,.sl 6 (QK fJ x.cells),.sl 4 (QK fx x.aU),.int x.eh,.int x.not]
structure eI where
  f0:Int
  f1:Int
  deriving DecidableEq,Inhabited
def wi(x:eI):List AV:=[.int x.f0,.int x.f1]
structure TR where
  w:Wd
  fuel:Int
  sends:Int
  turns:Int
  deep:Int
  err:Int
  sites:(List St)
  of:(List Int)
  deriving DecidableEq,Inhabited
def MK(x:TR):List AV:=[.sl 4 (QK eA x.w.a7),.sl 2 (QK eQ x.w.heap),.int x.w.aC,.int x.fuel,.int x.sends,.int x.turns,.int x.deep,.int x.err,.sl 3 (QK Z8 x.sites),.sl 1 (QK bY x.of)]
structure j4 where
  aE:Int
  aJ:Int
  aZ:Bool
  code:(List Ins)
  aP:V
  args:(List V)
  a8:(List V)
  aA:(List V)
  aH:Int
  deriving DecidableEq,Inhabited
def wI(x:j4):List AV:=[.int x.aE,.int x.aJ,.bool x.aZ,.sl 5 (QK bh x.code),.int x.aP.k,.int x.aP.n,.sl 2 (QK eV x.args),.sl 2 (QK eV x.a8),.sl 2 (QK eV x.aA),.int x.aH]
structure J7 where
  w:Wd
  fuel:Int
  sends:Int
  turns:Int
  aF:(List j4)
  back:V
  err:Int
  deriving DecidableEq,Inhabited
structure gL where
  w:Wd
  m:Me
  out:(List Ins)
  a8:Int
  aH:(List Int)
  fix:(List Int)
  deriving DecidableEq,Inhabited
abbrev d81(l:List Cl)(h:Hs)(n:Nat):Obj:=.deep 4 81 [(3,(5,27))] (l.map eA) h n
abbrev d92(l:List Ob)(h:Hs)(n:Nat):Obj:=.deep 2 92 [(1,(2,29))] (l.map eQ) h n
abbrev U9(l:List j4)(h:Hs)(n:Nat):Obj:=.deep 10 288 [(7,(2,29)),(8,(2,29))] (l.map wI) h n
abbrev mB(a:J7)(l q:AV)(x f:Nat):Obj:=.box [.ptr x 0,l,q,.int a.fuel,.int a.sends,.int a.turns,.aN f,.int a.back.k,.int a.back.n,.int a.err] 251
abbrev s3(l:List Int):AV:=.sl 1 (l.map bY)
abbrev s5(l:List Int):AV:=.sl 1 (l.map (ph .u8))
abbrev Pv(l:List Me):AV:=.sl 5 (l.map I4)
abbrev lR(l:List V):AV:=.sl 2 (l.map eV)
abbrev BT(l:List eM):AV:=.sl 13 (l.map u9)
abbrev qH(l:List Ins):AV:=.sl 5 (l.map bh)
abbrev Y1(l:List Cl):AV:=.sl 4 (l.map eA)
abbrev cC(l:List Ob):AV:=.sl 2 (l.map eQ)
abbrev fW(l:List Ce):AV:=.sl 6 (l.map fJ)
abbrev fR(l:List Tl):AV:=.sl 4 (l.map fx)
abbrev rT(l:List Ln):AV:=.sl 2 (l.map O6)
abbrev Gq(l:List Fs):AV:=.sl 5 (l.map fK)
abbrev w3(l:List Int):Obj:=.row 1 (l.map bY) 3
abbrev w5(l:List Int):Obj:=.row 1 (l.map (ph .u8)) 5
abbrev w9(l:List ByteArray):Obj:=.row 1 (l.map lI) 9
abbrev gH(l:List Me):Obj:=.row 5 (l.map I4) 27
abbrev eS(l:List V):Obj:=.row 2 (l.map eV) 29
abbrev rb(l:List ch):Obj:=.row 4 (l.map gp) 51
abbrev dr(l:List Ins):Obj:=.row 5 (l.map bh) 55
abbrev lT(l:List Cl):Obj:=.row 4 (l.map eA) 81
abbrev xi(l:List Ob):Obj:=.row 2 (l.map eQ) 92
abbrev fU(l:List St):Obj:=.row 3 (l.map Z8) 156
abbrev jf(l:List Ce):Obj:=.row 6 (l.map fJ) 159
abbrev mq(l:List Tl):Obj:=.row 4 (l.map fx) 162
abbrev Ao(l:List Ln):Obj:=.row 2 (l.map O6) 167
abbrev BK(l:List eI):Obj:=.row 2 (l.map wi) 184
abbrev rS(l:List Fs):Obj:=.row 5 (l.map fK) 213
section
open Go.ChangeShapes Go.WideShapes Go.ChangeAt Go.RowKit Go.Deep
def BB(a:Ins):Prop:=hV a.op/\hV a.a/\hV a.b/\hV a.c/\uT a.name
def mw(a:Ins):Nat:=hJ a.op+hJ a.a+hJ a.b+hJ a.c+qs a.name+1
def ME(a:Ins):1<=mw a:=by unfold mw;omega
def Gv(a:Me):Prop:=uT a.name/\hV a.args/\hV a.a8/\hV a.aS/\(qE BB) a.code
def xK(a:Me):Nat:=qs a.name+hJ a.args+hJ a.a8+hJ a.aS+(eg mw) a.code+1
def xf(a:V):Prop:=hV a.k/\hV a.n
def tO(a:V):Nat:=hJ a.k+hJ a.n+1
def Fw(a:O8):Prop:=xf a.aP/\uT a.name/\(qE xf) a.args
def AS(a:O8):Nat:=tO a.aP+qs a.name+(eg tO) a.args+1
def Ad(a:eM):Prop:=hV a.kind/\uT a.name/\hV a.aE/\hV a.aG/\Gv a.aJ/\Fw a.call
def kz(a:eM):Nat:=hJ a.kind+qs a.name+hJ a.aE+hJ a.aG+xK a.aJ+AS a.call+1
end
end Go.Proofs.YtibjcppjfkamhaaGreatDoor
namespace Go.Proofs
open Go.Shelf
def Tryz.er:Go.Shelf.Ren:=⟨fun|171=>50|243=>82|246=>111|283=>147|284=>148|285=>149|286=>150|129=>144|317=>184|318=>185|319=>186|320=>187|337=>212|338=>213|n=>n,fun|171=>230|53=>227|37=>43|173=>232|212=>273|51=>225|213=>274|46=>179|232=>316|233=>317|n=>n,fun|17=>0|18=>4|19=>5|n=>n⟩
theorem Tryz.jk:Go.Proofs.LaysM.n171 Tryz.prog Tryz.er:=by repeat' first|kernel_rfl|constructor|intro w
open Go.RowKit Go.Sort Go.Lib in
theorem Tryz.strconv_Itoa(n:Int)(h0:-9223372036854775808<=n)(h1:n<=9223372036854775807)(w:World)(htab:Lib.TabIs Tryz.prog w "internal/strconv.uint64pow10" .u64 Lib.pow10Tab):
 Calls Tryz.prog 50 #[.int .i64 n] w fun e w'=>e=.returned (.string ⟨(Lib.itoa n).toArray⟩)/\∃k os,w'=grow (w.drewN k) os:=Any.strconv_Itoa Tryz.jk n h0 h1 w htab
def Tryz.en:Go.Shelf.Ren:=⟨fun|172=>87|244=>113|245=>114|247=>152|279=>153|280=>154|281=>155|282=>156|287=>189|316=>190|171=>50|205=>191|321=>218|322=>219|243=>82|246=>111|283=>147|284=>148|285=>149|286=>150|129=>144|317=>184|318=>185|319=>186|320=>187|337=>212|338=>213|n=>n,fun|75=>143|76=>144|167=>234|37=>43|85=>235|168=>237|53=>227|175=>276|46=>179|210=>280|127=>147|145=>308|143=>306|171=>230|173=>232|212=>273|51=>225|213=>274|232=>316|233=>317|80=>103|n=>n,fun|15=>1|16=>2|17=>0|18=>4|19=>5|n=>n⟩
theorem Tryz.dc:Go.Proofs.LaysC.n172 Tryz.prog Tryz.en:=by repeat' first|kernel_rfl|constructor|intro w
open Go.RowKit in
theorem Tryz.strconv_Atoi_ok(s:ByteArray)(hmax:s.size<=9223372036854775806)(v:Int)(h:Lib.atoiAll s.data.toList=.ok v)(w:World):
 Calls Tryz.prog 87 #[.string s] w fun e w'=>e=.returned (.tuple #[.int .i64 v,.nilIface])/\(w'=w\/∃t,w'=Lib.bytesWorld w 5 t):=Any.strconv_Atoi_ok Tryz.dc s hmax v h w
open Go.RowKit in
theorem Tryz.strconv_Atoi_syntax(s:ByteArray)(hlim:s.size<=281474976710656)(h:Lib.atoiAll s.data.toList=Lib.NumEnd.syntax)(ev:Value)(w:World)(hv:w.cell? ⟨1,0,none⟩=some ev)(hev:ev=.nilIface\/∃te pe,ev=.iface te pe):
 Calls Tryz.prog 87 #[.string s] w fun e w'=>∃N,e=.returned (.tuple #[.int .i64 (0),.iface 237 (.pointer (some ⟨N,0,none⟩))])/\w.heap.size<=N/\w'.heap[N]?=some (.cells #[.string ⟨#[65,116,111,105]⟩,.string s,ev] 280 (0,0))/\Below w.heap.size w w':=Any.strconv_Atoi_syntax Tryz.dc s hlim h ev w hv hev
open Go.RowKit in
theorem Tryz.strconv_Atoi_range(s:ByteArray)(hlim:s.size<=281474976710656)(h:Lib.atoiAll s.data.toList=.range)(ev:Value)(w:World)(hv:w.cell? ⟨2,0,none⟩=some ev)(hev:ev=.nilIface\/∃te pe,ev=.iface te pe):
 Calls Tryz.prog 87 #[.string s] w fun e w'=>∃N,e=.returned (.tuple #[.int .i64 (Lib.atoiSat s.data.toList),.iface 237 (.pointer (some ⟨N,0,none⟩))])/\w.heap.size<=N/\w'.heap[N]?=some (.cells #[.string ⟨#[65,116,111,105]⟩,.string s,ev] 280 (0,0))/\Below w.heap.size w w':=Any.strconv_Atoi_range Tryz.dc s hlim h ev w hv hev
def Tryz.fZ:Go.Shelf.Ren:=⟨fun|145=>112|220=>151|219=>188|217=>214|225=>215|224=>216|267=>217|266=>233|314=>234|n=>n,fun|59=>190|46=>179|146=>318|51=>225|n=>n,fun|1=>3|n=>n⟩
theorem Tryz.lN:Go.Proofs.Lays.n145 Tryz.prog Tryz.fZ:=by repeat' first|kernel_rfl|constructor|intro w
open Go.RowKit Go.Lib in
theorem Tryz.strings_Cut(s sep:ByteArray)(m:Int)(w:World)(hs:s.size<4294967281)(hm:w.cell? ⟨3,0,none⟩=some (.int .i64 m)):
 Calls Tryz.prog 112 #[.string s,.string sep] w fun e w'=>e=.returned (.tuple #[.string ⟨(Lib.cut s.data.toList sep.data.toList).1.toArray⟩,.string ⟨(Lib.cut s.data.toList sep.data.toList).2.1.toArray⟩,.bool (Lib.cut s.data.toList sep.data.toList).2.2])/\∃n,w'=w.drewN n:=Any.strings_Cut Tryz.lN s sep m w hs hm
end Go.Proofs
namespace Go.Proofs.YtibjcppjfkamhaaGreatDoor
open Go.RowKit Go.Proofs.Tryz
open _root_.And renaming intro->AN
open _root_.Bool renaming and_eq_true->It
open _root_.ByteArray renaming empty->IS
open _root_.Int renaming toNat_natCast->Qc
open _root_.List renaming getElem?_eq_getElem->No,getElem?_eq_some_iff->OR,length_append->Of,mem_cons->QG,replicate->QH,length_cons->QI,map->QK,map_cons->QO,all_eq_true->QP,append_assoc->QR,mem_append->QS,mem_map->QT,length_map->QU,getElem?_set->QV,getElem?_append_right->QY,length_set->Qa,getElem?_eq_none->Qb,nil_append->Qd,mem_singleton->Qf,length_nil->Qh,getElem?_map->Qi,eq_nil_of_length_eq_zero->Qj,getElem?_drop->Qk,ext_getElem?->Ql,getElem?_append_left->Qn,length_take->Qo,mem_cons_of_mem->Qp,getElem?_take->Qs,size_toArray->Qu,getElem?_cons_succ->Qw,getElem?_cons_zero->Qy
open _root_.Nat renaming ble->AT,beq->BY,le_refl->NO,le_of_ble_eq_true->QW,zero_add->Qg,add_assoc->Qm
open _root_.Option renaming bind_some->A0,map_eq_some_iff->QL,map_some->QZ
open _root_.Or renaming inl->IN
def AA : List ByteArray:=[⟨#[42]⟩,⟨#[43]⟩,⟨#[45]⟩,⟨#[60]⟩,⟨#[61]⟩]
def U3 : List Me:=[⟨⟨#[42]⟩,1,0,3,[]⟩,⟨⟨#[43]⟩,1,0,1,[]⟩,⟨⟨#[45]⟩,1,0,2,[]⟩,⟨⟨#[60]⟩,1,0,4,[]⟩,⟨⟨#[61]⟩,1,0,5,[]⟩]
def N9 : Wd:=⟨[⟨⟨#[79,98,106,101,99,116]⟩,-1,0,[]⟩,⟨⟨#[78,105,108]⟩,0,0,[]⟩,⟨⟨#[66,111,111,108]⟩,0,0,[]⟩,⟨⟨#[73,110,116]⟩,0,0,U3⟩],[],0⟩
def lV(N:Nat):Option Wd:=some N9
def wQ(N:Nat):Option Wd:=some N9
def sB(N:Nat)(a:List Me)(b:Int)(c:List Me):Option (List Me) :=
 match c with
 |[x]=>bif (decide (0<=b) && decide (b<=(a.length:Int)) && AT ((a.length+1)*64) 140737488355328) then some (a.take b.toNat++x::a.drop b.toNat) else none
 |_=>none
def strconv_Itoa(N:Nat)(n:Int):Option ByteArray:=some ⟨(Lib.itoa n).toArray⟩
def strconv_Atoi(N:Nat)(s:ByteArray):Option (Int×Bool):=bif decide (s.size<=281474976710656) then some (match Lib.atoiAll s.data.toList with
 |.ok v=>(v,true)
 |.range=>(Lib.atoiSat s.data.toList,false)
 |_=>(0,false)) else none
def strings_Cut(N:Nat)(s sep:ByteArray):Option (ByteArray×ByteArray×Bool):=bif decide (s.size<4294967281) then some (⟨(Lib.cut s.data.toList sep.data.toList).1.toArray⟩,⟨(Lib.cut s.data.toList sep.data.toList).2.1.toArray⟩,(Lib.cut s.data.toList sep.data.toList).2.2) else none
structure kZ(w:World):Prop where
 tab : Lib.TabIs prog w "internal/strconv.uint64pow10" .u64 Lib.pow10Tab
 Px:∃ev,w.cell? ⟨1,0,none⟩=some ev/\(ev=.nilIface\/∃te pe,ev=.iface te pe)
 bx:∃ev,w.cell? ⟨2,0,none⟩=some ev/\(ev=.nilIface\/∃te pe,ev=.iface te pe)
 mx:∃m,w.cell? ⟨3,0,none⟩=some (.int .i64 m)
def lU : List Nat:=[0,1,2,3]
def GL : Obj:=.uL lU kZ
def GL.at{c:Ctx}{w:World}{id:Nat}(h:dZ c w id GL):kZ w:=by
 obtain ⟨_,f,⟨t,⟨s,s1,n⟩,⟨r,k,l⟩,⟨m,j⟩⟩,e⟩:=h;have cell:∀b∈lU,∀v,f.cell? ⟨b,0,none⟩=some v->w.cell? ⟨b,0,none⟩=some v:=fun b d v i=>(World.cell?_of_block (w:=f) (a:=⟨b,0,none⟩) (e b d)).trans i;refine ⟨?_,⟨s,cell _ (by simp [lU]) s s1,n⟩,⟨r,cell _ (by simp [lU]) r k,l⟩,⟨m,cell _ (by simp [lU]) _ j⟩⟩;have g : prog.globalNamed "internal/strconv.uint64pow10" = some 0 := D6;unfold Lib.TabIs World.var? at t ⊢;simp only [g,A0] at t ⊢;rw [e _ (by simp [lU])];exact t
def aR.cW{c:Ctx}{w w':World}{need:Os}(h:Below w.heap.size w w')(a:∀b,c.Φ b->b<w.heap.size):aR c w c w' need [] [] :=
 ⟨h.os,h.tape,h.output,h.size,fun _ h=>h,fun _ h=>.inl h,fun b d _=>h.block b d,fun _ _=>⟨rfl,rfl⟩,⟨fun _ _ h=>(by cases h),fun _ _ _ h=>(by cases h),fun _ _ _ _ _ _ h=>(by cases h),fun b d=>Nat.lt_of_lt_of_le (a b d) h.size⟩,fun _ _ _ h=>(by cases h)⟩
def d16{c:Ctx}{w:World}{args:Array Value}{a:AV}(h:D5 c w args.toList [a]):∃v,args=#[v]/\Rd c w v a:=by
 obtain⟨l⟩:=args;have h:D5 c w l [a]:=h;cases h with|cons b t=>cases t;exact⟨_,rfl,b⟩
def PB{c:Ctx}{w:World}{args:Array Value}{a b:AV}(h:D5 c w args.toList [a,b]):∃u v,args=#[u,v]/\Rd c w u a/\Rd c w v b:=by
 obtain⟨l⟩:=args;have h:D5 c w l [a,b]:=h;cases h with|cons d t=>cases t with|cons k t=>cases t;exact⟨_,_,rfl,d,k⟩
def LA(n:Int)(a:H8 n):(Lib.itoa n).length<=21:=by
 unfold H8 at a;exact Lib.itoa_length_le n a.1 a.2
def vQ(N:Nat)(n:Int)(r:ByteArray)(h:strconv_Itoa N n=some r):Spec prog 50 [(2000,GL)] [.int n] (.str r) [] []:=by
 obtain rfl:=Option.some.inj h;refine⟨D6,fun _ h=>(by cases h),fun c w args aO f=>?_⟩;obtain⟨v,rfl,g⟩:=d16 f;obtain⟨rfl,a⟩:=g.ai;refine(Tryz.strconv_Itoa n a.1 a.2 w (GL.at (aO.rep 2000 GL rfl)).tab).mono ?_;rintro e w' ⟨rfl,k,os,rfl⟩;refine⟨_,c,rfl,aR.cW ⟨rfl,rfl,rfl,by simp[Go.Sort.grow],fun b d=>?_⟩ aO.aq,.fz (.str ?_)⟩
 ·show(w.heap++os)[b]?=_;rw[Array.getElem?_append_left d]
 ·have:=LA n a;show(Lib.itoa n).toArray.size<=_;simp only[Qu,maxLen];omega
def bytesWorld_below(w:World)(e:TypeId)(s:ByteArray):Below w.heap.size w (Lib.bytesWorld w e s):=⟨rfl,rfl,rfl,by rw[Lib.bytesWorld_size];omega,fun b a=>Lib.bytesWorld_at_old w e s b a⟩
def strconv_Atoi_ok(N:Nat)(s:ByteArray)(r:Int×Bool)(h:strconv_Atoi N s=some r):Spec prog 87 [(2000,GL)] [.str s] (.aX [.int r.1,.eC r.2]) [] []:=by
 unfold strconv_Atoi at h;obtain⟨i,h⟩:=jW h;have hl:=of_decide_eq_true i;have h:=Option.some.inj h;refine⟨D6,fun _ h=>(by cases h),fun c w args aO j=>?_⟩;obtain⟨v,rfl,k⟩:=d16 j;obtain⟨rfl,m⟩:=k.bd;have G:=GL.at (aO.rep 2000 GL rfl);cases a:Lib.atoiAll s.data.toList with
 |ok x =>
  rw[a] at h;subst h;refine(Tryz.strconv_Atoi_ok s d9 x a w).mono ?_;rintro e w' ⟨rfl,l⟩;have d:=Lib.atoiAll_bounds a;refine⟨_,c,rfl,aR.cW ?_ aO.aq,.fz (Rf.aX (us:=[_,_]) (.cons (.int ⟨d9,d9⟩) (.cons .ei .nil)))⟩;rcases l with rfl|⟨t,rfl⟩
  ·exact Below.refl _ _
  ·exact bytesWorld_below w _ t
 |range =>
  rw[a] at h;subst h;obtain⟨ev,f,g⟩:=G.bx;refine(Tryz.strconv_Atoi_range s hl a ev w f g).mono ?_;rintro e w' ⟨M,rfl,_,_,d⟩;have b:H8 (Lib.atoiSat s.data.toList):=by unfold Lib.atoiSat H8;split<;>omega
  exact⟨_,c,rfl,aR.cW d aO.aq,.fz (Rf.aX (us:=[_,_]) (.cons (.int b) (.cons (.fX _ _) .nil)))⟩
 |_ =>
  rw[a] at h;subst h;obtain⟨ev,f,g⟩:=G.Px;refine(Tryz.strconv_Atoi_syntax s hl a ev w f g).mono ?_;rintro e w' ⟨M,rfl,_,_,d⟩;exact⟨_,c,rfl,aR.cW d aO.aq,.fz (Rf.aX (us:=[_,_]) (.cons (.int ⟨G7,G7⟩) (.cons (.fX _ _) .nil)))⟩
def Ns(s sep:List UInt8):(Lib.cut s sep).1.length<=s.length/\(Lib.cut s sep).2.1.length<=s.length:=by
 unfold Lib.cut;split<;>simp<;>omega
def Jc(N:Nat)(s sep:ByteArray)(r:ByteArray×ByteArray×Bool)(h:strings_Cut N s sep=some r):Spec prog 112 [(2000,GL)] [.str s,.str sep] (.aX [.str r.1,.str r.2.1,.bool r.2.2]) [] []:=by
 unfold strings_Cut at h;obtain⟨a,h⟩:=jW h;have hl:=of_decide_eq_true a;obtain rfl:=Option.some.inj h;refine⟨D6,fun _ h=>(by cases h),fun c w args aO d=>?_⟩;obtain⟨u,v,rfl,g,i⟩:=PB d;obtain⟨rfl,n⟩:=g.bd;obtain⟨rfl,_⟩:=i.bd;obtain⟨m,b⟩:=(GL.at (aO.rep 2000 GL rfl)).mx;refine(Tryz.strings_Cut s sep m w hl b).mono ?_;rintro e w' ⟨rfl,k,rfl⟩;obtain⟨j,l⟩:=Ns s.data.toList sep.data.toList;have f:s.data.toList.length=s.size:=by rw[Array.length_toList];rfl
 refine⟨_,c,rfl,aR.cW ⟨rfl,rfl,rfl,NO _,fun _ _=>rfl⟩ aO.aq,.fz (Rf.aX (us:=[_,_,_]) (.cons (.str ?_) (.cons (.str ?_) (.cons (.bool _) .nil))))⟩
 ·show(Lib.cut s.data.toList sep.data.toList).1.toArray.size<=_;rw[Qu];omega
 ·show(Lib.cut s.data.toList sep.data.toList).2.1.toArray.size<=_;rw[Qu];omega
def d50 : ∃j,prog.info? 97=some j/\j.size=2:=QL.1 (show(prog.info? 97).map (·.size)=some 2 by kernel_rfl)
def Mh : liesAt prog prog.depth 99 (2 / prog.cellsOf 99) 0 97 1=true:=D6
set_option maxHeartbeats 1000000 in
set_option maxRecDepth 100000 in
def JM(b:Nat)(w:World)(c:w.cell? ⟨b,0,none⟩=some (.pointer (some ⟨b,0,none⟩))):
  Calls prog 110 #[.pointer (some ⟨b,0,none⟩)] w fun e w'=>e=.returned (.tuple #[])/\w'=w:=by
 obtain⟨j,a,_⟩:=d50
 go_enter func110,ntmps110
 go_wp2
 rw[Lib.run_neq_ptr_same w _ underlying95 a]
 go_wp2
 go_end0
 exact⟨rfl,rfl⟩
set_option maxHeartbeats 1000000 in
set_option maxRecDepth 100000 in
def Ix(b:Nat)(w:World)(g:w.cell? ⟨b,0,none⟩=some (.pointer none))(a:w.shape? b=some (99,2))(f:w.frozen? ⟨b,0,none⟩=false):
  Calls prog 110 #[.pointer (some ⟨b,0,none⟩)] w fun e w'=>e=.returned (.tuple #[])/\w'=w.setCell ⟨b,0,none⟩ (.pointer (some ⟨b,0,none⟩)):=by
 obtain⟨j,d,c⟩:=d50
 go_enter func110,ntmps110
 go_wp2
 rw[Lib.run_to_unsafe w ⟨b,0,none⟩ underlying95 underlying228 d (by rw[c];decide) a (Nat.zero_lt_succ 1)];simp only[Result.andThen];rw[Oper.upon_value]
 go_wp2
 rw[run_callFunc_extern func146 D6 D6 D6 (e:=Extern.AbiNoEscape.same) D6];rw[Lib.run_noEscape];simp only[Result.andThen];rw[Oper.upon_value]
 go_wp2
 rw[Lib.run_from_unsafe w ⟨b,0,none⟩ underlying228 underlying95 d a Mh];simp only[Result.andThen];rw[Oper.upon_value]
 go_wp2
 go_end0
 exact⟨rfl,rfl⟩
def CF(id j:Nat):Spec prog 110 [(id,.box [.np id,.aN j] 99)] [.ptr id 0] (.aX []) [(id,.box [.np id,.aN j] 99)] []:=by
 refine⟨D6,fun _ h=>(by cases h),fun c w args aO u=>?_⟩;obtain⟨v,rfl,y⟩:=d16 u;obtain rfl:=y.dH;obtain⟨us,a,x⟩:=aO.rep id _ (j6 _ _ _);have s:=(Array.getElem?_eq_some_iff.1 a).1;cases x with|cons n t=>cases t with|cons o t=>cases t with|nil =>
 rename_i p q;have b:w.cell? ⟨c.μ id,0,none⟩=some p:=by rw[Lib.cell_of_heap a];rfl
 have key:∀w':World,w'.heap[c.μ id]?=some (.cells [.pointer (some ⟨c.μ id,0,none⟩),q].toArray 99)->(∀k,k≠c.μ id->w'.heap[k]?=w.heap[k]?)->w'.heap.size=w.heap.size->w'.os=w.os->w'.tape=w.tape->w'.output=w.output ->
   ∃v c',Ending.returned (Value.tuple #[])=.returned v/\aR c w c' w' [(id,.box [.np id,.aN j] 99)] [(id,.box [.np id,.aN j] 99)] []/\Rd c' w' v (.aX []):=fun w' d f g i l m =>
  ⟨_,c,rfl,aR.write (us':=[_,q]) aO d (.cons (.rZ rfl) (.cons o .nil)) f g i l m,.aX .nil⟩
 rcases n.HC with rfl|rfl
 ·refine(Ix (c.μ id) w b (by simp[World.shape?,a]) (Lib.frozen_of_heap a 0)).mono ?_;rintro e w' ⟨rfl,rfl⟩;refine key _ ?_ (fun k r=>Below.heap_setCell w _ _ k r) ?_ rfl rfl rfl
  ·simp[World.setCell,Array.getElem?_modify,a]
  ·simp[World.setCell]
 ·refine(JM (c.μ id) w b).mono ?_;rintro e w' ⟨rfl,rfl⟩;exact key _ a (fun _ _=>rfl) rfl rfl rfl rfl
def CB{P:Program}(w:World):∀(l:List Int) (a:Addr) (b:ByteArray),(∀j x,l[j]?=some x->w.cell? (a.add j)=some (.int .u8 x))->(loadBytes a b l.length).run P w=.ok ⟨b.data++(l.map fun n=>UInt8.ofNat n.toNat).toArray⟩ w
 |[],a,b,_=>by simp[loadBytes]
 |x::l,a,b,h=>by
  have d:w.cell? a=some (.int .u8 x):=by simpa[Addr.add] using h 0 x rfl
  have ih:=CB (P:=P) w l (a.add 1) (b.push (UInt8.ofNat x.toNat)) (fun j y f=>by
   have:=h (j+1) y (by simpa using f);have e:(a.add 1).add j=a.add (j+1):=by
    unfold Addr.add;by_cases c:j=0
    ·subst c;simp
    ·simp[c];omega
   rw[e];exact this)
  simp only[QI,loadBytes,Sem.run_bind,run_load,d,Result.andThen];rw[show x.toNat.toUInt8=UInt8.ofNat x.toNat from rfl,ih];congr 1;apply ByteArray.ext;simp[ByteArray.push]
def Kw{P:Program}{e:TypeId}(a:P.cellsOf e=1)(count off n:Nat)(b:off+n<=count):liesAt P P.depth e count off e n=true:=by
 have hd:P.depth=(2*(P.types.size+Made.depth)+1)+1:=rfl;rw[hd];simp only[liesAt,Bool.or_eq_true];left;rw[hd];simp[rowAt,a,b,sameLayout,Nat.mod_one]
def Hn{P:Program}(w:World)(k q r e:TypeId)(z:P.underlying k=some (.pointer e))(p:P.cellsOf e=1)(g x cells:Nat)(o:w.shape? g=some (e,cells))(l:List Int)(t:l.length≠0)(v:x+l.length<=cells)(u:l.length<=9223372036854775807)(a:∀j y,l[j]?=some y->w.cell? ((⟨g,x,none⟩:Addr).add j)=some (.int .u8 y)):
  (Builtin.unsafeString_ #[k,q] r #[.pointer (some ⟨g,x,none⟩),.int .i64 l.length]).run P w=.ok (.string (strOfNums l)) (w.freeze ⟨g,x,none⟩ l.length):=by
 have f:=CB (P:=P) w l ⟨g,x,none⟩ .empty a;have b:=Kw (P:=P) p (cells / P.cellsOf e) x l.length (by rw[p];simpa using v);have c:¬(9223372036854775807:Int)<(l.length:Int):=d9;have d:Builtin.unsafeString_ #[k,q] r #[.pointer (some ⟨g,x,none⟩),.int .i64 l.length] =
   (do
    let n <-asInt (.int .i64 l.length)
    if n < 0 then runtimePanic (.error "unsafe.String: len out of range")
    if n > IntKind.i64.max then unsupported (.unsafePointer "String: a length above the largest int")
    if n=0 then pure (.string .empty)
    else if<-variablesAt ⟨g,x,none⟩ (<-elemOf k) n.toNat then do
     let s <-loadBytes ⟨g,x,none⟩ .empty n.toNat
     freeze ⟨g,x,none⟩ n.toNat
     pure (.string s)
    else unsupported (.unsafePointer "String: not so many bytes at ptr")) := rfl
 rw[d];have h:IntKind.i64.max=9223372036854775807:=rfl;have i:¬(l.length:Int)<0:=d9;have e0:(⟨ByteArray.empty.data++(l.map fun n=>UInt8.ofNat n.toNat).toArray⟩:ByteArray)=strOfNums l:=by
  have m:ByteArray.empty.data=#[]:=rfl;rw[m];simp[strOfNums]
 rw[e0] at f;simp[asInt,asIntOf,h,c,i,t,variablesAt,o,elemOf,run_underlying z,b,f]
set_option maxHeartbeats 1000000 in
set_option maxRecDepth 100000 in
def HS(b g x cap:Nat)(p:Value)(a:Array Value)(l:List Int)(w:World)(d:w.heap[b]?=some (.cells #[p,.slice (some ⟨g,x,none⟩) l.length cap] 99))(i:l.length≠0)(h:l.length<=cap)(o:l.length<=9223372036854775807)(n:w.heap[g]?=some (.cells a 5))(q:x+l.length<=a.size)(c:∀j y,l[j]?=some y->w.cell? ((⟨g,x,none⟩:Addr).add j)=some (.int .u8 y)):
  Calls prog 48 #[.pointer (some ⟨b,0,none⟩)] w fun e w'=>e=.returned (.string (strOfNums l))/\w'=w.drew.freeze ⟨g,x,none⟩ l.length:=by
 have r:w.drew.cell? ⟨b,1,none⟩=some (.slice (some ⟨g,x,none⟩) l.length cap):=by
  have:w.drew.heap[b]?=some (.cells #[p,.slice (some ⟨g,x,none⟩) l.length cap] 99 (0,0)):=d;rw[Lib.cell_of_heap this];rfl
 have k:(Builtin.unsafeSliceData_ #[43] 147 #[.slice (some ⟨g,x,none⟩) l.length cap]).run prog w.drew=.ok (.pointer (some ⟨g,x,none⟩)) w.drew :=
  Lib.run_unsafeSliceData_row _ _ _ _ _ _ d9
 have m:(Builtin.unsafeString_ #[147,3] 9 #[.pointer (some ⟨g,x,none⟩),.int .i64 l.length]).run prog w.drew=.ok (.string (strOfNums l)) (w.drew.freeze ⟨g,x,none⟩ l.length) :=
  Hn w.drew 147 3 9 5 underlying147 D6 g x a.size (by have f:w.drew.heap[g]?=some (.cells a 5 (0,0)):=n;simp[World.shape?,f]) l i q o c
 have mixed:prog.follows .mixedOrders=true:=D6
 go_enter func48,ntmps48
 go_wp2
 go_region_o
 all_goals (go_wp2;go_ret;exact⟨rfl,rfl⟩)
def Hc(l:List Int)(id j:Nat)(hl:(!l.isEmpty)=true)(a:BY id j=false:=by rfl):Spec prog 48 [(id,.box [.np id,.aN j] 99),(j,.row 1 (l.map fun n=>[AV.ik .u8 n]) 5)] [.ptr id 0] (.str (strOfNums l)) [(id,.aK),(j,.aK)] []:=by
 have a:=I5 a;have T:l.length≠0:=by cases l<;>simp_all
 refine⟨D6,fun _ h=>(by cases h),fun c w args aO W=>?_⟩;obtain⟨v,rfl,C⟩:=d16 W;obtain rfl:=C.dH;have O:lk [(id,Obj.box [.np id,.aN j] 99),(j,.row 1 (l.map fun n=>[AV.ik .u8 n]) 5)] j=some (.row 1 (l.map fun n=>[AV.ik .u8 n]) 5):=by rw[F7 _ _ a,j6]
 obtain⟨us,M,X⟩:=aO.rep id _ (j6 _ _ _);obtain⟨css,P,Q,q3⟩:=aO.rep j _ O;rw[QU] at Q;cases X with|cons Y t=>cases t with|cons J t=>cases t with|nil =>
 rename_i p q;obtain⟨A,n,cap,rfl,B,e3,R⟩:=J.bJ;have S:∀i y,l[i]?=some y->css[i]?=some [Value.int .u8 y]:=fun i y D=>by
  have hi:=(OR.1 D).1;have N:css[i]?=some css[i]:=No d9;have:=q3 i css[i] [AV.ik .u8 y] N (by simp[D]);rw[N];generalize css[i]=u at this;cases this with|cons h t=>cases t with|nil=>cases h with|ik=>rfl
 rcases P.bZ with⟨_,hn⟩|⟨g,x,pp,K,E,C,U,a1,a2,a3,Z,a4⟩
 ·omega
 ·have hxp:=Z d9;rw[B] at C;injection C with v1 v2 v3
  subst v1 v2 v3;have d:∀i y,l[i]?=some y->w.cell? ((⟨g,x,none⟩:Addr).add i)=some (.int .u8 y):=fun i y D=>by
   obtain⟨g',x',L,s,V,G⟩:=P.cells (S i y D);rw[B] at s;injection s with z _ _
   injection z with z
   injection z with z w2 _
   subst z w2;have:=G 0 _ rfl;rw[gu];simpa using this
  rw[Q] at M B;refine(HS (c.μ id) g x cap p E l w M T d9 (by simp only[maxLen] at R;omega) U d9 d).mono ?_;rintro e w' ⟨rfl,rfl⟩;have H:aW c j (.row 1 (l.map fun n=>[AV.ik .u8 n]) 5) g:=by show(c.hd j).ownBlock=some g;rw[B];rfl
  have r:∀m,(w.drew.freeze ⟨g,x,none⟩ m).heap.size=w.heap.size:=fun m=>by unfold World.freeze;split<;>first|rfl|simp
  refine⟨_,c,rfl,⟨?_,?_,?_,by rw[r];exact NO _,fun _ h=>h,fun _ h=>.inl h,fun b f I=>?_,fun _ _=>⟨rfl,rfl⟩,⟨fun i o hl=>?_,fun i o b hl k=>?_,fun i i' o o' b _ hl _ k=>?_,fun b f=>by rw[r];exact aO.aq b f⟩,fun i o b hl k=>?_⟩,.fz (.str ?_)⟩
  ·unfold World.freeze;split<;>rfl
  ·unfold World.freeze;split<;>rfl
  ·unfold World.freeze;split<;>rfl
  ·have F:b≠g:=fun e=>I ⟨j,_,O,by rw[F7 _ _ a,j6];rfl,e▸H⟩;unfold World.freeze;split
   ·rfl
   ·simp only[Array.getElem?_modify];rw[R1 (fun e=>F e.symm)];rfl
  ·rcases dA hl with⟨rfl,rfl⟩|⟨_,rfl,rfl⟩<;>trivial
  ·rcases dA hl with⟨rfl,rfl⟩|⟨_,rfl,rfl⟩<;>exact k.elim
  ·rcases dA hl with⟨rfl,rfl⟩|⟨_,rfl,rfl⟩<;>exact k.elim
  ·rcases dA hl with⟨rfl,rfl⟩|⟨_,rfl,rfl⟩<;>exact k.elim
  ·rw[strOfNums_size];omega
section
open Go.ChangeShapes Go.WideShapes Go.ChangeAt Go.RowKit Go.Deep
def U2.u8{P:Program}{t:TypeId}(a:P.underlying t=some (.int .u8)):U2 P t 1 (fun n:Int=>[AV.ik .u8 n]) hV hJ:=⟨fun h=>by
 obtain⟨n,rfl,rfl,b⟩:=DataW.trod_int a h;have d:IntKind.u8.min<=n/\n<=IntKind.u8.max:=by simpa[Lit.wf] using b
 have e1:IntKind.u8.min=0:=rfl;have c:IntKind.u8.max=255:=rfl;exact⟨n,.cons (.ik _ n) .nil,rfl,by simp[Value.oneCell'],⟨d9,d9⟩,NO _⟩⟩
def kZ.lt{W:World}(h:kZ W):∀b∈lU,b<W.heap.size:=by
 have c : prog.globalNamed "internal/strconv.uint64pow10" = some 0 := D6;obtain ⟨t,⟨s,s1,_⟩,⟨r,e,_⟩,⟨m,d⟩⟩:=h;have t1:=t.cell c 0 G7;intro b a;simp only [lU,QG,List.not_mem_nil,or_false] at a;rcases a with rfl|rfl|rfl|rfl
 ·exact tj t1
 ·exact tj s1
 ·exact tj e
 ·exact tj d
def Spec.BR{P:Program}{f:Nat}{ins:List AV}(hS:Spec P f [(2000,GL)] ins (.bool true) [(2000,GL)] []){W:World}(i:kZ W){args:Array Value}(h:D5 (d97 W) W args.toList ins):
  Calls P f args W fun e g=>e=.returned (.bool true)/\Below W.heap.size W g:=by
 have one:∀(id:Nat) (o:Obj),lk [(2000,GL)] id=some o->o=GL:=fun id o h=>by
  simp only[lk] at h;cases a:BY 2000 id<;>rw[a] at h
  ·cases h
  ·exact(Option.some.inj h).symm
 refine(hS.2.2 (d97 W) W args ⟨fun id o h=>?_,fun id o b h c=>?_,fun id m o n b _ h _ c=>?_,fun b a=>a⟩ h).mono ?_
 ·obtain rfl:=one id o h;exact⟨fun b a=>i.lt b a,W,i,fun _ _=>rfl⟩
 ·obtain rfl:=one id o h;exact c.elim
 ·obtain rfl:=one id o h;exact c.elim
 rintro e g ⟨v,c',rfl,d,l⟩;exact⟨by rw[l.bU],d.dB,d.tape,d.output,d.size,fun k j=>d.ad k j fun⟨id,o,h,_,c⟩=>by
  obtain rfl:=one id o h;exact c.elim⟩
def star : "*" ++ "errors.errorString" = "*errors.errorString" := G7
def GH(u : TypeId)(h : prog.typeName? 3 u = some "*errors.errorString"): u = 306 :=
 typeName_ptr_named (nm := "errors.errorString") (by rw [star]; kernel_rfl) D6 G7 u (by rw [star]; exact h)
def kZ.qD{W : World}{x y : String × DataW Unit}(h : laidMetH prog [x, y, ("internal/strconv.uint64pow10", Rows.laid_internal_strconv_uint64pow10), ("strconv.ErrRange", Rows.laid_strconv_ErrRange), ("strconv.ErrSyntax", Rows.laid_strconv_ErrSyntax)] W)(c:x.2.handleName?.isNone=true)(d:y.2.handleName?.isNone=true)(b:W.ShapedOpen prog):kZ W:=by
 rw [MakeChecks.laidMetH_plain _ _ _ (by simp only [List.all_cons,c,d,Bool.true_and]; kernel_rfl)] at h;have a : laidMet prog (("internal/strconv.uint64pow10", Lib.tabData .u64 Lib.pow10Tab) :: [("strconv.ErrRange", Rows.laid_strconv_ErrRange), ("strconv.ErrSyntax", Rows.laid_strconv_ErrSyntax)]) W := h.tail.tail;obtain ⟨i,s1,e,_⟩:=laid_sentinel (g:=2) (ti:=143) (tp:=306) (te:=308) (ts:=9) h.tail.tail.tail D6 D6 underlying143 GH underlying306 underlying308 rfl rfl underlying9 D6 D6;obtain ⟨j,k,f,_⟩:=laid_sentinel (g:=1) (ti:=143) (tp:=306) (te:=308) (ts:=9) h.tail.tail.tail.tail D6 D6 underlying143 GH underlying306 underlying308 rfl rfl underlying9 D6 D6;refine ⟨Lib.tabIs_of_head (g := 0) D6 D6 underlying273 underlying227 D6 D6 a, ⟨_, by simpa using World.var?_cell (show prog.globalNamed "strconv.ErrSyntax" = some 1 by kernel_rfl) f 0, .inr ⟨_, _, rfl⟩⟩, ⟨_, by simpa using World.var?_cell (show prog.globalNamed "strconv.ErrRange" = some 2 by kernel_rfl) e 0, .inr ⟨_, _, rfl⟩⟩, ?_⟩;exact cell_of_shapedOpen_int (zero:=#[.int .i64 0]) (t:=3) b (of_decide_eq_true D6) D6 rfl D6 D6 underlying3
end
section
open Go.ChangeShapes Go.WideShapes Go.ChangeAt Go.RowKit Go.Deep
set_option maxRecDepth 100000 in
def Nd : U2 prog 55 5 bh BB mw:=⟨fun {H d w g a fuel p x} h=>by
  obtain⟨q,n,_,E,f,j,e⟩:=DataW.trod_struct underlying55 h;have C:p.length=5:=f.trans D6;have D:q.length=5:=j;have c:prog.cellsOf 3=1:=D6;have i:prog.cellsOf 9=1:=D6
  match p,C,q,D with
  |[k,l,m,c3,o],_,[V,W,X,Y,Z],_ =>
    have f0:DataW.trod d prog w 0 g a n 3 [k]=some V:=(by simpa[c] using e 0 _ rfl);obtain⟨r,Q,l0,L,F,b0⟩:=(U2.int underlying3).out f0;have f1:DataW.trod d prog w 0 g a n 3 [l]=some W:=by simpa[c] using e 1 _ rfl
    obtain⟨s,R,l1,M,G,b1⟩:=(U2.int underlying3).out f1;have z:DataW.trod d prog w 0 g a n 3 [m]=some X:=by simpa[c] using e 2 _ rfl
    obtain⟨t,S,l2,N,I,b2⟩:=(U2.int underlying3).out z;have A:DataW.trod d prog w 0 g a n 3 [c3]=some Y:=by simpa[c] using e 3 _ rfl
    obtain⟨v,T,l3,O,J,b3⟩:=(U2.int underlying3).out A;have B:DataW.trod d prog w 0 g a n 9 [o]=some Z:=by simpa[i] using e 4 _ rfl
    obtain⟨y,U,l4,P,K,b4⟩:=(U2.str underlying9).out B;refine⟨⟨r,s,t,v,y⟩,(Q.append (R.append (S.append (T.append U)))),rfl,fun u b=>?_,⟨F,G,I,J,K⟩,?_⟩
    · have b:u∈[k]++[l]++[m]++[c3]++[o]:=b
      simp only[QS] at b;rcases b with(((b|b)|b)|b)|b
      · exact L u b
      · exact M u b
      · exact N u b
      · exact O u b
      · exact P u b
    · subst E
      simp only[QO,List.map_nil,Rows.uptoBulk,Rows.uptoBulkAll,mw];omega⟩
def Nq : U2 prog 25 1 (fun l:(List Ins)=>[AV.sl 5 (l.map bh)]) (qE BB) (eg mw):=U2.slice underlying25 D6 G7 Nd
set_option maxRecDepth 100000 in
def Nv : U2 prog 27 5 I4 Gv xK:=⟨fun {H e w i a fuel q x} h=>by
  obtain⟨r,n,_,F,g,k,f⟩:=DataW.trod_struct underlying27 h;have D:q.length=5:=g.trans D6;have E:r.length=5:=k;have c:prog.cellsOf 3=1:=D6;have j:prog.cellsOf 9=1:=D6;have d:prog.cellsOf 25=1:=D6
  match q,D,r,E with
  |[l,m,o,c3,p],_,[W,X,Y,Z,y4],_ =>
    have f0:DataW.trod e prog w 0 i a n 9 [l]=some W:=(by simpa[j] using f 0 _ rfl);obtain⟨s,R,l0,M,G,b0⟩:=(U2.str underlying9).out f0;have f1:DataW.trod e prog w 0 i a n 3 [m]=some X:=by simpa[c] using f 1 _ rfl
    obtain⟨t,S,l1,N,I,b1⟩:=(U2.int underlying3).out f1;have A:DataW.trod e prog w 0 i a n 3 [o]=some Y:=by simpa[c] using f 2 _ rfl
    obtain⟨v,T,l2,O,J,b2⟩:=(U2.int underlying3).out A;have B:DataW.trod e prog w 0 i a n 3 [c3]=some Z:=by simpa[c] using f 3 _ rfl
    obtain⟨y,U,l3,P,K,b3⟩:=(U2.int underlying3).out B;have C:DataW.trod e prog w 0 i a n 25 [p]=some y4:=by simpa[d] using f 4 _ rfl
    obtain⟨z,V,l4,Q,L,b4⟩:=Nq.out C;refine⟨⟨s,t,v,y,z⟩,(R.append (S.append (T.append (U.append V)))),rfl,fun u b=>?_,⟨G,I,J,K,L⟩,?_⟩
    · have b:u∈[l]++[m]++[o]++[c3]++[p]:=b
      simp only[QS] at b;rcases b with(((b|b)|b)|b)|b
      · exact M u b
      · exact N u b
      · exact O u b
      · exact P u b
      · exact Q u b
    · subst F
      simp only[QO,List.map_nil,Rows.uptoBulk,Rows.uptoBulkAll,xK];omega⟩
set_option maxRecDepth 100000 in
def Fg : U2 prog 29 2 eV xf tO:=⟨fun {H j w l a fuel i x} h=>by
  obtain⟨m,n,_,s,d,e,k⟩:=DataW.trod_struct underlying29 h;have q:i.length=2:=d.trans D6;have r:m.length=2:=e;have c:prog.cellsOf 3=1:=D6
  match i,q,m,r with
  |[f,g],_,[C,D],_ =>
    have f0:DataW.trod j prog w 0 l a n 3 [f]=some C:=(by simpa[c] using k 0 _ rfl);obtain⟨o,A,G,y,t,E⟩:=(U2.int underlying3).out f0;have f1:DataW.trod j prog w 0 l a n 3 [g]=some D:=by simpa[c] using k 1 _ rfl
    obtain⟨p,B,I,z,v,F⟩:=(U2.int underlying3).out f1;refine⟨⟨o,p⟩,(A.append B),rfl,fun u b=>?_,⟨t,v⟩,?_⟩
    · have b:u∈[f]++[g]:=b
      simp only[QS] at b;rcases b with b|b
      · exact y u b
      · exact z u b
    · subst s
      simp only[QO,List.map_nil,Rows.uptoBulk,Rows.uptoBulkAll,tO];omega⟩
def Ny : U2 prog 30 1 (fun l:(List V)=>[AV.sl 2 (l.map eV)]) (qE xf) (eg tO):=U2.slice underlying30 D6 G7 Fg
set_option maxRecDepth 100000 in
def NM : U2 prog 32 4 ir Fw AS:=⟨fun {H g w k a fuel p x} h=>by
  obtain⟨q,n,_,A,e,j,i⟩:=DataW.trod_struct underlying32 h;have y:p.length=4:=e.trans D6;have z:q.length=3:=j;have f:prog.cellsOf 9=1:=D6;have c:prog.cellsOf 29=2:=D6;have d:prog.cellsOf 30=1:=D6
  match p,y,q,z with
  |[l,m,o,c3],_,[L,M,N],_ =>
    have f0:DataW.trod g prog w 0 k a n 29 [l,m]=some L:=(by simpa[c] using i 0 _ rfl);obtain⟨r,I,R,E,B,O⟩:=Fg.out f0;have f1:DataW.trod g prog w 0 k a n 9 [o]=some M:=by simpa[f] using i 1 _ rfl
    obtain⟨s,J,S,F,C,P⟩:=(U2.str underlying9).out f1;have v:DataW.trod g prog w 0 k a n 30 [c3]=some N:=by simpa[d] using i 2 _ rfl
    obtain⟨t,K,l2,G,D,Q⟩:=Ny.out v;refine⟨⟨r,s,t⟩,(I.append (J.append K)),rfl,fun u b=>?_,⟨B,C,D⟩,?_⟩
    · have b:u∈[l,m]++[o]++[c3]:=b
      simp only[QS] at b;rcases b with(b|b)|b
      · exact E u b
      · exact F u b
      · exact G u b
    · subst A
      simp only[QO,List.map_nil,Rows.uptoBulk,Rows.uptoBulkAll,AS];omega⟩
set_option maxRecDepth 100000 in
def OD : U2 prog 34 13 u9 Ad kz:=⟨fun {H d w f a fuel C x} h=>by
  obtain⟨D,n,_,R,m,p,e⟩:=DataW.trod_struct underlying34 h;have P:C.length=13:=m.trans D6;have Q:D.length=6:=p;have c:prog.cellsOf 3=1:=D6;have o:prog.cellsOf 9=1:=D6;have k:prog.cellsOf 27=5:=D6;have l:prog.cellsOf 32=4:=D6
  match C,P,D,Q with
  |[q,r,s,c3,t,v,y,z,A,B,g,i,j],_,[y0,y1,y2,y3,y4,y5],_ =>
    have f0:DataW.trod d prog w 0 f a n 3 [q]=some y0:=(by simpa[c] using e 0 _ rfl);obtain⟨E,r0,l0,Y,S,b0⟩:=(U2.int underlying3).out f0;have f1:DataW.trod d prog w 0 f a n 9 [r]=some y1:=by simpa[o] using e 1 _ rfl
    obtain⟨F,r1,l1,Z,T,b1⟩:=(U2.str underlying9).out f1;have L:DataW.trod d prog w 0 f a n 3 [s]=some y2:=by simpa[c] using e 2 _ rfl
    obtain⟨G,r2,l2,o2,U,b2⟩:=(U2.int underlying3).out L;have M:DataW.trod d prog w 0 f a n 3 [c3]=some y3:=by simpa[c] using e 3 _ rfl
    obtain⟨I,r3,l3,o3,V,b3⟩:=(U2.int underlying3).out M;have N:DataW.trod d prog w 0 f a n 27 [t,v,y,z,A]=some y4:=by simpa[k] using e 4 _ rfl
    obtain⟨J,r4,l4,o4,W,b4⟩:=Nv.out N;have O:DataW.trod d prog w 0 f a n 32 [B,g,i,j]=some y5:=by simpa[l] using e 5 _ rfl
    obtain⟨K,r5,l5,o5,X,b5⟩:=NM.out O;refine⟨⟨E,F,G,I,J,K⟩,(r0.append (r1.append (r2.append (r3.append (r4.append r5))))),rfl,fun u b=>?_,⟨S,T,U,V,W,X⟩,?_⟩
    · have b:u∈[q]++[r]++[s]++[c3]++[t,v,y,z,A]++[B,g,i,j]:=b
      simp only[QS] at b;rcases b with((((b|b)|b)|b)|b)|b
      · exact Y u b
      · exact Z u b
      · exact o2 u b
      · exact o3 u b
      · exact o4 u b
      · exact o5 u b
    · subst R
      simp only[QO,List.map_nil,Rows.uptoBulk,Rows.uptoBulkAll,kz];omega⟩
def Nk : U2 prog 23 1 (fun l:(List eM)=>[AV.sl 13 (l.map u9)]) (qE Ad) (eg kz):=U2.slice underlying23 D6 G7 OD
end
def vx(N:Nat):Option H9 :=
  (wQ N).bind fun a=>some ⟨a,[],[],[]⟩
def oJ(N:Nat)(a:List V):Option (List V):=
  bif AT (a.length*16) 140737488355328 then some a else none
def mI(N:Nat):List Ob->Nat->(List Ob)->Option ((List Ob))
  |[],c,b=>some b
  |x10::rest7,c,b=>(oJ N x10.aG).bind fun a=>bif AT ((b.length+[(⟨x10.cls,a⟩:Ob)].length)*32) 140737488355328 then mI N rest7 (c+1) (b++[⟨x10.cls,a⟩])else none
def ow(N:Nat)(a:(List Ob)):Option (List Ob) :=
  (mI N a 0 []).bind fun b=>some b
def vH(N:Nat)(a:List Ins):Option (List Ins):=
  bif AT (a.length*48) 140737488355328 then some a else none
def og(N:Nat)(a:Me):Option Me :=
  (vH N a.code).bind fun b=>some {a with code:=b}
def mH(N:Nat):List Me->Nat->(List Me)->Option ((List Me))
  |[],b,a=>some a
  |x24::rest21,b,a=>(og N x24).bind fun c=>bif AT ((a.length+[c].length)*64) 140737488355328 then mH N rest21 (b+1) (a++[c])else none
def mG(N:Nat):List Cl->Nat->(List Cl)->Option ((List Cl))
  |[],c,b=>some b
  |x12::rest9,c,b=>(mH N x12.aB 0 []).bind fun a=>bif AT ((b.length+[{x12 with aB:=a:Cl}].length)*56) 140737488355328 then mG N rest9 (c+1) (b++[{x12 with aB:=a}])else none
def iY(N:Nat)(a:Wd):Option Wd :=
  (ow N a.heap).bind fun b=>(mG N a.a7 0 []).bind fun c=>some ⟨c,b,a.aC⟩
def Y3(N:Nat)(a:List Ln):Option (List Ln):=
  bif AT (a.length*16) 140737488355328 then some a else none
def mJ(N:Nat):List Ce->Nat->(List Ce)->Option ((List Ce))
  |[],c,b=>some b
  |x10::rest7,c,b=>(Y3 N x10.lines).bind fun a=>bif AT ((b.length+[{x10 with lines:=a:Ce}].length)*72) 140737488355328 then mJ N rest7 (c+1) (b++[{x10 with lines:=a}])else none
def ou(N:Nat)(a:(List Ce)):Option (List Ce) :=
  (mJ N a 0 []).bind fun b=>some b
def mK(N:Nat):List Tl->Nat->(List Tl)->Option ((List Tl))
  |[],c,b=>some b
  |x10::rest7,c,b=>(Y3 N x10.a7).bind fun a=>bif AT ((b.length+[(⟨x10.site,a⟩:Tl)].length)*56) 140737488355328 then mK N rest7 (c+1) (b++[⟨x10.site,a⟩])else none
def sK(N:Nat)(a:(List Tl)):Option (List Tl) :=
  (mK N a 0 []).bind fun b=>some b
def yO(N:Nat)(a:List Int):Option (List Int):=
  bif AT (a.length*1) 140737488355328 then some a else none
def sq(N:Nat)(a:H9):Option H9 :=
  (iY N a.world).bind fun b=>(ou N a.cells).bind fun c=>(sK N a.aU).bind fun d=>(yO N a.saved).bind fun e=>some ⟨b,c,d,e⟩
def oS(N:Nat)(b:ByteArray):Nat->Nat->Option (M7 Bool Unit)
  |0,a=>some (.next ())
  |c+1,a=>((lE b (a:Int)).bind fun d=>bif(d.toNat:Int)<=32 then some true else(lE b (a:Int)).bind fun e=>some (126<(e.toNat:Int)):Option Bool).bind fun f=>bif f then some (.ret false)else oS N b c (a+1)
def lX(N:Nat)(a:ByteArray):Option Bool :=
  (bif(a.size:Int)<1 then some true else some (decide (12<(a.size:Int)))).bind fun b=>bif b then some false else(oS N a ((a.size:Int)-((0:Nat):Int)).toNat 0).bind fun o=>match o with|.ret r=>some r|.next ()=>some true
def G5(N:Nat)(g1:(Cl->Option Bool)):List Cl->Nat->Option (M7 Int Unit)
  |[],a=>some (.next ())
  |x7::rest4,a=>(g1 x7).bind fun b=>bif b then some (.ret (a:Int))else G5 N g1 rest4 (a+1)
def xp(N:Nat)(a:(List Cl))(g1:Cl->Option Bool):Option Int :=
  (G5 N g1 a 0).bind fun o=>match o with|.ret r=>some r|.next ()=>some (-1)
def P5(N:Nat)(a:(List Cl))(g1:Cl->Option Bool):Option Bool :=
  (xp N a g1).bind fun b=>some (0<=b)
def sn(N:Nat)(a:Cl)(b:ByteArray):Option Bool :=
  some (a.name=b)
def qR(N:Nat)(a:Wd):Nat->Int->Int->Int->Option (Int)
  |0,_,_,_=>none
  |c+1,b,g,h=>(bif 0<=b then bif b<(a.a7.length:Int)then some (decide (h<=(a.a7.length:Int)))else some false else some false).bind fun d=>bif d then(j3 a.a7 b).bind fun e=>(j3 a.a7 b).bind fun f=>qR N a c f.aQ (wr (g+e.aG)) (wr (h+1))else some g
def jK(N:Nat)(a:Wd)(b:Int):Option Int :=
  (qR N a N b 0 0).bind fun c=>some c
def lj(N:Nat):List Me->Nat->(List Me)->Option ((List Me))
  |[],b,a=>some a
  |x24::rest21,b,a=>(og N x24).bind fun c=>bif AT ((a.length+[c].length)*64) 140737488355328 then lj N rest21 (b+1) (a++[c])else none
def ln(N:Nat):List Cl->Nat->(List Cl)->Option ((List Cl))
  |[],c,b=>some b
  |x12::rest9,c,b=>(lj N x12.aB 0 []).bind fun a=>bif AT ((b.length+[{x12 with aB:=a:Cl}].length)*56) 140737488355328 then ln N rest9 (c+1) (b++[{x12 with aB:=a}])else none
def vw(N:Nat)(a:Wd):Option Wd :=
  (ow N a.heap).bind fun b=>(ln N a.a7 0 []).bind fun c=>some ⟨c,b,a.aC⟩
def uz(N:Nat)(c:Wd)(d:ByteArray)(a:Int)(e:Int):Option (Wd×Int×Int) :=
  ((lX N d).bind fun i=>bif !i then some true else(P5 N c.a7 fun h=>sn N h d).bind fun j=>some j:Option Bool).bind fun k=>bif k then some (⟨[],[],0⟩,0,7)else(bif a<0 then some true else some (decide ((c.a7.length:Int)<=a))).bind fun l=>bif l then some (⟨[],[],0⟩,0,6)else(bif e<0 then some true else(jK N c a).bind fun f=>bif wr (6-f)<e then some true else bif !a=0 then some (decide (a<4))else some false).bind fun g=>bif g then some (⟨[],[],0⟩,0,3)else bif 12<=(c.a7.length:Int)then some (⟨[],[],0⟩,0,5)else(vw N c).bind fun b=>bif AT ((b.a7.length+[(⟨d,a,e,[]⟩:Cl)].length)*56) 140737488355328 then some ({b with a7:=b.a7++[⟨d,a,e,[]⟩]},(c.a7.length:Int),0)else none
def lu(N:Nat)(a:Int)(b:Int):Option Bool :=
  (bif 0<=a then some (decide (a<b))else some false).bind fun c=>some c
def vm(N:Nat)(s:Wd)(t:Int)(e:Me)(d:Ins):Option Int :=
  ((bif d.op=1 then some (decide (d.op=1))else bif d.op=6 then some (decide (d.op=6))else bif d.op=7 then some (decide (d.op=7))else bif d.op=8 then some (decide (d.op=8))else bif d.op=9 then some (decide (d.op=9))else bif d.op=10 then some (decide (d.op=10))else some (decide (d.op=17))).bind fun u=>bif u then some (.next (d.a=0,false))else bif d.op=2 then(lu N d.a e.args).bind fun f=>some (.next (f,false))else(bif d.op=3 then some (decide (d.op=3))else some (decide (d.op=11))).bind fun m=>bif m then(lu N d.a e.a8).bind fun g=>some (.next (g,false))else(bif d.op=4 then some (decide (d.op=4))else some (decide (d.op=12))).bind fun n=>bif n then(jK N s t).bind fun h=>(lu N d.a h).bind fun i=>some (.next (i,false))else bif d.op=5 then bif -1073741824<=d.a then some (.next (d.a<=1073741824,false))else some (.next (false,false))else bif d.op=13 then bif d.a=0 then some (.next (true,false))else bif 4<=d.a then some (.next (d.a<(s.a7.length:Int),false))else some (.next (false,false))else bif d.op=14 then(lu N d.a 5).bind fun j=>some (.next (j,true))else(bif d.op=15 then some (decide (d.op=15))else some (decide (d.op=16))).bind fun p=>bif p then(lu N d.a (e.code.length:Int)).bind fun k=>some (.next (k,false))else some (.ret 1):Option (M7 Int (Bool×Bool))).bind fun o=>match o with|.ret r=>some r|.next (v1,v2)=>bif !v1 then some 3 else(bif v2 then(lX N d.name).bind fun l=>bif !l then some true else bif !v2 then bif !d.name=⟨#[]⟩then some true else bif !d.b=0 then some true else some (!d.c=0)else bif !d.b=0 then some true else some (!d.c=0)else bif !v2 then bif !d.name=⟨#[]⟩then some true else bif !d.b=0 then some true else some (!d.c=0)else bif !d.b=0 then some true else some (!d.c=0)).bind fun q=>bif q then some 2 else some 0
def w8(N:Nat)(b:Ins):Option (Int×Int) :=
  (bif b.op=9 then some (decide (b.op=9))else bif b.op=11 then some (decide (b.op=11))else bif b.op=12 then some (decide (b.op=12))else bif b.op=16 then some (decide (b.op=16))else some (decide (b.op=17))).bind fun c=>bif c then some (1,0)else bif b.op=10 then some (1,2)else bif b.op=14 then some (wr (b.a+1),1)else bif b.op=15 then some (0,0)else some (0,1)
def lg(N:Nat):Nat->Nat->(List Int)->Option ((List Int))
  |0,a,b=>some b
  |c+1,a,b=>(j3 b (a:Int)).bind fun d=>lg N c (a+1) (b.set (a:Int).toNat (-1))
def oD(N:Nat)(i:Me):Nat->(List Int)->(List eI)->Option (M7 ((List Int)×dK) (List Int))
  |0,_,_=>none
  |j+1,g,e=>bif 0<(e.length:Int)then((j3 e 0).bind fun b=>(j3 e 0).bind fun d=>bif 0<=(1:Int)&&1<=(e.length:Int)then(bif b.f0<0 then some true else some (decide ((i.code.length:Int)<=b.f0))).bind fun k=>bif k then some (.ret ([],⟨9,(i.code.length:Int)⟩))else(j3 g b.f0).bind fun p=>bif 0<=p then(j3 g b.f0).bind fun q=>bif !q=d.f1 then some (.ret ([],⟨8,b.f0⟩))else some (.next (g,e.drop (1:Int).toNat))else(j3 g b.f0).bind fun s=>(j3 i.code b.f0).bind fun f=>(w8 N f).bind fun c=>(bif d.f1<c.1 then some true else bif f.op=17 then some (!d.f1=1)else some false).bind fun l=>bif l then some (.ret ([],⟨8,b.f0⟩))else bif 12<wr (d.f1+wr (c.2-c.1))then some (.ret ([],⟨4,b.f0⟩))else(bif !f.op=15 then some (!f.op=17)else some false).bind fun m=>(bif m then bif AT (((e.drop (1:Int).toNat).length+[(⟨wr (b.f0+1),wr (d.f1+wr (c.2-c.1))⟩:eI)].length)*16) 140737488355328 then some (e.drop (1:Int).toNat++[⟨wr (b.f0+1),wr (d.f1+wr (c.2-c.1))⟩])else none else some (e.drop (1:Int).toNat)).bind fun h=>(bif f.op=15 then some true else some (decide (f.op=16))).bind fun n=>bif n then bif AT ((h.length+[(⟨f.a,wr (d.f1+wr (c.2-c.1))⟩:eI)].length)*16) 140737488355328 then some (.next (g.set b.f0.toNat d.f1,h++[⟨f.a,wr (d.f1+wr (c.2-c.1))⟩]))else none else some (.next (g.set b.f0.toNat d.f1,h))else none:Option (M7 ((List Int)×dK) ((List Int)×(List eI)))).bind fun o=>match o with|.ret r=>some (.ret r)|.next (v29,v30)=>oD N i j v29 v30 else some (.next g)
def vi(N:Nat)(a:Me):Option ((List Int)×dK) :=
  bif 0<=(a.code.length:Int)&&(a.code.length:Int)<=140737488355328&&(a.code.length:Int)*8<=140737488355328 then(lg N (((QH (a.code.length:Int).toNat (0:Int)).length:Int)-((0:Nat):Int)).toNat 0 (QH (a.code.length:Int).toNat 0)).bind fun b=>(oD N a N b [⟨0,0⟩]).bind fun o=>match o with|.ret r=>some r|.next v22=>some (v22,⟨0,0⟩)else none
def oa(N:Nat)(c:Wd)(d:Int)(e:Me):List Ins->Nat->Option (M7 dK Unit)
  |[],a=>some (.next ())
  |x28::rest25,a=>(vm N c d e x28).bind fun b=>bif !b=0 then some (.ret ⟨b,(a:Int)⟩)else oa N c d e rest25 (a+1)
def tG(N:Nat)(e:Wd)(b:Int)(a:Me):Option dK :=
  (bif b<0 then some true else some (decide ((e.a7.length:Int)<=b))).bind fun g=>bif g then some ⟨6,0⟩else(lX N a.name).bind fun f=>bif !f then some ⟨7,0⟩else(bif a.args<0 then some true else bif 4<a.args then some true else bif a.a8<0 then some true else some (decide (6<a.a8))).bind fun h=>bif h then some ⟨3,0⟩else bif !a.aS=0 then some ⟨1,0⟩else(bif(a.code.length:Int)<1 then some true else some (decide (60<(a.code.length:Int)))).bind fun d=>bif d then some ⟨5,0⟩else(oa N e b a a.code 0).bind fun o=>match o with|.ret r=>some r|.next ()=>(vi N a).bind fun c=>some c.2
def y8(N:Nat)(h:(List Me))(i:ByteArray)(j:(Me->ByteArray->Option Int)):Nat->Int->Int->Option (Int)
  |0,_,_=>none
  |c+1,a,b=>bif a<b then(bif 0<=wr (a+b)then bif H8 (wr (a+b)/2)then(j3 h (wr (a+b)/2)).bind fun g=>(j g i).bind fun d=>bif d<0 then some (wr (wr (a+b)/2+1),b)else some (a,wr (a+b)/2)else none else none).bind fun(e,f)=>y8 N h i j c e f else some a
def F4(N:Nat)(a:(List Me))(f:ByteArray)(g:Me->ByteArray->Option Int):Option (Int×Bool) :=
  (y8 N a f g N 0 (a.length:Int)).bind fun d=>(bif d<(a.length:Int)then(j3 a d).bind fun e=>(g e f).bind fun b=>some (decide (b=0))else some false).bind fun c=>some (d,c)
def cmp_isNaN_string(N:Nat)(a:ByteArray):Option Bool :=
  some (!a=a)
def yM(N:Nat)(a:ByteArray)(b:ByteArray):Option Int :=
  (cmp_isNaN_string N a).bind fun d=>(cmp_isNaN_string N b).bind fun c=>bif d then bif c then some 0 else some (-1)else bif c then some 1 else bif V8 a b then some (-1)else bif !(V8 a b||a=b)then some 1 else some 0
def ki(N:Nat)(a:Me)(b:ByteArray):Option Int :=
  (yM N a.name b).bind fun c=>some c
def lq(N:Nat):List Me->Nat->(List Me)->Option ((List Me))
  |[],b,a=>some a
  |x24::rest21,b,a=>(og N x24).bind fun c=>bif AT ((a.length+[c].length)*64) 140737488355328 then lq N rest21 (b+1) (a++[c])else none
def ll(N:Nat):List Cl->Nat->(List Cl)->Option ((List Cl))
  |[],c,b=>some b
  |x12::rest9,c,b=>(lq N x12.aB 0 []).bind fun a=>bif AT ((b.length+[{x12 with aB:=a:Cl}].length)*56) 140737488355328 then ll N rest9 (c+1) (b++[{x12 with aB:=a}])else none
def w7(N:Nat)(a:Wd):Option Wd :=
  (ow N a.heap).bind fun b=>(ll N a.a7 0 []).bind fun c=>some ⟨c,b,a.aC⟩
def vY(N:Nat)(g:Wd)(b:Int)(n:Me):Option (Wd×Int) :=
  (bif b<0 then some true else some (decide ((g.a7.length:Int)<=b))).bind fun o=>bif o then some (⟨[],[],0⟩,6)else(j3 g.a7 b).bind fun q=>(F4 N q.aB n.name fun k m=>ki N k m).bind fun d=>(bif !d.2 then(j3 g.a7 b).bind fun l=>some (decide (8<=(l.aB.length:Int)))else some false).bind fun j=>bif j then some (⟨[],[],0⟩,5)else(w7 N g).bind fun a=>(j3 a.a7 b).bind fun f=>(bif !d.2 then(sB N f.aB d.1 [⟨IS,0,0,0,[]⟩]).bind fun h=>some (a.a7.set b.toNat {f with aB:=h})else some a.a7).bind fun e=>e[b.toNat]?.bind fun c=>(og N n).bind fun i=>(j3 c.aB d.1).bind fun p=>some (⟨e.set b.toNat {c with aB:=c.aB.set d.1.toNat i},a.heap,wr (a.aC+1)⟩,0)
def vS(N:Nat)(a:H9)(d:Int)(e:Me):Option (ch×H9) :=
  (tG N a.world d e).bind fun b=>bif !b.err=0 then some (⟨b.err,b.aH,⟨0,0⟩⟩,a)else(vY N a.world d e).bind fun c=>(bif c.2=0 then some {a with world:=c.1}else some a).bind fun f=>some (⟨c.2,0,⟨0,0⟩⟩,f)
def jM(N:Nat)(b:(List Ob))(c:Int)(a:Int):Option ((List Ob)×V×Int) :=
  bif 60<=(b.length:Int)then some ([],⟨0,0⟩,15)else(ow N b).bind fun d=>bif 0<=max a 0&&max a 0<=140737488355328&&max a 0*16<=140737488355328 then bif AT ((d.length+[(⟨c,QH (max a 0).toNat ⟨0,0⟩⟩:Ob)].length)*32) 140737488355328 then some (d++[⟨c,QH (max a 0).toNat ⟨0,0⟩⟩],⟨4,(b.length:Int)⟩,0)else none else none
def vj(N:Nat)(a:H9)(b:Int):Option (ch×H9) :=
  (bif !b=0 then bif b<4 then some true else some (decide ((a.world.a7.length:Int)<=b))else some false).bind fun e=>bif e then some (⟨6,0,⟨0,0⟩⟩,a)else(jK N a.world b).bind fun d=>(jM N a.world.heap b d).bind fun c=>bif !c.2.2=0 then some (⟨c.2.2,0,⟨0,0⟩⟩,a)else some (⟨0,c.2.1.n,c.2.1⟩,{a with world:={a.world with heap:=c.1}})
def sr(N:Nat)(a:V)(c:Int):Option Int :=
  ((bif a.k=0 then some (decide (a.k=0))else bif a.k=1 then some (decide (a.k=1))else some (decide (a.k=2))).bind fun d=>bif d then bif !a.n=0 then some (.ret 2)else some (.next ())else bif a.k=3 then(bif a.n< -1073741824 then some true else some (decide (1073741824<a.n))).bind fun e=>bif e then some (.ret 3)else some (.next ())else bif a.k=4 then(bif a.n<0 then some true else some (decide (c<=a.n))).bind fun b=>bif b then some (.ret 6)else some (.next ())else some (.ret 1):Option (M7 Int Unit)).bind fun o=>match o with|.ret r=>some r|.next ()=>some 0
def oh(N:Nat)(e:Wd)(c:O8):List V->Nat->Option (M7 Int Unit)
  |[],a=>some (.next ())
  |x17::rest14,a=>(j3 ([c.aP]++c.args) (a:Int)).bind fun d=>(sr N d (e.heap.length:Int)).bind fun b=>bif !b=0 then some (.ret b)else oh N e c rest14 (a+1)
def sO(N:Nat)(c:Wd)(a:O8)(b:Int):Option Int :=
  (lX N a.name).bind fun d=>bif !d then some 7 else bif 4<(a.args.length:Int)then some 5 else(bif b<0 then some true else some (decide (400<b))).bind fun e=>bif e then some 3 else bif AT (([a.aP].length+a.args.length)*16) 140737488355328 then(oh N c a ([a.aP]++a.args) 0).bind fun o=>match o with|.ret r=>some r|.next ()=>some 0 else none
def mP(N:Nat)(c:(List Ob))(a:V):Option Int :=
  bif a.k=0 then some 1 else(bif a.k=1 then some (decide (a.k=1))else some (decide (a.k=2))).bind fun d=>bif d then some 2 else bif a.k=3 then some 3 else(bif a.k=4 then bif 0<=a.n then some (decide (a.n<(c.length:Int)))else some false else some false).bind fun e=>bif e then(j3 c a.n).bind fun b=>some b.cls else some 0
def oX(N:Nat)(a:Wd)(i:ByteArray):Nat->Int->Int->Option (M7 (Int×Int) Unit)
  |0,_,_=>none
  |k+1,c,j=>(bif 0<=c then bif c<(a.a7.length:Int)then some (decide (j<=(a.a7.length:Int)))else some false else some false).bind fun d=>bif d then(j3 a.a7 c).bind fun f=>(F4 N f.aB i fun e g=>ki N e g).bind fun b=>bif b.2 then some (.ret (c,b.1))else(j3 a.a7 c).bind fun h=>oX N a i k h.aQ (wr (j+1))else some (.next ())
def gm(N:Nat)(a:Wd)(b:Int)(c:ByteArray):Option (Int×Int) :=
  (oX N a c N b 0).bind fun o=>match o with|.ret r=>some r|.next ()=>some (-1,-1)
def J6(N:Nat)(a:J7)(b:Int):Option J7 :=
  bif a.err=0 then some {a with err:=b}else some a
def nv(N:Nat)(b:J7)(e:Bool):Option (Bool×J7) :=
  (bif b.fuel<=b.sends then(J6 N b 13).bind fun c=>some (.next (c.fuel,c.sends,c.turns,c.back.k,c.back.n,c.err))else(bif e then some (decide (20<=(b.aF.length:Int)))else some false).bind fun d=>bif d then(J6 N b 14).bind fun a=>some (.next (a.fuel,a.sends,a.turns,a.back.k,a.back.n,a.err))else some (.ret (true,{b with sends:=wr (b.sends+1)})):Option (M7 (Bool×J7) (Int×Int×Int×Int×Int×Int))).bind fun o=>match o with|.ret r=>some r|.next (v1,v2,v3,v4,v5,v6)=>some (false,⟨b.w,v1,v2,v3,b.aF,⟨v4,v5⟩,v6⟩)
def qe(N:Nat)(a:Int):Option V :=
  some ⟨3,a.tmod 1073741825⟩
def tJ(N:Nat)(a:Bool):Option V :=
  bif a then some ⟨2,0⟩else some ⟨1,0⟩
def vG(N:Nat)(c:Int)(a:V)(b:V):Option (V×Int) :=
  (bif !a.k=3 then some true else some (!b.k=3)).bind fun i=>bif i then some (⟨0,0⟩,12)else bif c=1 then(qe N (wr (a.n+b.n))).bind fun g=>some (g,0)else bif c=2 then(qe N (wr (a.n-b.n))).bind fun h=>some (h,0)else bif c=3 then(qe N (wr (a.n*b.n))).bind fun d=>some (d,0)else bif c=4 then(tJ N (a.n<b.n)).bind fun e=>some (e,0)else bif c=5 then(tJ N (a.n=b.n)).bind fun f=>some (f,0)else some (⟨0,0⟩,1)
def nz(N:Nat)(a:J7)(b:V):Option J7 :=
  bif(a.aF.length:Int)=0 then some {a with back:=b}else(j3 a.aF (wr ((a.aF.length:Int)-1))).bind fun c=>bif AT ((c.aA.length+[b].length)*16) 140737488355328 then some {a with aF:=a.aF.set (wr ((a.aF.length:Int)-1)).toNat {c with aA:=c.aA++[b]}}else none
def ka(N:Nat)(a:J7)(gq:Int->Int->Option (Fs×Bool))(k:Int)(l:Int)(m:V)(n:(List V)):Option J7 :=
  (j3 a.w.a7 k).bind fun s=>(j3 s.aB l).bind fun d=>bif !d.args=(n.length:Int)then(J6 N a 8).bind fun r=>some {r with w:=a.w,aF:=a.aF}else bif !d.aS=0 then(nv N a false).bind fun c=>bif !c.1 then some {c.2 with w:=a.w,aF:=a.aF}else(j3 n 0).bind fun q=>(vG N d.aS m q).bind fun e=>bif !e.2=0 then(J6 N {c.2 with w:=a.w,aF:=a.aF} e.2).bind fun o=>some {o with w:=a.w,aF:=a.aF}else(nz N {c.2 with w:=a.w,aF:=a.aF} e.1).bind fun p=>some {p with w:=a.w}else(nv N a true).bind fun f=>bif !f.1 then some {f.2 with w:=a.w,aF:=a.aF}else(oJ N n).bind fun g=>bif 0<=d.a8&&d.a8<=140737488355328&&d.a8*16<=140737488355328 then(gq k l).bind fun b=>(bif b.2 then bif 0<=b.1.a8&&b.1.a8<=140737488355328&&b.1.a8*16<=140737488355328 then some (true,b.1.code,QH b.1.a8.toNat ⟨0,0⟩)else none else some (false,d.code,QH d.a8.toNat ⟨0,0⟩)).bind fun(h,i,j)=>bif AT ((a.aF.length+[(⟨k,l,h,i,m,g,j,[],0⟩:j4)].length)*144) 140737488355328 then some {f.2 with w:=a.w,aF:=a.aF++[⟨k,l,h,i,m,g,j,[],0⟩]}else none else none
def s9(N:Nat)(d:J7)(gl:St->Int->ByteArray->Option (Int×Int))(gq:Int->Int->Option (Fs×Bool))(l:Nat)(e:Ins)(n:Int):Option J7 :=
  d.aF[l]?.bind fun b=>bif 0<=wr ((b.aA.length:Int)-e.a)&&wr ((b.aA.length:Int)-e.a)<=(b.aA.length:Int)then(oJ N (b.aA.drop (wr ((b.aA.length:Int)-e.a)).toNat)).bind fun o=>(j3 b.aA (wr (wr ((b.aA.length:Int)-e.a)-1))).bind fun m=>(j3 d.w.a7 b.aE).bind fun p=>(j3 p.aB b.aJ).bind fun k=>(bif b.aZ then some e.c else some n).bind fun j=>(mP N d.w.heap m).bind fun g=>(gl ⟨b.aE,k.name,j⟩ g e.name).bind fun f=>bif f.2<0 then(J6 N d 10).bind fun h=>some {h with w:=d.w,aF:=d.aF}else bif 0<=wr (wr ((b.aA.length:Int)-e.a)-1)&&wr (wr ((b.aA.length:Int)-e.a)-1)<=(b.aA.length:Int)then(ka N {d with aF:=d.aF.set l {b with aA:=b.aA.take (wr (wr ((b.aA.length:Int)-e.a)-1)).toNat}} gq f.1 f.2 m o).bind fun i=>some {i with w:=d.w}else none else none
def oB(N:Nat)(a:J7)(c:Nat)(d:Int):Option J7 :=
  a.aF[c]?.bind fun e=>(bif d<e.aH then bif 300<wr (a.turns+1)then(J6 N {a with turns:=wr (a.turns+1)} 16).bind fun b=>some (b.fuel,b.sends,b.turns,b.back.k,b.back.n,b.err)else some (a.fuel,a.sends,wr (a.turns+1),a.back.k,a.back.n,a.err)else some (a.fuel,a.sends,a.turns,a.back.k,a.back.n,a.err)).bind fun(f,g,h,i,j,l)=>some ⟨a.w,f,g,h,a.aF.set c {e with aH:=d},⟨i,j⟩,l⟩
def jG(N:Nat)(fr:(List j4))(b:Nat):Option (V×(List j4)) :=
  fr[b]?.bind fun a=>(j3 a.aA (wr ((a.aA.length:Int)-1))).bind fun c=>bif 0<=wr ((a.aA.length:Int)-1)&&wr ((a.aA.length:Int)-1)<=(a.aA.length:Int)then some (c,fr.set b {a with aA:=a.aA.take (wr ((a.aA.length:Int)-1)).toNat})else none
def ru(N:Nat)(f:J7)(g:Nat)(h:Ins):Option J7 :=
  f.aF[g]?.bind fun e=>(j3 e.aA (wr (wr ((e.aA.length:Int)-1)-h.b))).bind fun j=>(mP N f.w.heap j).bind fun i=>bif i=h.a then some f else(j3 f.w.a7 e.aE).bind fun k=>(j3 k.aB e.aJ).bind fun d=>bif 0<=d.a8&&d.a8<=(e.a8.length:Int)then some {f with aF:=(((f.aF.set g {e with aZ:=false}).set g {e with aZ:=false,code:=d.code}).set g {e with aZ:=false,code:=d.code,aH:=h.c}).set g {e with aZ:=false,code:=d.code,a8:=e.a8.take d.a8.toNat,aH:=h.c}}else none
def R9(N:Nat)(b:V)(fr:(List j4))(c:Nat):Option (List j4) :=
  fr[c]?.bind fun a=>bif AT ((a.aA.length+[b].length)*16) 140737488355328 then some (fr.set c {a with aA:=a.aA++[b]})else none
def rr(N:Nat)(b:V)(fr:(List j4))(c:Nat):Option (List j4) :=
  fr[c]?.bind fun a=>bif AT ((a.aA.length+[b].length)*16) 140737488355328 then some (fr.set c {a with aA:=a.aA++[b]})else none
def tH(N:Nat)(b:(List Ob))(a:V)(c:Int):Option V :=
  (bif !a.k=4 then some true else bif a.n<0 then some true else bif(b.length:Int)<=a.n then some true else bif c<0 then some true else(j3 b a.n).bind fun g=>some (decide ((g.aG.length:Int)<=c))).bind fun f=>bif f then some ⟨0,0⟩else(j3 b a.n).bind fun d=>(j3 d.aG c).bind fun e=>some e
def ui(N:Nat)(a:V)(b:(List V))(fr:(List j4))(c:Nat):Option (List V) :=
  fr[c]?.bind fun d=>bif AT ((b.length+[a].length)*16) 140737488355328 then some (b++[a])else none
def rj(N:Nat)(fr:(List j4))(b:Nat):Option (V×(List j4)) :=
  fr[b]?.bind fun a=>(j3 a.aA (wr ((a.aA.length:Int)-1))).bind fun c=>bif 0<=wr ((a.aA.length:Int)-1)&&wr ((a.aA.length:Int)-1)<=(a.aA.length:Int)then some (c,fr.set b {a with aA:=a.aA.take (wr ((a.aA.length:Int)-1)).toNat})else none
def rm(N:Nat)(a:J7)(b:V)(d:Int)(e:V):Option J7 :=
  (a.w.heap[b.n.toNat]?.elim (bif b.k=4 then bif b.n<(a.w.heap.length:Int)then none else some false else some false) fun j=>bif b.k=4 then bif b.n<(a.w.heap.length:Int)then(j3 a.w.heap b.n).bind fun g=>some (d<(j.aG.length:Int))else some false else some false:Option Bool).bind fun f=>bif f then a.w.heap[b.n.toNat]?.elim none fun c=>(j3 a.w.heap b.n).bind fun h=>(j3 c.aG d).bind fun i=>some {a with w:={a.w with heap:=a.w.heap.set b.n.toNat ⟨c.cls,c.aG.set d.toNat e⟩}}else some a
def s8(N:Nat)(c:J7)(d:Nat)(e:Ins):Option J7 :=
  bif e.op=1 then c.aF[d]?.bind fun T=>(R9 N T.aP c.aF d).bind fun S=>some {c with aF:=S}else bif e.op=2 then c.aF[d]?.bind fun W=>(j3 W.args e.a).bind fun X=>(R9 N X c.aF d).bind fun u=>some {c with aF:=u}else bif e.op=3 then c.aF[d]?.bind fun q=>(j3 q.a8 e.a).bind fun H=>(rr N H c.aF d).bind fun m=>m[d]?.bind fun I=>some {c with aF:=m.set d {I with a8:=q.a8}}else bif e.op=4 then c.aF[d]?.bind fun J=>(tH N c.w.heap J.aP e.a).bind fun v=>(R9 N v c.aF d).bind fun x=>some {c with aF:=x}else bif e.op=5 then(R9 N ⟨3,e.a⟩ c.aF d).bind fun y=>some {c with aF:=y}else bif e.op=6 then(R9 N ⟨0,0⟩ c.aF d).bind fun z=>some {c with aF:=z}else(bif e.op=7 then some (decide (e.op=7))else some (decide (e.op=8))).bind fun G=>bif G then(tJ N (e.op=8)).bind fun A=>(R9 N A c.aF d).bind fun B=>some {c with aF:=B}else bif e.op=9 then(jG N c.aF d).bind fun C=>some {c with aF:=C.2}else bif e.op=10 then c.aF[d]?.bind fun i=>(j3 i.aA (wr ((i.aA.length:Int)-1))).bind fun K=>(ui N K i.aA c.aF d).bind fun D=>some {c with aF:=c.aF.set d {i with aA:=D}}else bif e.op=11 then c.aF[d]?.bind fun r=>(rj N c.aF d).bind fun j=>j.2[d]?.bind fun L=>(j3 r.a8 e.a).bind fun U=>some {c with aF:=j.2.set d {L with a8:=r.a8.set e.a.toNat j.1}}else bif e.op=12 then c.aF[d]?.bind fun M=>(jG N c.aF d).bind fun f=>f.2[d]?.bind fun V=>(rm N {c with aF:=f.2} M.aP e.a f.1).bind fun n=>some {n with w:={c.w with heap:=n.w.heap},aF:=f.2}else bif e.op=19 then c.aF[d]?.bind fun s=>(j3 s.a8 e.a).bind fun O=>(tH N c.w.heap O e.b).bind fun E=>(rr N E c.aF d).bind fun o=>o[d]?.bind fun P=>some {c with aF:=o.set d {P with a8:=s.a8}}else bif e.op=20 then c.aF[d]?.bind fun t=>(j3 t.a8 e.a).bind fun Q=>(rj N c.aF d).bind fun g=>g.2[d]?.bind fun R=>(rm N {c with aF:=g.2} Q e.b g.1).bind fun p=>some {p with w:={c.w with heap:=p.w.heap},aF:=g.2.set d {R with a8:=t.a8}}else bif e.op=13 then(jK N c.w e.a).bind fun F=>(jM N c.w.heap e.a F).bind fun h=>bif !h.2.2=0 then(J6 N c h.2.2).bind fun k=>some {k with w:=c.w,aF:=c.aF}else(R9 N h.2.1 c.aF d).bind fun l=>some {c with w:={c.w with heap:=h.1},aF:=l}else some c
def sA(N:Nat)(b:J7)(gl:St->Int->ByteArray->Option (Int×Int))(gq:Int->Int->Option (Fs×Bool)):Option J7 :=
  (j3 b.aF (wr ((b.aF.length:Int)-1))).bind fun c=>(j3 c.code c.aH).bind fun f=>bif f.op=14 then(s9 N {b with aF:=b.aF.set (wr ((b.aF.length:Int)-1)).toNat {c with aH:=wr (c.aH+1)}} gl gq (wr ((b.aF.length:Int)-1)).toNat f c.aH).bind fun o=>some {o with w:=b.w}else bif f.op=15 then(oB N {b with aF:=b.aF.set (wr ((b.aF.length:Int)-1)).toNat {c with aH:=wr (c.aH+1)}} (wr ((b.aF.length:Int)-1)).toNat f.a).bind fun g=>some {g with w:=b.w}else bif f.op=16 then(jG N (b.aF.set (wr ((b.aF.length:Int)-1)).toNat {c with aH:=wr (c.aH+1)}) (wr ((b.aF.length:Int)-1)).toNat).bind fun d=>bif d.1.k=1 then(oB N {b with aF:=d.2} (wr ((b.aF.length:Int)-1)).toNat f.a).bind fun h=>some {h with w:=b.w}else bif d.1.k=2 then some {b with aF:=d.2}else(J6 N {b with aF:=d.2} 11).bind fun i=>some {i with w:=b.w,aF:=d.2}else bif f.op=17 then(jG N (b.aF.set (wr ((b.aF.length:Int)-1)).toNat {c with aH:=wr (c.aH+1)}) (wr ((b.aF.length:Int)-1)).toNat).bind fun e=>bif 0<=wr ((e.2.length:Int)-1)&&wr ((e.2.length:Int)-1)<=(e.2.length:Int)then(nz N {b with aF:=e.2.take (wr ((e.2.length:Int)-1)).toNat} e.1).bind fun j=>some {j with w:=b.w}else none else bif f.op=18 then(ru N {b with aF:=b.aF.set (wr ((b.aF.length:Int)-1)).toNat {c with aH:=wr (c.aH+1)}} (wr ((b.aF.length:Int)-1)).toNat f).bind fun l=>some {l with w:=b.w}else bif f.op=21 then(nv N {b with aF:=b.aF.set (wr ((b.aF.length:Int)-1)).toNat {c with aH:=wr (c.aH+1)}} true).bind fun m=>some {m.2 with w:=b.w,aF:=b.aF.set (wr ((b.aF.length:Int)-1)).toNat {c with aH:=wr (c.aH+1)}}else(s8 N {b with aF:=b.aF.set (wr ((b.aF.length:Int)-1)).toNat {c with aH:=wr (c.aH+1)}} (wr ((b.aF.length:Int)-1)).toNat f).bind fun n=>some n
def kj(N:Nat)(p:(St->Int->ByteArray->Option (Int×Int)))(q:(Int->Int->Option (Fs×Bool))):Nat->(List Cl)->(List Ob)->Int->Int->Int->Int->(List j4)->Int->Int->Int->Option (((List Cl)×(List Ob)×Int×Int×Int×Int×(List j4)×Int×Int×Int))
  |0,_,_,_,_,_,_,_,_,_,_=>none
  |m+1,d,e,f,g,h,i,b,j,l,c=>(bif c=0 then some (decide (0<(b.length:Int)))else some false).bind fun o=>bif o then(sA N ⟨⟨d,e,f⟩,g,h,i,b,⟨j,l⟩,c⟩ p q).bind fun a=>kj N p q m a.w.a7 a.w.heap a.w.aC a.fuel a.sends a.turns a.aF a.back.k a.back.n a.err else some (d,e,f,g,h,i,b,j,l,c)
def jv(N:Nat)(h:Wd)(e:O8)(i:Int)(A:St->Int->ByteArray->Option (Int×Int))(y:Int->Int->Option (Fs×Bool)):Option (Wd×dX) :=
  (sO N h e i).bind fun z=>bif !z=0 then(iY N h).bind fun B=>some (B,⟨⟨0,0⟩,z,0⟩)else(iY N h).bind fun d=>(mP N d.heap e.aP).bind fun C=>(gm N d C e.name).bind fun c=>(bif c.2<0 then(J6 N ⟨d,i,0,0,[],⟨0,0⟩,0⟩ 10).bind fun b=>some (b.fuel,b.sends,b.turns,[],b.back.k,b.back.n,b.err)else(ka N ⟨d,i,0,0,[],⟨0,0⟩,0⟩ y c.1 c.2 e.aP e.args).bind fun a=>some (a.fuel,a.sends,a.turns,a.aF,a.back.k,a.back.n,a.err)).bind fun(l,m,o,p,q,r,s)=>(kj N A y N d.a7 d.heap d.aC l m o p q r s).bind fun(t,u,v,D,f,E,F,w,x,g)=>bif !g=0 then(iY N h).bind fun j=>some (j,⟨⟨0,0⟩,g,f⟩)else some (⟨t,u,v⟩,⟨⟨w,x⟩,0,f⟩)
def tD(N:Nat)(e:St)(b:Int)(c:ByteArray)(d:Wd):Option (Int×Int) :=
  (gm N d b c).bind fun a=>some (a.1,a.2)
def tW(N:Nat)(a:Int)(b:Int):Option (Fs×Bool) :=
  some (⟨0,IS,0,0,[]⟩,false)
def wV(N:Nat)(d:Wd)(f:O8)(g:Int):Option (Wd×dX) :=
  (jv N d f g (fun a b c=>tD N a b c d) fun a b=>tW N a b).bind fun e=>some (e.1,e.2)
def ue(N:Nat)(e:J7)(gl:St->Int->ByteArray->D9->Option (Int×Int×D9))(gq:Int->Int->Option (Fs×Bool))(sb:D9)(l:Nat)(f:Ins)(n:Int):Option (D9×J7) :=
  e.aF[l]?.bind fun b=>bif 0<=wr ((b.aA.length:Int)-f.a)&&wr ((b.aA.length:Int)-f.a)<=(b.aA.length:Int)then(oJ N (b.aA.drop (wr ((b.aA.length:Int)-f.a)).toNat)).bind fun o=>(j3 b.aA (wr (wr ((b.aA.length:Int)-f.a)-1))).bind fun m=>(j3 e.w.a7 b.aE).bind fun p=>(j3 p.aB b.aJ).bind fun k=>(bif b.aZ then some f.c else some n).bind fun j=>(mP N e.w.heap m).bind fun g=>(gl ⟨b.aE,k.name,j⟩ g f.name sb).bind fun d=>bif d.2.1<0 then(J6 N e 10).bind fun h=>some (d.2.2,{h with w:=e.w,aF:=e.aF})else bif 0<=wr (wr ((b.aA.length:Int)-f.a)-1)&&wr (wr ((b.aA.length:Int)-f.a)-1)<=(b.aA.length:Int)then(ka N {e with aF:=e.aF.set l {b with aA:=b.aA.take (wr (wr ((b.aA.length:Int)-f.a)-1)).toNat}} gq d.1 d.2.1 m o).bind fun i=>some (d.2.2,{i with w:=e.w})else none else none
def ud(N:Nat)(b:J7)(gl:St->Int->ByteArray->D9->Option (Int×Int×D9))(gq:Int->Int->Option (Fs×Bool))(sb:D9):Option (D9×J7) :=
  (j3 b.aF (wr ((b.aF.length:Int)-1))).bind fun c=>(j3 c.code c.aH).bind fun f=>bif f.op=14 then(ue N {b with aF:=b.aF.set (wr ((b.aF.length:Int)-1)).toNat {c with aH:=wr (c.aH+1)}} gl gq sb (wr ((b.aF.length:Int)-1)).toNat f c.aH).bind fun o=>some (o.1,{o.2 with w:=b.w})else bif f.op=15 then(oB N {b with aF:=b.aF.set (wr ((b.aF.length:Int)-1)).toNat {c with aH:=wr (c.aH+1)}} (wr ((b.aF.length:Int)-1)).toNat f.a).bind fun g=>some (sb,{g with w:=b.w})else bif f.op=16 then(jG N (b.aF.set (wr ((b.aF.length:Int)-1)).toNat {c with aH:=wr (c.aH+1)}) (wr ((b.aF.length:Int)-1)).toNat).bind fun d=>bif d.1.k=1 then(oB N {b with aF:=d.2} (wr ((b.aF.length:Int)-1)).toNat f.a).bind fun h=>some (sb,{h with w:=b.w})else bif d.1.k=2 then some (sb,{b with aF:=d.2})else(J6 N {b with aF:=d.2} 11).bind fun i=>some (sb,{i with w:=b.w,aF:=d.2})else bif f.op=17 then(jG N (b.aF.set (wr ((b.aF.length:Int)-1)).toNat {c with aH:=wr (c.aH+1)}) (wr ((b.aF.length:Int)-1)).toNat).bind fun e=>bif 0<=wr ((e.2.length:Int)-1)&&wr ((e.2.length:Int)-1)<=(e.2.length:Int)then(nz N {b with aF:=e.2.take (wr ((e.2.length:Int)-1)).toNat} e.1).bind fun j=>some (sb,{j with w:=b.w})else none else bif f.op=18 then(ru N {b with aF:=b.aF.set (wr ((b.aF.length:Int)-1)).toNat {c with aH:=wr (c.aH+1)}} (wr ((b.aF.length:Int)-1)).toNat f).bind fun l=>some (sb,{l with w:=b.w})else bif f.op=21 then(nv N {b with aF:=b.aF.set (wr ((b.aF.length:Int)-1)).toNat {c with aH:=wr (c.aH+1)}} true).bind fun m=>some (sb,{m.2 with w:=b.w,aF:=b.aF.set (wr ((b.aF.length:Int)-1)).toNat {c with aH:=wr (c.aH+1)}})else(s8 N {b with aF:=b.aF.set (wr ((b.aF.length:Int)-1)).toNat {c with aH:=wr (c.aH+1)}} (wr ((b.aF.length:Int)-1)).toNat f).bind fun n=>some (sb,n)
def oQ(N:Nat)(q:(St->Int->ByteArray->D9->Option (Int×Int×D9)))(r:(Int->Int->Option (Fs×Bool))):Nat->D9->(List Cl)->(List Ob)->Int->Int->Int->Int->(List j4)->Int->Int->Int->Option ((D9×(List Cl)×(List Ob)×Int×Int×Int×Int×(List j4)×Int×Int×Int))
  |0,_,_,_,_,_,_,_,_,_,_,_=>none
  |o+1,d,e,f,g,h,i,j,b,l,m,c=>(bif c=0 then some (decide (0<(b.length:Int)))else some false).bind fun p=>bif p then(ud N ⟨⟨e,f,g⟩,h,i,j,b,⟨l,m⟩,c⟩ q r d).bind fun a=>oQ N q r o a.1 a.2.w.a7 a.2.w.heap a.2.w.aC a.2.fuel a.2.sends a.2.turns a.2.aF a.2.back.k a.2.back.n a.2.err else some (d,e,f,g,h,i,j,b,l,m,c)
def qj(N:Nat)(i:Wd)(e:O8)(j:Int)(B:St->Int->ByteArray->D9->Option (Int×Int×D9))(sb:D9)(z:Int->Int->Option (Fs×Bool)):Option (Wd×dX×D9) :=
  (sO N i e j).bind fun A=>bif !A=0 then(iY N i).bind fun C=>some (C,⟨⟨0,0⟩,A,0⟩,sb)else(iY N i).bind fun d=>(mP N d.heap e.aP).bind fun D=>(gm N d D e.name).bind fun c=>(bif c.2<0 then(J6 N ⟨d,j,0,0,[],⟨0,0⟩,0⟩ 10).bind fun b=>some (b.fuel,b.sends,b.turns,[],b.back.k,b.back.n,b.err)else(ka N ⟨d,j,0,0,[],⟨0,0⟩,0⟩ z c.1 c.2 e.aP e.args).bind fun a=>some (a.fuel,a.sends,a.turns,a.aF,a.back.k,a.back.n,a.err)).bind fun(m,o,p,q,r,s,t)=>(oQ N B z N sb d.a7 d.heap d.aC m o p q r s t).bind fun(f,u,v,w,E,g,F,G,x,y,h)=>bif !h=0 then(iY N i).bind fun l=>some (l,⟨⟨0,0⟩,h,g⟩,f)else some (⟨u,v,w⟩,⟨⟨x,y⟩,0,g⟩,f)
def D7(N:Nat)(g1:(Ce->Option Bool)):List Ce->Nat->Option (M7 Int Unit)
  |[],a=>some (.next ())
  |x7::rest4,a=>(g1 x7).bind fun b=>bif b then some (.ret (a:Int))else D7 N g1 rest4 (a+1)
def X3(N:Nat)(a:(List Ce))(g1:Ce->Option Bool):Option Int :=
  (D7 N g1 a 0).bind fun o=>match o with|.ret r=>some r|.next ()=>some (-1)
def qT(N:Nat)(a:Ce)(b:St):Option Bool :=
  some (cE (Z8 a.site) (Z8 b))
def qf(N:Nat)(b:(List Ce))(c:St):Option Int :=
  (X3 N b fun a=>qT N a c).bind fun d=>some d
def om(N:Nat)(b:Int):List Ln->Nat->Option (M7 Int Unit)
  |[],a=>some (.next ())
  |x17::rest14,a=>bif x17.cls=b then some (.ret x17.found)else om N b rest14 (a+1)
def wS(N:Nat)(a:(List Ce))(c:St)(d:Int)(e:Int):Option Int :=
  (qf N a c).bind fun b=>(bif b<0 then some true else(j3 a b).bind fun g=>some (!g.aC=d)).bind fun f=>bif f then some (-1)else(j3 a b).bind fun h=>(om N e h.lines 0).bind fun o=>match o with|.ret r=>some r|.next ()=>some (-1)
def D8(N:Nat)(g1:(Ln->Option Bool)):List Ln->Nat->Option (M7 Int Unit)
  |[],a=>some (.next ())
  |x7::rest4,a=>(g1 x7).bind fun b=>bif b then some (.ret (a:Int))else D8 N g1 rest4 (a+1)
def O1(N:Nat)(a:(List Ln))(g1:Ln->Option Bool):Option Int :=
  (D8 N g1 a 0).bind fun o=>match o with|.ret r=>some r|.next ()=>some (-1)
def xn(N:Nat)(a:(List Ln))(g1:Ln->Option Bool):Option Bool :=
  (O1 N a g1).bind fun b=>some (0<=b)
def uu(N:Nat)(b:Ln)(c:Int):Option Bool :=
  some (b.cls=c)
def dw(e:Int)(x:Ce):Ce:=
  if x.aC=e then x else⟨x.site,e,false,[]⟩
def V4(c f:Int)(y:Ce):Ce:=if y.many=true\/0<=fY (fun t:Ln=>decide (t.cls=c)) y.lines then y else if(3:Int)<=(y.lines.length:Int) then⟨y.site,y.aC,true,[]⟩ else⟨y.site,y.aC,y.many,y.lines++[⟨c,f⟩]⟩
def fv(e c f:Int)(x:Ce):Ce:=
  V4 c f (dw e x)
def sJ(N:Nat)(a:List Ce)(b:St)(c:Int)(d:Int)(e:Int):Option (List Ce) :=
  bif (AT ((a.length+1)*72) 140737488355328 && a.all fun t=>AT ((t.lines.length+1)*16) 140737488355328) then
    some ((bl (fun t:Ce=>decide (t.site=b)) ⟨b,c,false,[]⟩ a).1.modify (bl (fun t:Ce=>decide (t.site=b)) ⟨b,c,false,[]⟩ a).2 (fv c d e)) else none
def vC(N:Nat)(c:(List Ce))(b:Wd)(i:St)(d:Int)(j:ByteArray):Option ((List Ce)×Int×Int×Bool) :=
  (wS N c i b.aC d).bind fun e=>(bif 0<=e then some (decide (e<(b.a7.length:Int)))else some false).bind fun l=>bif l then(gm N b e j).bind fun k=>(ou N c).bind fun f=>some (f,k.1,k.2,true)else(gm N b d j).bind fun a=>bif a.2<0 then(ou N c).bind fun g=>some (g,a.1,a.2,false)else(sJ N c i b.aC d a.1).bind fun h=>some (h,a.1,a.2,false)
def F9(N:Nat)(g1:(Tl->Option Bool)):List Tl->Nat->Option (M7 Int Unit)
  |[],a=>some (.next ())
  |x7::rest4,a=>(g1 x7).bind fun b=>bif b then some (.ret (a:Int))else F9 N g1 rest4 (a+1)
def xo(N:Nat)(a:(List Tl))(g1:Tl->Option Bool):Option Int :=
  (F9 N g1 a 0).bind fun o=>match o with|.ret r=>some r|.next ()=>some (-1)
def vz(N:Nat)(a:Tl)(b:St):Option Bool :=
  some (cE (Z8 a.site) (Z8 b))
def vv(N:Nat)(a:Ln)(b:Int):Option Bool :=
  some (a.cls=b)
def gV(c:Int)(l:List Ln):List Ln:=let q:=bl (fun x=>decide (x.cls=c)) ⟨c,0⟩ l;q.1.modify q.2 fun x=>⟨x.cls,wr (x.found+1)⟩
def uI(s:St)(c:Int)(l:List Tl):List Tl:=let q:=bl (fun t=>decide (t.site=s)) ⟨s,[]⟩ l;q.1.modify q.2 fun t=>⟨t.site,gV c t.a7⟩
def sH(N:Nat)(a:List Tl)(b:St)(c:Int):Option (List Tl) :=
  bif AT ((a.length+1)*56) 140737488355328&&a.all fun t=>AT ((t.a7.length+1)*16) 140737488355328 then some (uI b c a)else none
def sX(N:Nat)(c:St)(d:Int)(e:ByteArray)(a:D9)(f:Wd):Option (Int×Int×D9) :=
  (vC N a.cells f c d e).bind fun b=>(sH N a.aU c d).bind fun g=>(bif b.2.2.2 then some (wr (a.eh+1),a.not)else some (a.eh,wr (a.not+1))).bind fun(h,i)=>some (b.2.1,b.2.2.1,⟨a.world,a.fL,b.1,g,h,i⟩)
def uw(N:Nat)(e:Wd)(f:O8)(g:Int)(h:(List Ce))(i:(List Tl)):Option D9 :=
  (ou N h).bind fun j=>(sK N i).bind fun k=>(qj N e f g (fun a b d l=>sX N a b d l e) ⟨⟨[],[],0⟩,⟨⟨0,0⟩,0,0⟩,j,k,0,0⟩ fun a b=>tW N a b).bind fun c=>some {c.2.2 with world:=c.1,fL:=c.2.1}
def oT(N:Nat):List Ln->Nat->Int->Int->Option ((Int×Int))
  |[],c,b,a=>some (b,a)
  |x32::rest29,c,b,a=>((bif a<x32.found then some true else bif x32.found=a then bif 0<a then some (decide (x32.cls<b))else some false else some false).bind fun f=>bif f then some (x32.cls,x32.found)else some (b,a):Option (Int×Int)).bind fun(d,e)=>oT N rest29 (c+1) d e
def oW(N:Nat)(g:St):List Tl->Nat->Int->Int->Option ((Int×Int))
  |[],h,a,b=>some (a,b)
  |x13::rest10,h,a,b=>(bif !cE (Z8 x13.site) (Z8 g)then some (a,b)else(oT N x13.a7 0 a b).bind fun(e,f)=>some (e,f)).bind fun(c,d)=>oW N g rest10 (h+1) c d
def vB(N:Nat)(a:(List Tl))(b:St):Option (Int×Int) :=
  (oW N b a 0 (-1) 0).bind fun(c,d)=>some (c,d)
def oj(N:Nat):List Ln->Nat->Int->Option (Int)
  |[],b,a=>some a
  |x25::rest22,b,a=>oj N rest22 (b+1) (wr (a+x25.found))
def oc(N:Nat)(d:St):List Tl->Nat->Int->Option (Int)
  |[],e,a=>some a
  |x10::rest7,e,a=>(bif !cE (Z8 x10.site) (Z8 d)then some a else(oj N x10.a7 0 a).bind fun c=>some c).bind fun b=>oc N d rest7 (e+1) b
def wT(N:Nat)(a:(List Tl))(b:St):Option Int :=
  (oc N b a 0 0).bind fun c=>some c
def H7(N:Nat)(g1:(Ins->Option Bool)):List Ins->Nat->Option (M7 Int Unit)
  |[],a=>some (.next ())
  |x7::rest4,a=>(g1 x7).bind fun b=>bif b then some (.ret (a:Int))else H7 N g1 rest4 (a+1)
def xr(N:Nat)(a:(List Ins))(g1:Ins->Option Bool):Option Int :=
  (H7 N g1 a 0).bind fun o=>match o with|.ret r=>some r|.next ()=>some (-1)
def xq(N:Nat)(a:(List Ins))(g1:Ins->Option Bool):Option Bool :=
  (xr N a g1).bind fun b=>some (0<=b)
def sU(N:Nat)(a:Ins):Option Bool :=
  (bif a.op=14 then some true else some (decide (a.op=13))).bind fun b=>some b
def ss(N:Nat)(b:Me):Option Bool :=
  (bif b.aS=0 then(xq N b.code fun a=>sU N a).bind fun c=>some (!c)else some false).bind fun d=>some d
def wC(N:Nat)(c:Wd)(j:(List Tl))(k:St)(m:ByteArray)(n:Int):Option Int :=
  (vB N j k).bind fun b=>(wT N j k).bind fun l=>(bif b.1<0 then some true else bif l<2 then some true else some (decide (wr (2*b.2)<=l))).bind fun o=>bif o then some (-1)else(gm N c b.1 m).bind fun a=>(bif a.2<0 then some true else(j3 c.a7 a.1).bind fun f=>(j3 f.aB a.2).bind fun g=>(ss N g).bind fun d=>bif !d then some true else(j3 c.a7 a.1).bind fun h=>(j3 h.aB a.2).bind fun i=>some (!i.args=n)).bind fun e=>bif e then some (-1)else some b.1
def oH(N:Nat)(g:Wd)(h:(List Tl))(i:Int)(e:Me):List Ins->Nat->(List Int)->Option ((List Int))
  |[],c,b=>some b
  |x24::rest21,c,b=>(bif x24.op=14 then(wC N g h ⟨i,e.name,(c:Int)⟩ x24.name x24.a).bind fun f=>some f else some (-1)).bind fun d=>bif AT ((b.length+[d].length)*8) 140737488355328 then oH N g h i e rest21 (c+1) (b++[d])else none
def qa(N:Nat)(c:Wd)(g:(List Tl))(a:Int)(d:Int):Option (List Int) :=
  (bif a<0 then some true else bif(c.a7.length:Int)<=a then some true else bif d<0 then some true else(j3 c.a7 a).bind fun i=>some (decide ((i.aB.length:Int)<=d))).bind fun h=>bif h then some []else(j3 c.a7 a).bind fun f=>(j3 f.aB d).bind fun b=>(oH N c g a b b.code 0 []).bind fun e=>some e
def uh(N:Nat)(a:gL)(c:Int)(d:ByteArray):Option ((Option Me)×gL) :=
  (gm N a.w c d).bind fun b=>bif b.2<0 then some (none,a)else(j3 a.w.a7 b.1).bind fun e=>(j3 e.aB b.2).bind fun f=>some (some f,a)
def tC(N:Nat)(a:Me):Option Int :=
  some (wr (wr (wr (3+a.args)+wr (2*a.a8))+(a.code.length:Int)))
def I1(N:Nat)(a:gL)(b:Int)(c:Int)(d:Int)(e:Int):Option gL :=
  bif AT ((a.out.length+[(⟨b,c,d,e,IS⟩:Ins)].length)*48) 140737488355328 then some {a with out:=a.out++[⟨b,c,d,e,IS⟩]}else none
def nd(N:Nat)(f:gL):Nat->Wd->Me->(List Ins)->Int->(List Int)->(List Int)->Int->Option ((Wd×Me×(List Ins)×Int×(List Int)×(List Int)))
  |0,_,_,_,_,_,_,_=>none
  |e+1,g,h,i,j,c,d,b=>bif 0<=b then(I1 N ⟨g,h,i,j,c,d⟩ 11 (wr (f.a8+b)) 0 0).bind fun a=>nd N f e a.w a.m a.out a.a8 a.aH a.fix (wr (b-1))else some (g,h,i,j,c,d)
def V5(N:Nat)(k:gL)(l:Me):Nat->Nat->Wd->Me->(List Ins)->Int->(List Int)->(List Int)->Option ((Wd×Me×(List Ins)×Int×(List Int)×(List Int)))
  |0,b,c,d,e,f,g,h=>some (c,d,e,f,g,h)
  |i+1,b,c,d,e,f,g,h=>(I1 N ⟨c,d,e,f,g,h⟩ 6 0 0 0).bind fun j=>(I1 N j 11 (wr (wr (wr (k.a8+1)+l.args)+(b:Int))) 0 0).bind fun a=>V5 N k l i (b+1) a.w a.m a.out a.a8 a.aH a.fix
def P6(N:Nat)(r:gL)(v:Me)(q:(List Ins)):List Ins->Nat->Wd->Me->(List Ins)->Int->(List Int)->(List Int)->Option ((Wd×Me×(List Ins)×Int×(List Int)×(List Int)))
  |[],s,b,c,d,e,f,g=>some (b,c,d,e,f,g)
  |x88::rest85,s,b,c,d,e,f,g=>(bif x88.op=1 then(I1 N ⟨b,c,d,e,f,g⟩ 3 r.a8 0 0).bind fun p=>some (p.w,p.m,p.out,p.a8,p.aH,p.fix)else bif x88.op=2 then(I1 N ⟨b,c,d,e,f,g⟩ 3 (wr (wr (r.a8+1)+x88.a)) 0 0).bind fun h=>some (h.w,h.m,h.out,h.a8,h.aH,h.fix)else(bif x88.op=3 then some (decide (x88.op=3))else some (decide (x88.op=11))).bind fun t=>bif t then(I1 N ⟨b,c,d,e,f,g⟩ x88.op (wr (wr (wr (r.a8+1)+v.args)+x88.a)) 0 0).bind fun i=>some (i.w,i.m,i.out,i.a8,i.aH,i.fix)else bif x88.op=4 then(I1 N ⟨b,c,d,e,f,g⟩ 19 r.a8 x88.a 0).bind fun j=>some (j.w,j.m,j.out,j.a8,j.aH,j.fix)else bif x88.op=12 then(I1 N ⟨b,c,d,e,f,g⟩ 20 r.a8 x88.a 0).bind fun k=>some (k.w,k.m,k.out,k.a8,k.aH,k.fix)else(bif x88.op=15 then some (decide (x88.op=15))else some (decide (x88.op=16))).bind fun u=>bif u then(I1 N ⟨b,c,d,e,f,g⟩ x88.op (wr ((q.length:Int)+x88.a)) 0 0).bind fun l=>some (l.w,l.m,l.out,l.a8,l.aH,l.fix)else bif x88.op=17 then(I1 N ⟨b,c,d,e,f,g⟩ 15 (wr ((q.length:Int)+(v.code.length:Int))) 0 0).bind fun n=>some (n.w,n.m,n.out,n.a8,n.aH,n.fix)else(I1 N ⟨b,c,d,e,f,g⟩ x88.op x88.a 0 0).bind fun o=>some (o.w,o.m,o.out,o.a8,o.aH,o.fix)).bind fun(x,y,z,A,B,C)=>P6 N r v q rest85 (s+1) x y z A B C
def ua(N:Nat)(d:gL)(y:Int)(z:Int)(A:Ins)(b:Me):Option gL :=
  (I1 N {d with a8:=wr (d.a8+wr (wr (1+b.args)+b.a8))} 18 y A.a z).bind fun B=>(I1 N B 21 0 0 0).bind fun c=>(nd N d N c.w c.m c.out c.a8 c.aH c.fix b.args).bind fun(f,g,h,i,j,k)=>(V5 N d b (b.a8-((0:Nat):Int)).toNat 0 f g h i j k).bind fun(l,n,e,o,p,q)=>(P6 N d b e b.code 0 l n e o p q).bind fun(r,s,t,u,v,x)=>some ⟨r,s,t,u,v,x⟩
def kc(N:Nat)(o:(List Int))(t:Me):List Ins->Nat->Wd->Me->(List Ins)->Int->(List Int)->(List Int)->Bool->Option ((Wd×Me×(List Ins)×Int×(List Int)×(List Int)×Bool))
  |[],b,i,j,d,k,g,f,h=>some (i,j,d,k,g,f,h)
  |x42::rest39,b,i,j,d,k,g,f,h=>(bif AT ((g.length+[(d.length:Int)].length)*8) 140737488355328 then(bif x42.op=14 then bif(b:Int)<(o.length:Int)then(j3 o (b:Int)).bind fun K=>some (decide (0<=K))else some false else some false).bind fun F=>bif F then(j3 o (b:Int)).bind fun L=>(uh N ⟨i,j,d,k,g++[(d.length:Int)],f⟩ L x42.name).bind fun u=>match u with|(none,w67)=>(bif x42.op=15 then some true else some (decide (x42.op=16))).bind fun G=>(bif G then bif AT ((w67.fix.length+[(w67.out.length:Int)].length)*8) 140737488355328 then some (w67.fix++[(w67.out.length:Int)])else none else some w67.fix).bind fun H=>(bif x42.op=14 then some {x42 with c:=(b:Int)}else some x42).bind fun s=>bif AT ((w67.out.length+[s].length)*48) 140737488355328 then some (w67.w,w67.m,w67.out++[s],w67.a8,w67.aH,H,h)else none|(some x68,w67)=>((ss N x68).bind fun v=>bif v then bif x68.args=x42.a then(tC N x68).bind fun x=>bif wr (wr (wr ((w67.out.length:Int)+x)+(t.code.length:Int))-(b:Int))<=240 then some (wr (wr (wr (w67.a8+1)+x68.args)+x68.a8)<=40)else some false else some false else some false:Option Bool).bind fun I=>bif I then(j3 o (b:Int)).bind fun M=>(ua N w67 M (b:Int) x42 x68).bind fun e=>some (e.w,e.m,e.out,e.a8,e.aH,e.fix,true)else(bif x42.op=15 then some true else some (decide (x42.op=16))).bind fun J=>(bif J then bif AT ((w67.fix.length+[(w67.out.length:Int)].length)*8) 140737488355328 then some (w67.fix++[(w67.out.length:Int)])else none else some w67.fix).bind fun p=>(bif x42.op=14 then some {x42 with c:=(b:Int)}else some x42).bind fun l=>bif AT ((w67.out.length+[l].length)*48) 140737488355328 then some (w67.w,w67.m,w67.out++[l],w67.a8,w67.aH,p,h)else none else(bif x42.op=15 then some true else some (decide (x42.op=16))).bind fun q=>(bif q then bif AT ((f.length+[(d.length:Int)].length)*8) 140737488355328 then some (f++[(d.length:Int)])else none else some f).bind fun r=>(bif x42.op=14 then some {x42 with c:=(b:Int)}else some x42).bind fun n=>bif AT ((d.length+[n].length)*48) 140737488355328 then some (i,j,d++[n],k,g++[(d.length:Int)],r,h)else none else none).bind fun(y,z,A,B,C,D,E)=>kc N o t rest39 (b+1) y z A B C D E
def ke(N:Nat)(e:(List Int))(f:(List Int)):List Int->Nat->(List Ins)->Option ((List Ins))
  |[],c,b=>some b
  |x131::rest128,c,b=>(j3 f (c:Int)).bind fun d=>(j3 b d).bind fun g=>(j3 e g.a).bind fun h=>(j3 b d).bind fun i=>ke N e f rest128 (c+1) (b.set d.toNat {i with a:=h})
def vd(N:Nat)(b:Wd)(c:Int)(f:Int)(l:(List Int)):Option (Fs×Bool) :=
  (bif c<0 then some true else bif(b.a7.length:Int)<=c then some true else bif f<0 then some true else(j3 b.a7 c).bind fun p=>some (decide ((p.aB.length:Int)<=f))).bind fun m=>bif m then some (⟨0,IS,0,0,[]⟩,false)else(j3 b.a7 c).bind fun k=>(j3 k.aB f).bind fun a=>(kc N l a a.code 0 b a [] a.a8 [] [] false).bind fun(n,o,g,h,i,e,j)=>bif !j then some (⟨0,IS,0,0,[]⟩,false)else(ke N i e e 0 g).bind fun d=>some (⟨c,a.name,b.aC,h,d⟩,true)
def mM(N:Nat)(d:Wd)(h:(List Tl))(e:Nat):List Me->Nat->(List Fs)->Option ((List Fs))
  |[],b,a=>some a
  |x22::rest19,b,a=>((qa N d h (e:Int) (b:Int)).bind fun f=>(vd N d (e:Int) (b:Int) f).bind fun c=>bif c.2 then bif AT ((a.length+[c.1].length)*64) 140737488355328 then some (a++[c.1])else none else some a:Option (List Fs)).bind fun g=>mM N d h e rest19 (b+1) g
def mN(N:Nat)(d:Wd)(e:(List Tl)):List Cl->Nat->(List Fs)->Option ((List Fs))
  |[],a,c=>some c
  |x10::rest7,a,c=>(mM N d e a x10.aB 0 c).bind fun b=>mN N d e rest7 (a+1) b
def wu(N:Nat)(a:Wd)(b:(List Tl)):Option (List Fs) :=
  (mN N a b a.a7 0 []).bind fun c=>some c
def tI(N:Nat)(e:St)(b:Int)(c:ByteArray)(d:Wd):Option (Int×Int) :=
  (gm N d b c).bind fun a=>some (a.1,a.2)
def mD(N:Nat)(a:Int)(f:Int)(b:Wd):List Fs->Nat->Option (M7 (Fs×Bool) Unit)
  |[],g=>some (.next ())
  |x7::rest4,g=>(bif x7.cls=a then(j3 b.a7 a).bind fun d=>(j3 d.aB f).bind fun e=>bif x7.name=e.name then some (decide (x7.aC=b.aC))else some false else some false).bind fun c=>bif c then some (.ret (x7,true))else mD N a f b rest4 (g+1)
def tK(N:Nat)(a:Int)(b:Int)(c:(List Fs))(d:Wd):Option (Fs×Bool) :=
  (mD N a b d c 0).bind fun o=>match o with|.ret r=>some r|.next ()=>some (⟨0,IS,0,0,[]⟩,false)
def wz(N:Nat)(c:Wd)(f:O8)(g:Int)(h:(List Fs)):Option (Wd×dX) :=
  (jv N c f g (fun a b d=>tI N a b d c) fun a b=>tK N a b h c).bind fun e=>some (e.1,e.2)
def sZ(N:Nat)(b:H9)(g:Int)(e:O8):Option (ch×H9) :=
  (bif g=4 then(wV N b.world e 400).bind fun d=>some (d.1.a7,d.1.heap,d.1.aC,b.cells,b.aU,d.2)else bif g=5 then(uw N b.world e 400 b.cells b.aU).bind fun a=>some (a.world.a7,a.world.heap,a.world.aC,a.cells,a.aU,a.fL)else(wu N b.world b.aU).bind fun f=>(wz N b.world e 400 f).bind fun c=>some (c.1.a7,c.1.heap,c.1.aC,b.cells,b.aU,c.2)).bind fun(i,j,k,l,m,h)=>some ({h with n:=h.sends},⟨⟨i,j,k⟩,l,m,b.saved⟩)
def xt(N:Nat)(b:(List Int))(a:ByteArray):Option (Int×Bool×(List Int)) :=
  bif AT (b.length+a.size) 140737488355328 then some ((a.size:Int),true,b++eJ a)else none
def xu(N:Nat)(a:(List Int))(b:Int):Option (Bool×(List Int)) :=
  bif AT ((a.length+[b].length)*1) 140737488355328 then some (true,a++[b])else none
def oA(N:Nat)(a:(List Int))(b:ByteArray):Option (List Int) :=
  (xt N a b).bind fun c=>(xu N c.2.2 32).bind fun d=>some d.2
def lY(N:Nat):List Int->Nat->(List Int)->Option ((List Int))
  |[],d,c=>some c
  |x10::rest7,d,c=>(strconv_Itoa N x10).bind fun a=>(oA N c a).bind fun b=>lY N rest7 (d+1) b
def Z6(N:Nat)(a:(List Int))(b:(List Int)):Option (List Int) :=
  (lY N b 0 a).bind fun c=>some c
def V6(N:Nat):List Ins->Nat->(List Int)->Option ((List Int))
  |[],f,e=>some e
  |x15::rest12,f,e=>((Z6 N e [x15.op,x15.a]).bind fun b=>bif x15.op=14 then(oA N b x15.name).bind fun c=>some c else some b:Option (List Int)).bind fun d=>V6 N rest12 (f+1) d
def um(N:Nat)(c:(List Int))(a:Me):Option (List Int) :=
  (oA N c a.name).bind fun d=>(Z6 N d [a.args,a.a8,a.aS,(a.code.length:Int)]).bind fun e=>(V6 N a.code 0 e).bind fun b=>some b
def mF(N:Nat):List Me->Nat->(List Int)->Option ((List Int))
  |[],b,a=>some a
  |x30::rest27,b,a=>(um N a x30).bind fun c=>mF N rest27 (b+1) c
def mE(N:Nat):List Cl->Nat->(List Int)->Option ((List Int))
  |[],e,d=>some d
  |x13::rest10,e,d=>(oA N d x13.name).bind fun a=>(Z6 N a [x13.aQ,x13.aG,(x13.aB.length:Int)]).bind fun b=>(mF N x13.aB 0 b).bind fun c=>mE N rest10 (e+1) c
def mC(N:Nat):List V->Nat->(List Int)->Option ((List Int))
  |[],b,a=>some a
  |x62::rest59,b,a=>(Z6 N a [x62.k,x62.n]).bind fun c=>mC N rest59 (b+1) c
def lz(N:Nat):List Ob->Nat->(List Int)->Option ((List Int))
  |[],b,a=>some a
  |x47::rest44,b,a=>(Z6 N a [x47.cls,(x47.aG.length:Int)]).bind fun c=>(mC N x47.aG 0 c).bind fun d=>lz N rest44 (b+1) d
def tN(N:Nat)(a:Wd):Option (List Int) :=
  (Z6 N [] [a.aC,(a.a7.length:Int)]).bind fun d=>(mE N a.a7 0 d).bind fun e=>(Z6 N e [(a.heap.length:Int)]).bind fun c=>(lz N a.heap 0 c).bind fun b=>bif !b.isEmpty then some (eJ (strOfNums b))else none
def U8(N:Nat)(b:F3):Option (ByteArray×F3) :=
  (strings_Cut N b.s ⟨#[32]⟩).bind fun a=>(bif !a.2.2 then some true else some (decide (a.1=⟨#[]⟩))).bind fun c=>bif c then some (⟨#[]⟩,⟨b.s,false⟩)else some (a.1,⟨a.2.1,b.fA⟩)
def u7(N:Nat)(d:F3):Option (Int×F3) :=
  (U8 N d).bind fun a=>(strconv_Atoi N a.1).bind fun b=>(bif !b.2 then some true else(strconv_Itoa N b.1).bind fun e=>some (!e=a.1)).bind fun f=>(bif f then some ⟨a.2.s,false⟩else some a.2).bind fun c=>some (b.1,c)
def O3(N:Nat)(b:F3)(c:Int):Option (Int×F3) :=
  (u7 N b).bind fun a=>(bif a.1<0 then some true else some (decide (c<a.1))).bind fun d=>bif d then some (0,⟨a.2.s,false⟩)else some (a.1,a.2)
def P9(N:Nat):Nat->Nat->F3->(List Ins)->Option ((F3×(List Ins)))
  |0,e,d,c=>some (d,c)
  |h+1,e,d,c=>(u7 N d).bind fun a=>(u7 N a.2).bind fun b=>(bif a.1=14 then(U8 N b.2).bind fun f=>some (f.2,f.1)else some (b.2,IS)).bind fun(i,g)=>bif AT ((c.length+[(⟨a.1,b.1,0,0,g⟩:Ins)].length)*48) 140737488355328 then P9 N h (e+1) i (c++[⟨a.1,b.1,0,0,g⟩])else none
def qP(N:Nat)(h:F3):Option (Me×F3) :=
  (U8 N h).bind fun c=>(u7 N c.2).bind fun d=>(u7 N d.2).bind fun e=>(u7 N e.2).bind fun f=>(O3 N f.2 60).bind fun g=>(P9 N (g.1-((0:Nat):Int)).toNat 0 g.2 []).bind fun(a,b)=>some (⟨c.1,d.1,e.1,f.1,b⟩,a)
def M4(N:Nat):Nat->Nat->F3->(List Me)->Option ((F3×(List Me)))
  |0,d,c,a=>some (c,a)
  |e+1,d,c,a=>(qP N c).bind fun b=>bif AT ((a.length+[b.1].length)*64) 140737488355328 then M4 N e (d+1) b.2 (a++[b.1])else none
def R8(N:Nat):Nat->Nat->F3->(List Cl)->Option ((F3×(List Cl)))
  |0,j,i,f=>some (i,f)
  |g+1,j,i,f=>(U8 N i).bind fun a=>(u7 N a.2).bind fun b=>(u7 N b.2).bind fun c=>(O3 N c.2 8).bind fun d=>(M4 N (d.1-((0:Nat):Int)).toNat 0 d.2 []).bind fun(h,e)=>bif AT ((f.length+[(⟨a.1,b.1,c.1,e⟩:Cl)].length)*56) 140737488355328 then R8 N g (j+1) h (f++[⟨a.1,b.1,c.1,e⟩])else none
def M0(N:Nat):Nat->Nat->F3->(List V)->Option ((F3×(List V)))
  |0,e,d,a=>some (d,a)
  |f+1,e,d,a=>(u7 N d).bind fun b=>(u7 N b.2).bind fun c=>bif AT ((a.length+[(⟨b.1,c.1⟩:V)].length)*16) 140737488355328 then M0 N f (e+1) c.2 (a++[⟨b.1,c.1⟩])else none
def R6(N:Nat):Nat->Nat->F3->(List Ob)->Option ((F3×(List Ob)))
  |0,d,c,a=>some (c,a)
  |g+1,d,c,a=>(u7 N c).bind fun b=>(O3 N b.2 6).bind fun e=>(M0 N (e.1-((0:Nat):Int)).toNat 0 e.2 []).bind fun(h,f)=>bif AT ((a.length+[(⟨b.1,f⟩:Ob)].length)*32) 140737488355328 then R6 N g (d+1) h (a++[⟨b.1,f⟩])else none
def uf(N:Nat)(h:F3):Option (Wd×F3) :=
  (u7 N h).bind fun f=>(O3 N f.2 12).bind fun g=>(R8 N (g.1-((0:Nat):Int)).toNat 0 g.2 []).bind fun(b,c)=>(O3 N b 60).bind fun a=>(R6 N (a.1-((0:Nat):Int)).toNat 0 a.2 []).bind fun(d,e)=>some (⟨c,e,f.1⟩,d)
def sL(N:Nat)(b:Wd)(a:Me):Option Bool :=
  (gm N b 3 a.name).bind fun c=>(bif 0<=c.2 then(j3 b.a7 3).bind fun e=>(j3 e.aB c.2).bind fun f=>bif a.aS=f.aS then bif a.args=1 then bif a.a8=0 then some (decide ((a.code.length:Int)=0))else some false else some false else some false else some false).bind fun d=>some d
def oe(N:Nat)(c:Wd):List V->Nat->Option (M7 Int Unit)
  |[],a=>some (.next ())
  |x29::rest26,a=>(sr N x29 (c.heap.length:Int)).bind fun b=>bif !b=0 then some (.ret b)else oe N c rest26 (a+1)
def od(N:Nat)(a:Wd):List Ob->Nat->Option (M7 Int Unit)
  |[],e=>some (.next ())
  |x7::rest4,e=>(bif !x7.cls=0 then bif x7.cls<4 then some true else bif(a.a7.length:Int)<=x7.cls then some true else(jK N a x7.cls).bind fun b=>some (!(x7.aG.length:Int)=b)else(jK N a x7.cls).bind fun c=>some (!(x7.aG.length:Int)=c)).bind fun d=>bif d then some (.ret 8)else(oe N a x7.aG 0).bind fun o=>match o with|.ret r=>some (.ret r)|.next ()=>od N a rest4 (e+1)
def yb(N:Nat)(a:Wd):Option Int :=
  (od N a a.heap 0).bind fun o=>match o with|.ret r=>some r|.next ()=>some 0
def oY(N:Nat)(c:Wd):List Cl->Nat->(List (ByteArray×Bool))->Option (M7 Int Unit)
  |[],a,b=>some (.next ())
  |x24::rest21,a,b=>((lX N x24.name).bind fun d=>bif !d then some true else bif gW x24.name b then some true else bif(a:Int)<(c.a7.length:Int)then(j3 c.a7 (a:Int)).bind fun g=>some (!x24.name=g.name)else some false:Option Bool).bind fun e=>bif e then some (.ret 7)else bif AT (b.length+1) 140737488355328 then(bif(a:Int)<(c.a7.length:Int)then(j3 c.a7 (a:Int)).bind fun h=>bif !x24.aQ=h.aQ then some true else bif !x24.aG=0 then some true else bif(c.a7.length:Int)<=(a:Int)then bif x24.aQ<0 then some true else bif(a:Int)<=x24.aQ then some true else bif !x24.aQ=0 then bif x24.aQ<4 then some true else bif x24.aG<0 then some true else some (decide (6<x24.aG))else bif x24.aG<0 then some true else some (decide (6<x24.aG))else bif x24.aG<0 then some true else some (decide (6<x24.aG))else bif(c.a7.length:Int)<=(a:Int)then bif x24.aQ<0 then some true else bif(a:Int)<=x24.aQ then some true else bif !x24.aQ=0 then bif x24.aQ<4 then some true else bif x24.aG<0 then some true else some (decide (6<x24.aG))else bif x24.aG<0 then some true else some (decide (6<x24.aG))else bif x24.aG<0 then some true else some (decide (6<x24.aG))).bind fun f=>bif f then some (.ret 3)else oY N c rest21 (a+1) (ec x24.name true b)else none
def oZ(N:Nat)(i:Wd)(j:Wd)(c:Nat)(e:Cl):List Me->Nat->Option (M7 Int Unit)
  |[],a=>some (.next ())
  |x86::rest83,a=>((bif 0<(a:Int)then(j3 e.aB (wr ((a:Int)-1))).bind fun h=>some (!V8 h.name x86.name)else some false).bind fun f=>bif f then some (.ret 7)else(bif !x86.aS=0 then bif(c:Int)=3 then(sL N j x86).bind fun d=>some d else some false else some false).bind fun g=>bif g then some (.next ())else(tG N i (c:Int) x86).bind fun b=>bif !b.err=0 then some (.ret b.err)else some (.next ()):Option (M7 Int Unit)).bind fun o=>match o with|.ret r=>some (.ret r)|.next ()=>oZ N i j c e rest83 (a+1)
def oV(N:Nat)(b:Wd)(d:Wd):List Cl->Nat->Option (M7 Int Unit)
  |[],a=>some (.next ())
  |x72::rest69,a=>(jK N b (a:Int)).bind fun c=>bif 6<c then some (.ret 3)else bif 8<(x72.aB.length:Int)then some (.ret 5)else(oZ N b d a x72 x72.aB 0).bind fun o=>match o with|.ret r=>some (.ret r)|.next ()=>oV N b d rest69 (a+1)
def tE(N:Nat)(a:Wd):Option Int :=
  (wQ N).bind fun c=>(bif(a.a7.length:Int)<(c.a7.length:Int)then some true else bif 12<(a.a7.length:Int)then some true else some (decide (60<(a.heap.length:Int)))).bind fun e=>bif e then some 5 else(bif a.aC<0 then some true else some (decide (1073741824<a.aC))).bind fun d=>bif d then some 3 else(oY N c a.a7 0 []).bind fun o=>match o with|.ret r=>some r|.next ()=>(oV N a c a.a7 0).bind fun o=>match o with|.ret r=>some r|.next ()=>(yb N a).bind fun b=>some b
def kl(N:Nat)(c:(List Int)):Option (Wd×Int) :=
  (uf N ⟨strOfNums c,true⟩).bind fun a=>(bif !a.2.fA then some true else some (!a.2.s=⟨#[]⟩)).bind fun d=>bif d then some (⟨[],[],0⟩,2)else(tE N a.1).bind fun b=>bif !b=0 then some (⟨[],[],0⟩,b)else some (a.1,0)
def vf(N:Nat)(a:H9):Option (ch×H9) :=
  bif(a.saved.length:Int)=0 then some (⟨6,0,⟨0,0⟩⟩,a)else(kl N a.saved).bind fun b=>bif !b.2=0 then some (⟨b.2,0,⟨0,0⟩⟩,a)else some (⟨0,0,⟨0,0⟩⟩,{a with world:={b.1 with aC:=wr (max b.1.aC a.world.aC+1)}})
def ql(N:Nat)(h:H9)(a:eM):Option (H9×ch) :=
  (sq N h).bind fun b=>bif a.kind=1 then(uz N h.world a.name a.aE a.aG).bind fun g=>bif !g.2.2=0 then some (b,⟨g.2.2,0,⟨0,0⟩⟩)else some ({b with world:=g.1},⟨0,g.2.1,⟨0,0⟩⟩)else bif a.kind=2 then(vS N b a.aE a.aJ).bind fun j=>some (j.2,j.1)else bif a.kind=3 then(vj N b a.aE).bind fun c=>some (c.2,c.1)else(bif a.kind=4 then some (decide (a.kind=4))else bif a.kind=5 then some (decide (a.kind=5))else some (decide (a.kind=6))).bind fun i=>bif i then(sZ N b a.kind a.call).bind fun d=>some (d.2,d.1)else bif a.kind=7 then(tN N h.world).bind fun e=>some ({b with saved:=e},⟨0,(e.length:Int),⟨0,0⟩⟩)else bif a.kind=8 then(vf N b).bind fun f=>some (f.2,f.1)else some (b,⟨1,0,⟨0,0⟩⟩)
def oC(N:Nat):List eM->Nat->H9->(List ch)->Option ((H9×(List ch)))
  |[],d,c,b=>some (c,b)
  |x17::rest14,d,c,b=>(ql N c x17).bind fun a=>bif AT ((b.length+[a.2].length)*32) 140737488355328 then oC N rest14 (d+1) a.1 (b++[a.2])else none
def qd(N:Nat)(c:(List eM)):Option (H9×(List ch)×Int) :=
  bif 60<(c.length:Int)then some (⟨⟨[],[],0⟩,[],[],[]⟩,[],5)else(vx N).bind fun d=>(oC N c 0 d []).bind fun(a,b)=>some (a,b,0)
def oM(N:Nat)(b:ByteArray):Nat->Nat->Option (M7 Bool Unit)
  |0,a=>some (.next ())
  |n6+1,a=>((lE b (a:Int)).bind fun c=>bif(c.toNat:Int)<33 then some true else(lE b (a:Int)).bind fun d=>some (126<(d.toNat:Int)):Option Bool).bind fun e=>bif e then some (.ret false)else oM N b n6 (a+1)
def mL(N:Nat)(a:ByteArray):Option Bool :=
  (oM N a ((a.size:Int)-((0:Nat):Int)).toNat 0).bind fun o=>match o with|.ret r=>some r|.next ()=>(bif 0<(a.size:Int)then some (decide ((a.size:Int)<=12))else some false).bind fun b=>some b
def qU(N:Nat)(b:Wd):Nat->Int->(List Int)->Option ((List Int))
  |0,_,_=>none
  |d+1,a,c=>(bif 0<=a then bif a<(b.a7.length:Int)then some (decide ((c.length:Int)<=(b.a7.length:Int)))else some false else some false).bind fun e=>bif e then bif AT ((c.length+[a].length)*8) 140737488355328 then(j3 b.a7 a).bind fun f=>qU N b d f.aQ (c++[a])else none else some c
def tL(N:Nat)(a:Wd)(b:Int):Option (List Int) :=
  (qU N a N b []).bind fun c=>some c
def oE(N:Nat)(e:Wd)(f:(List Int)):List Int->Nat->Int->Option (Int)
  |[],a,b=>some b
  |x12::rest9,a,b=>(j3 f (a:Int)).bind fun c=>(j3 e.a7 c).bind fun d=>oE N e f rest9 (a+1) (wr (b+d.aG))
def jJ(N:Nat)(a:Wd)(c:Int):Option Int :=
  (tL N a c).bind fun b=>(oE N a b b 0 0).bind fun d=>some d
def M5(N:Nat)(n:Wd)(p:Int)(e:Me)(d:Ins):Option Int :=
  ((bif d.op=1 then some (decide (d.op=1))else bif d.op=6 then some (decide (d.op=6))else bif d.op=7 then some (decide (d.op=7))else bif d.op=8 then some (decide (d.op=8))else bif d.op=9 then some (decide (d.op=9))else bif d.op=10 then some (decide (d.op=10))else some (decide (d.op=17))).bind fun q=>bif q then some (.next (0,0))else bif d.op=2 then some (.next (0,wr (e.args-1)))else(bif d.op=3 then some (decide (d.op=3))else some (decide (d.op=11))).bind fun h=>bif h then some (.next (0,wr (e.a8-1)))else(bif d.op=4 then some (decide (d.op=4))else some (decide (d.op=12))).bind fun i=>bif i then(jJ N n p).bind fun f=>some (.next (0,wr (f-1)))else bif d.op=5 then some (.next (-1073741824,1073741824))else bif d.op=13 then(bif 0<d.a then some (decide (d.a<4))else some false).bind fun j=>bif j then some (.ret 3)else some (.next (0,wr ((n.a7.length:Int)-1)))else bif d.op=14 then some (.next (0,4))else(bif d.op=15 then some (decide (d.op=15))else some (decide (d.op=16))).bind fun k=>bif k then some (.next (0,wr ((e.code.length:Int)-1)))else some (.ret 1):Option (M7 Int (Int×Int))).bind fun o=>match o with|.ret r=>some r|.next (v1,v2)=>(bif d.a<v1 then some true else some (decide (v2<d.a))).bind fun l=>bif l then some 3 else(bif d.op=14 then(mL N d.name).bind fun g=>bif !g then some true else bif !d.op=14 then bif !d.name=⟨#[]⟩then some true else bif !d.b=0 then some true else some (!d.c=0)else bif !d.b=0 then some true else some (!d.c=0)else bif !d.op=14 then bif !d.name=⟨#[]⟩then some true else bif !d.b=0 then some true else some (!d.c=0)else bif !d.b=0 then some true else some (!d.c=0)).bind fun m=>bif m then some 2 else some 0
def wB(N:Nat)(b:Ins)(c:Int):Option (Int×Int×(List Int)) :=
  (bif b.op=9 then some (decide (b.op=9))else bif b.op=11 then some (decide (b.op=11))else some (decide (b.op=12))).bind fun d=>bif d then some (1,-1,[wr (c+1)])else bif b.op=10 then some (1,1,[wr (c+1)])else bif b.op=14 then bif H8 (-b.a)then some (wr (b.a+1),-b.a,[wr (c+1)])else none else bif b.op=15 then some (0,0,[b.a])else bif b.op=16 then some (1,-1,[wr (c+1),b.a])else bif b.op=17 then some (1,-1,[])else some (0,1,[wr (c+1)])
def lb(N:Nat):Nat->Nat->(List Int)->Option ((List Int))
  |0,a,b=>some b
  |c+1,a,b=>(j3 b (a:Int)).bind fun d=>lb N c (a+1) (b.set (a:Int).toNat (-1))
def lZ(N:Nat)(e:Int)(a:(Int×Int×(List Int))):List Int->Nat->(List Int)->(List Int)->Option (((List Int)×(List Int)))
  |[],d,b,c=>some (b,c)
  |x79::rest76,d,b,c=>(j3 a.2.2 (d:Int)).bind fun f=>bif AT ((b.length+[f].length)*8) 140737488355328 then bif AT ((c.length+[wr (e+a.2.1)].length)*8) 140737488355328 then lZ N e a rest76 (d+1) (b++[f]) (c++[wr (e+a.2.1)])else none else none
def nu(N:Nat)(h:Me):Nat->(List Int)->(List Int)->(List Int)->Int->Option (M7 ((List Int)×dK) (List Int))
  |0,_,_,_,_=>none
  |i+1,b,e,g,f=>bif f<(e.length:Int)then((j3 e f).bind fun a=>(j3 g f).bind fun c=>(bif(h.code.length:Int)<=a then some true else some (decide (a<0))).bind fun j=>bif j then some (.ret ([],⟨9,(h.code.length:Int)⟩))else(j3 b a).bind fun n=>bif 0<=n then(j3 b a).bind fun p=>bif !p=c then some (.ret ([],⟨8,a⟩))else some (.next (b,e,g))else(j3 b a).bind fun t=>(j3 h.code a).bind fun q=>(wB N q a).bind fun d=>(bif c<d.1 then some true else(j3 h.code a).bind fun s=>bif s.op=17 then some (!c=1)else some false).bind fun k=>bif k then some (.ret ([],⟨8,a⟩))else bif 12<wr (c+d.2.1)then some (.ret ([],⟨4,a⟩))else(lZ N c d d.2.2 0 e g).bind fun(l,m)=>some (.next (b.set a.toNat c,l,m)):Option (M7 ((List Int)×dK) ((List Int)×(List Int)×(List Int)))).bind fun o=>match o with|.ret r=>some (.ret r)|.next (v33,v34,v35)=>nu N h i v33 v34 v35 (wr (f+1))else some (.next b)
def sS(N:Nat)(a:Me):Option ((List Int)×dK) :=
  bif 0<=(a.code.length:Int)&&(a.code.length:Int)<=140737488355328&&(a.code.length:Int)*8<=140737488355328 then(lb N (((QH (a.code.length:Int).toNat (0:Int)).length:Int)-((0:Nat):Int)).toNat 0 (QH (a.code.length:Int).toNat 0)).bind fun b=>(nu N a N b [0] [0] 0).bind fun o=>match o with|.ret r=>some r|.next v26=>some (v26,⟨0,0⟩)else none
def U5(N:Nat)(c:Wd)(d:Int)(e:Me):List Ins->Nat->Option (M7 dK Unit)
  |[],a=>some (.next ())
  |x28::rest25,a=>(M5 N c d e x28).bind fun b=>bif !b=0 then some (.ret ⟨b,(a:Int)⟩)else U5 N c d e rest25 (a+1)
def jI(N:Nat)(e:Wd)(b:Int)(a:Me):Option dK :=
  (bif b<0 then some true else some (decide ((e.a7.length:Int)<=b))).bind fun g=>bif g then some ⟨6,0⟩else(mL N a.name).bind fun f=>bif !f then some ⟨7,0⟩else(bif a.args<0 then some true else bif 4<a.args then some true else bif a.a8<0 then some true else some (decide (6<a.a8))).bind fun h=>bif h then some ⟨3,0⟩else bif !a.aS=0 then some ⟨1,0⟩else(bif(a.code.length:Int)=0 then some true else some (decide (60<(a.code.length:Int)))).bind fun d=>bif d then some ⟨5,0⟩else(U5 N e b a a.code 0).bind fun o=>match o with|.ret r=>some r|.next ()=>(sS N a).bind fun c=>some c.2
def qX(N:Nat)(a:V)(c:Int):Option Int :=
  (bif a.k<0 then some true else some (decide (4<a.k))).bind fun d=>bif d then some 1 else(bif a.k<3 then some (!a.n=0)else some false).bind fun e=>bif e then some 2 else(bif a.k=3 then bif a.n< -1073741824 then some true else some (decide (1073741824<a.n))else some false).bind fun f=>bif f then some 3 else(bif a.k=4 then bif a.n<0 then some true else some (decide (c<=a.n))else some false).bind fun b=>bif b then some 6 else some 0
def U4(N:Nat)(b:Cl):List Cl->Nat->Option (M7 Int Unit)
  |[],a=>some (.next ())
  |x40::rest37,a=>bif x40.name=b.name then some (.ret 7)else U4 N b rest37 (a+1)
def Q0(N:Nat)(b:Wd)(c:Wd):List Cl->Nat->Option (M7 Int Unit)
  |[],a=>some (.next ())
  |x21::rest18,a=>((mL N x21.name).bind fun d=>bif !d then some true else bif(a:Int)<4 then(j3 c.a7 (a:Int)).bind fun h=>some (!x21.name=h.name)else some false:Option Bool).bind fun e=>bif e then some (.ret 7)else bif 0<=(a:Int)&&(a:Int)<=(b.a7.length:Int)then(U4 N x21 (b.a7.take (a:Int).toNat) 0).bind fun o=>match o with|.ret r=>some (.ret r)|.next ()=>(bif(a:Int)<4 then(j3 c.a7 (a:Int)).bind fun i=>bif !x21.aQ=i.aQ then some (.ret 3)else some (.next 0)else(bif x21.aQ<0 then some true else bif(a:Int)<=x21.aQ then some true else bif 0<x21.aQ then some (decide (x21.aQ<4))else some false).bind fun f=>bif f then some (.ret 3)else some (.next 6):Option (M7 Int Int)).bind fun o=>match o with|.ret r=>some (.ret r)|.next v44=>(bif x21.aG<0 then some true else some (decide (v44<x21.aG))).bind fun g=>bif g then some (.ret 3)else Q0 N b c rest18 (a+1)else none
def J9(N:Nat)(c:Nat)(a:Me):List Me->Nat->Bool->Option (Bool)
  |[],d,b=>some b
  |x100::rest97,d,b=>(bif b then some true else bif(c:Int)=3 then bif x100.name=a.name then bif x100.aS=a.aS then bif a.args=1 then bif a.a8=0 then some (decide ((a.code.length:Int)=0))else some false else some false else some false else some false else some false).bind fun e=>J9 N c a rest97 (d+1) e
def Q5(N:Nat)(j:Wd)(k:Wd)(c:Nat)(e:Cl):List Me->Nat->Option (M7 Int Unit)
  |[],a=>some (.next ())
  |x80::rest77,a=>(bif 0<(a:Int)then(j3 e.aB (wr ((a:Int)-1))).bind fun h=>some (!V8 h.name x80.name)else some false).bind fun f=>bif f then some (.ret 7)else(j3 k.a7 3).bind fun i=>(J9 N c x80 i.aB 0 false).bind fun g=>(jI N j (c:Int) x80).bind fun b=>(bif !g then some (!b.err=0)else some false).bind fun d=>bif d then some (.ret b.err)else Q5 N j k c e rest77 (a+1)
def Y8(N:Nat)(b:Wd)(d:Wd):List Cl->Nat->Option (M7 Int Unit)
  |[],a=>some (.next ())
  |x66::rest63,a=>(jJ N b (a:Int)).bind fun c=>bif 6<c then some (.ret 3)else bif 8<(x66.aB.length:Int)then some (.ret 5)else(Q5 N b d a x66 x66.aB 0).bind fun o=>match o with|.ret r=>some (.ret r)|.next ()=>Y8 N b d rest63 (a+1)
def U6(N:Nat)(c:Wd):List V->Nat->Option (M7 Int Unit)
  |[],a=>some (.next ())
  |x149::rest146,a=>(qX N x149 (c.heap.length:Int)).bind fun b=>bif !b=0 then some (.ret b)else U6 N c rest146 (a+1)
def U1(N:Nat)(b:Wd):List Ob->Nat->Option (M7 Int Unit)
  |[],a=>some (.next ())
  |x124::rest121,a=>(bif x124.cls<0 then some true else bif 0<x124.cls then bif x124.cls<4 then some true else bif(b.a7.length:Int)<=x124.cls then some true else(jJ N b x124.cls).bind fun c=>some (!(x124.aG.length:Int)=c)else bif(b.a7.length:Int)<=x124.cls then some true else(jJ N b x124.cls).bind fun d=>some (!(x124.aG.length:Int)=d)).bind fun e=>bif e then some (.ret 8)else(U6 N b x124.aG 0).bind fun o=>match o with|.ret r=>some (.ret r)|.next ()=>U1 N b rest121 (a+1)
def k6(N:Nat)(a:Wd):Option Int :=
  (lV N).bind fun c=>(bif(a.a7.length:Int)<4 then some true else bif 12<(a.a7.length:Int)then some true else some (decide (60<(a.heap.length:Int)))).bind fun d=>bif d then some 5 else(bif a.aC<0 then some true else some (decide (1073741824<a.aC))).bind fun b=>bif b then some 3 else(Q0 N a c a.a7 0).bind fun o=>match o with|.ret r=>some r|.next ()=>(Y8 N a c a.a7 0).bind fun o=>match o with|.ret r=>some r|.next ()=>(U1 N a a.heap 0).bind fun o=>match o with|.ret r=>some r|.next ()=>some 0
def kb(N:Nat):List Int->Nat->ByteArray->Option (ByteArray)
  |[],c,b=>some b
  |x10::rest7,c,b=>(strconv_Itoa N x10).bind fun a=>bif b.size+a.size<=4611686018427387904 then bif(b++a).size+(⟨#[32]⟩:ByteArray).size<=4611686018427387904 then kb N rest7 (c+1) ((b++a)++⟨#[32]⟩)else none else none
def iX(N:Nat)(a:(List Int))(b:ByteArray):Option ByteArray :=
  (kb N a 0 b).bind fun c=>some c
def kh(N:Nat):List Ins->Nat->ByteArray->Option (ByteArray)
  |[],d,c=>some c
  |x47::rest44,d,c=>((iX N [x47.op,x47.a] c).bind fun b=>bif x47.op=14 then bif b.size+x47.name.size<=4611686018427387904 then bif(b++x47.name).size+(⟨#[32]⟩:ByteArray).size<=4611686018427387904 then some ((b++x47.name)++⟨#[32]⟩)else none else none else some b:Option ByteArray).bind fun e=>kh N rest44 (d+1) e
def jx(N:Nat):List Me->Nat->ByteArray->Option (ByteArray)
  |[],b,a=>some a
  |x30::rest27,b,a=>bif a.size+x30.name.size<=4611686018427387904 then bif(a++x30.name).size+(⟨#[32]⟩:ByteArray).size<=4611686018427387904 then(iX N [x30.args,x30.a8,x30.aS,(x30.code.length:Int)] ((a++x30.name)++⟨#[32]⟩)).bind fun c=>(kh N x30.code 0 c).bind fun d=>jx N rest27 (b+1) d else none else none
def kg(N:Nat):List Cl->Nat->ByteArray->Option (ByteArray)
  |[],d,a=>some a
  |x13::rest10,d,a=>bif a.size+x13.name.size<=4611686018427387904 then bif(a++x13.name).size+(⟨#[32]⟩:ByteArray).size<=4611686018427387904 then(iX N [x13.aQ,x13.aG,(x13.aB.length:Int)] ((a++x13.name)++⟨#[32]⟩)).bind fun b=>(jx N x13.aB 0 b).bind fun c=>kg N rest10 (d+1) c else none else none
def lp(N:Nat):List V->Nat->ByteArray->Option (ByteArray)
  |[],b,a=>some a
  |x84::rest81,b,a=>(iX N [x84.k,x84.n] a).bind fun c=>lp N rest81 (b+1) c
def ly(N:Nat):List Ob->Nat->ByteArray->Option (ByteArray)
  |[],b,a=>some a
  |x69::rest66,b,a=>(iX N [x69.cls,(x69.aG.length:Int)] a).bind fun c=>(lp N x69.aG 0 c).bind fun d=>ly N rest66 (b+1) d
def wE(N:Nat)(a:Wd):Option ByteArray :=
  (iX N [a.aC,(a.a7.length:Int)] ⟨#[]⟩).bind fun d=>(kg N a.a7 0 d).bind fun e=>(iX N [(a.heap.length:Int)] e).bind fun b=>(ly N a.heap 0 b).bind fun c=>some c
def Y6(N:Nat)(c:ByteArray):Nat->Nat->(List ByteArray)->ByteArray->Option (M7 ((List ByteArray)×Bool) ((List ByteArray)×ByteArray))
  |0,a,d,b=>some (.next (d,b))
  |e+1,a,d,b=>((lE c (a:Int)).bind fun f=>bif !(f.toNat:Int)=32 then bif 0<=(a:Int)&&((a:Int)<=(a:Int)+1&&(a:Int)+1<=(c.size:Int))then bif b.size+(c.extract (a:Int).toNat ((a:Int)+1).toNat).size<=4611686018427387904 then some (.next (d,b++c.extract (a:Int).toNat ((a:Int)+1).toNat))else none else none else bif b=⟨#[]⟩then some (.ret ([],false))else bif AT ((d.length+[b].length)*16) 140737488355328 then some (.next (d++[b],⟨#[]⟩))else none:Option (M7 ((List ByteArray)×Bool) ((List ByteArray)×ByteArray))).bind fun o=>match o with|.ret r=>some (.ret r)|.next (v16,v17)=>Y6 N c e (a+1) v16 v17
def qb(N:Nat)(a:ByteArray):Option ((List ByteArray)×Bool) :=
  (Y6 N a ((a.size:Int)-((0:Nat):Int)).toNat 0 [] ⟨#[]⟩).bind fun o=>match o with|.ret r=>some r|.next (v7,v8)=>some (v7,v8=⟨#[]⟩)
def iG(N:Nat)(a:bC):Option (ByteArray×bC) :=
  bif(a.l.length:Int)=0 then some (⟨#[]⟩,⟨a.l,false⟩)else(j3 a.l 0).bind fun b=>bif 0<=(1:Int)&&1<=(a.l.length:Int)then some (b,⟨a.l.drop (1:Int).toNat,a.fA⟩)else none
def C9(N:Nat)(d:bC):Option (Int×bC) :=
  (iG N d).bind fun a=>(strconv_Atoi N a.1).bind fun b=>(bif !b.2 then some true else(strconv_Itoa N b.1).bind fun e=>some (!e=a.1)).bind fun f=>(bif f then some ⟨a.2.l,false⟩else some a.2).bind fun c=>some (b.1,c)
def Q6(N:Nat)(b:bC)(c:Int):Option (Int×bC) :=
  (C9 N b).bind fun a=>(bif a.1<0 then some true else bif c<a.1 then some true else some (!a.2.fA)).bind fun d=>bif d then some (0,⟨a.2.l,false⟩)else some (a.1,a.2)
def Y4(N:Nat):Nat->Nat->bC->(List Ins)->Option ((bC×(List Ins)))
  |0,e,d,c=>some (d,c)
  |h+1,e,d,c=>(C9 N d).bind fun a=>(C9 N a.2).bind fun b=>(bif a.1=14 then(iG N b.2).bind fun f=>some (f.2,f.1)else some (b.2,IS)).bind fun(i,g)=>bif AT ((c.length+[(⟨a.1,b.1,0,0,g⟩:Ins)].length)*48) 140737488355328 then Y4 N h (e+1) i (c++[⟨a.1,b.1,0,0,g⟩])else none
def Y9(N:Nat):Nat->Nat->bC->(List Me)->Option ((bC×(List Me)))
  |0,g,f,a=>some (f,a)
  |j+1,g,f,a=>(iG N f).bind fun b=>(C9 N b.2).bind fun c=>(C9 N c.2).bind fun d=>(C9 N d.2).bind fun e=>(Q6 N e.2 60).bind fun h=>(Y4 N (h.1-((0:Nat):Int)).toNat 0 h.2 []).bind fun(k,i)=>bif AT ((a.length+[(⟨b.1,c.1,d.1,e.1,i⟩:Me)].length)*64) 140737488355328 then Y9 N j (g+1) k (a++[⟨b.1,c.1,d.1,e.1,i⟩])else none
def X8(N:Nat):Nat->Nat->bC->(List Cl)->Option ((bC×(List Cl)))
  |0,j,i,a=>some (i,a)
  |g+1,j,i,a=>(iG N i).bind fun b=>(C9 N b.2).bind fun c=>(C9 N c.2).bind fun d=>(Q6 N d.2 8).bind fun e=>(Y9 N (e.1-((0:Nat):Int)).toNat 0 e.2 []).bind fun(h,f)=>bif AT ((a.length+[(⟨b.1,c.1,d.1,f⟩:Cl)].length)*56) 140737488355328 then X8 N g (j+1) h (a++[⟨b.1,c.1,d.1,f⟩])else none
def Y2(N:Nat):Nat->Nat->bC->(List V)->Option ((bC×(List V)))
  |0,e,d,a=>some (d,a)
  |f+1,e,d,a=>(C9 N d).bind fun b=>(C9 N b.2).bind fun c=>bif AT ((a.length+[(⟨b.1,c.1⟩:V)].length)*16) 140737488355328 then Y2 N f (e+1) c.2 (a++[⟨b.1,c.1⟩])else none
def X9(N:Nat):Nat->Nat->bC->(List Ob)->Option ((bC×(List Ob)))
  |0,e,d,a=>some (d,a)
  |h+1,e,d,a=>(C9 N d).bind fun c=>(Q6 N c.2 6).bind fun f=>(Y2 N (f.1-((0:Nat):Int)).toNat 0 f.2 []).bind fun(g,b)=>bif AT ((a.length+[(⟨c.1,b⟩:Ob)].length)*32) 140737488355328 then X9 N h (e+1) g (a++[⟨c.1,b⟩])else none
def si(N:Nat)(k:(List Int)):Option (Wd×Int) :=
  (qb N (strOfNums k)).bind fun i=>bif !i.2 then some (⟨[],[],0⟩,2)else(C9 N ⟨i.1,true⟩).bind fun g=>(Q6 N g.2 12).bind fun j=>(X8 N (j.1-((0:Nat):Int)).toNat 0 j.2 []).bind fun(h,d)=>(Q6 N h 60).bind fun b=>(X9 N (b.1-((0:Nat):Int)).toNat 0 b.2 []).bind fun(e,f)=>(bif !e.fA then some true else some (decide (0<(e.l.length:Int)))).bind fun c=>bif c then some (⟨[],[],0⟩,2)else(k6 N ⟨d,f,g.1⟩).bind fun a=>bif !a=0 then some (⟨[],[],0⟩,a)else some (⟨d,f,g.1⟩,0)
def ns(N:Nat)(c:(List Ins)):List Ins->Nat->Option (M7 Bool Unit)
  |[],a=>some (.next ())
  |x10::rest7,a=>(j3 c (a:Int)).bind fun b=>bif !cE (bh x10) (bh b)then some (.ret false)else ns N c rest7 (a+1)
def vP(N:Nat)(a:(List Ins))(b:(List Ins)):Option Bool :=
  bif !(a.length:Int)=(b.length:Int)then some false else(ns N b a 0).bind fun o=>match o with|.ret r=>some r|.next ()=>some true
def nj(N:Nat)(c:Cl):List Me->Nat->Option (M7 Bool Unit)
  |[],b=>some (.next ())
  |x35::rest32,b=>(j3 c.aB (b:Int)).bind fun a=>(bif !x35.name=a.name then some true else bif !x35.args=a.args then some true else bif !x35.a8=a.a8 then some true else bif !x35.aS=a.aS then some true else(vP N x35.code a.code).bind fun d=>some (!d)).bind fun e=>bif e then some (.ret false)else nj N c rest32 (b+1)
def nh(N:Nat)(d:Wd):List Cl->Nat->Option (M7 Bool Unit)
  |[],b=>some (.next ())
  |x16::rest13,b=>(j3 d.a7 (b:Int)).bind fun a=>(bif !x16.name=a.name then some true else bif !x16.aQ=a.aQ then some true else bif !x16.aG=a.aG then some true else some (!(x16.aB.length:Int)=(a.aB.length:Int))).bind fun c=>bif c then some (.ret false)else(nj N a x16.aB 0).bind fun o=>match o with|.ret r=>some (.ret r)|.next ()=>nh N d rest13 (b+1)
def nq(N:Nat)(e:Wd)(b:Nat):List V->Nat->Option (M7 Bool Unit)
  |[],a=>some (.next ())
  |x74::rest71,a=>(j3 e.heap (b:Int)).bind fun c=>(j3 c.aG (a:Int)).bind fun d=>bif !cE (eV x74) (eV d)then some (.ret false)else nq N e b rest71 (a+1)
def ni(N:Nat)(b:Wd):List Ob->Nat->Option (M7 Bool Unit)
  |[],a=>some (.next ())
  |x55::rest52,a=>((j3 b.heap (a:Int)).bind fun d=>bif !x55.cls=d.cls then some true else(j3 b.heap (a:Int)).bind fun e=>some (!(x55.aG.length:Int)=(e.aG.length:Int)):Option Bool).bind fun c=>bif c then some (.ret false)else(nq N b a x55.aG 0).bind fun o=>match o with|.ret r=>some (.ret r)|.next ()=>ni N b rest52 (a+1)
def vK(N:Nat)(a:Wd)(b:Wd):Option Bool :=
  (bif !a.aC=b.aC then some true else bif !(a.a7.length:Int)=(b.a7.length:Int)then some true else some (!(a.heap.length:Int)=(b.heap.length:Int))).bind fun c=>bif c then some false else(nh N b a.a7 0).bind fun o=>match o with|.ret r=>some r|.next ()=>(ni N b a.heap 0).bind fun o=>match o with|.ret r=>some r|.next ()=>some true
def lv(N:Nat)(a:ByteArray):List Cl->Nat->Option (M7 (Wd×Int×Int) Unit)
  |[],b=>some (.next ())
  |x10::rest7,b=>bif x10.name=a then some (.ret (⟨[],[],0⟩,0,7))else lv N a rest7 (b+1)
def uv(N:Nat)(a:Wd)(d:ByteArray)(b:Int)(c:Int):Option (Wd×Int×Int) :=
  (mL N d).bind fun h=>bif !h then some (⟨[],[],0⟩,0,7)else(lv N d a.a7 0).bind fun o=>match o with|.ret r=>some r|.next ()=>(bif b<0 then some true else some (decide ((a.a7.length:Int)<=b))).bind fun f=>bif f then some (⟨[],[],0⟩,0,6)else(bif c<0 then some true else bif 6<c then some true else(jJ N a b).bind fun e=>bif 6<wr (c+e)then some true else bif 0<b then some (decide (b<4))else some false).bind fun g=>bif g then some (⟨[],[],0⟩,0,3)else bif 12<=(a.a7.length:Int)then some (⟨[],[],0⟩,0,5)else bif AT ((([]:List Cl).length+a.a7.length)*56) 140737488355328 then bif AT ((([]++a.a7).length+[(⟨d,b,c,[]⟩:Cl)].length)*56) 140737488355328 then some ({a with a7:=([]++a.a7)++[⟨d,b,c,[]⟩]},(a.a7.length:Int),0)else none else none
def R5(N:Nat)(c:Me):List Me->Nat->(List Me)->Bool->Bool->Option (((List Me)×Bool×Bool))
  |[],k,a,b,d=>some (a,b,d)
  |x23::rest20,k,a,b,d=>(bif x23.name=c.name then bif AT ((a.length+[c].length)*64) 140737488355328 then some (a++[c],true,true)else none else(bif !b then some (!(V8 x23.name c.name||x23.name=c.name))else some false).bind fun i=>(bif i then bif AT ((a.length+[c].length)*64) 140737488355328 then some (a++[c],true)else none else some (a,b)).bind fun(e,j)=>bif AT ((e.length+[x23].length)*64) 140737488355328 then some (e++[x23],j,d)else none).bind fun(f,g,h)=>R5 N c rest20 (k+1) f g h
def vU(N:Nat)(a:Wd)(c:Int)(d:Me):Option (Wd×Int) :=
  (bif c<0 then some true else some (decide ((a.a7.length:Int)<=c))).bind fun k=>bif k then some (⟨[],[],0⟩,6)else(j3 a.a7 c).bind fun l=>(R5 N d l.aB 0 [] false false).bind fun(b,e,f)=>(bif !e then bif AT ((b.length+[d].length)*64) 140737488355328 then some (b++[d])else none else some b).bind fun g=>(bif !f then(j3 a.a7 c).bind fun i=>some (decide (8<=(i.aB.length:Int)))else some false).bind fun h=>bif h then some (⟨[],[],0⟩,5)else bif AT ((([]:List Cl).length+a.a7.length)*56) 140737488355328 then(j3 ([]++a.a7) c).bind fun j=>some (⟨([]++a.a7).set c.toNat {j with aB:=g},a.heap,wr (a.aC+1)⟩,0)else none
def nr(N:Nat)(c:Wd):List V->Nat->Option (M7 Int Unit)
  |[],a=>some (.next ())
  |x20::rest17,a=>(qX N x20 (c.heap.length:Int)).bind fun b=>bif !b=0 then some (.ret b)else nr N c rest17 (a+1)
def vL(N:Nat)(c:Wd)(b:O8)(d:Int):Option Int :=
  (mL N b.name).bind fun e=>bif !e then some 7 else bif 4<(b.args.length:Int)then some 5 else(bif d<0 then some true else some (decide (400<d))).bind fun f=>bif f then some 3 else(qX N b.aP (c.heap.length:Int)).bind fun a=>bif !a=0 then some a else(nr N c b.args 0).bind fun o=>match o with|.ret r=>some r|.next ()=>some 0
def sa(N:Nat)(c:(List Ob))(a:V):Option Int :=
  (bif a.k=4 then bif 0<=a.n then some (decide (a.n<(c.length:Int)))else some false else some false).bind fun d=>bif d then(j3 c a.n).bind fun f=>some f.cls else(bif a.k<0 then some true else some (decide (3<a.k))).bind fun e=>bif e then some 0 else(j3 [1,2,2,3] a.k).bind fun b=>some b
def oL(N:Nat)(c:ByteArray)(b:Int):List Me->Nat->Option (M7 (Int×Int) Unit)
  |[],a=>some (.next ())
  |x22::rest19,a=>bif x22.name=c then some (.ret (b,(a:Int)))else oL N c b rest19 (a+1)
def oK(N:Nat)(d:Wd)(e:ByteArray)(f:(List Int)):List Int->Nat->Option (M7 (Int×Int) Unit)
  |[],b=>some (.next ())
  |x9::rest6,b=>(j3 f (b:Int)).bind fun a=>(j3 d.a7 a).bind fun c=>(oL N e a c.aB 0).bind fun o=>match o with|.ret r=>some (.ret r)|.next ()=>oK N d e f rest6 (b+1)
def nZ(N:Nat)(a:Wd)(c:Int)(d:ByteArray):Option (Int×Int) :=
  (tL N a c).bind fun b=>(oK N a d b b 0).bind fun o=>match o with|.ret r=>some r|.next ()=>some (-1,-1)
def qg(N:Nat)(a:Bool):Option V :=
  bif a then some ⟨2,0⟩else some ⟨1,0⟩
def vy(N:Nat)(c:Int)(a:V)(b:V):Option (V×Int) :=
  (bif !a.k=3 then some true else some (!b.k=3)).bind fun f=>bif f then some (⟨0,0⟩,12)else(bif c=1 then some (.next (wr (a.n+b.n)))else bif c=2 then some (.next (wr (a.n-b.n)))else bif c=3 then some (.next (wr (a.n*b.n)))else bif c=4 then(qg N (a.n<b.n)).bind fun d=>some (.ret (d,0))else bif c=5 then(qg N (a.n=b.n)).bind fun e=>some (.ret (e,0))else some (.ret (⟨0,0⟩,1)):Option (M7 (V×Int) Int)).bind fun o=>match o with|.ret r=>some r|.next v5=>bif 0<=v5 then bif(1073741825:Int)≠0&&H8 (v5.tdiv 1073741825)then some (⟨3,wr (v5-wr (v5.tdiv 1073741825*1073741825))⟩,0)else none else bif H8 (-v5)then bif(1073741825:Int)≠0&&H8 ((-v5).tdiv 1073741825)then some (⟨3,wr (v5+wr ((-v5).tdiv 1073741825*1073741825))⟩,0)else none else none
def lr(N:Nat)(b:Int):List V->Nat->Option (M7 V Unit)
  |[],a=>some (.next ())
  |x16::rest13,a=>bif(a:Int)=b then some (.ret x16)else lr N b rest13 (a+1)
def uq(N:Nat)(b:(List Ob))(a:V)(c:Int):Option V :=
  (bif a.k=4 then bif 0<=a.n then some (decide (a.n<(b.length:Int)))else some false else some false).bind fun d=>(bif d then(j3 b a.n).bind fun e=>(lr N c e.aG 0).bind fun o=>match o with|.ret r=>some (.ret r)|.next ()=>some (.next ())else some (.next ()):Option (M7 V Unit)).bind fun o=>match o with|.ret r=>some r|.next ()=>some ⟨0,0⟩
def kf(N:Nat)(a:(List V)):Option (V×(List V)) :=
  (j3 a (wr ((a.length:Int)-1))).bind fun b=>bif 0<=wr ((a.length:Int)-1)&&wr ((a.length:Int)-1)<=(a.length:Int)then some (b,a.take (wr ((a.length:Int)-1)).toNat)else none
def va(N:Nat)(a:TR)(c:V)(d:Int)(f:V):Option TR :=
  bif AT ((([]:List Ob).length+a.w.heap.length)*32) 140737488355328 then(bif c.k=4 then bif c.n<(([]++a.w.heap).length:Int)then(j3 ([]++a.w.heap) c.n).bind fun i=>some (decide (d<(i.aG.length:Int)))else some false else some false).bind fun g=>bif g then(j3 ([]++a.w.heap) c.n).bind fun b=>bif AT ((([]:List V).length+b.aG.length)*16) 140737488355328 then(j3 ([]++b.aG) d).bind fun h=>(j3 ([]++a.w.heap) c.n).bind fun e=>some {a with w:={a.w with heap:=([]++a.w.heap).set c.n.toNat ⟨e.cls,([]++b.aG).set d.toNat f⟩}}else none else some a else none
def vJ(N:Nat)(gR:(Nat->TR->Int->Me->V->(List V)->Option (V×TR)))(a:TR)(f:Int)(h:Int)(g:V)(e:(List V)):Option (V×TR) :=
  (j3 a.w.a7 f).bind fun i=>(j3 i.aB h).bind fun d=>bif !d.args=(e.length:Int)then some (⟨0,0⟩,{a with err:=8})else bif a.fuel<=a.sends then some (⟨0,0⟩,{a with err:=13})else bif !d.aS=0 then(j3 e 0).bind fun j=>(vy N d.aS g j).bind fun c=>some (c.1,{a with sends:=wr (a.sends+1),err:=c.2})else bif 20<=a.deep then some (⟨0,0⟩,{a with err:=14})else(gR N {a with sends:=wr (a.sends+1),deep:=wr (a.deep+1)} f d g e).bind fun b=>some (b.1,{b.2 with deep:=wr (b.2.deep-1)})
def I8(N:Nat)(gR:(Nat->TR->Int->Int->V->(List V)->Option (V×TR)))(O:Int)(B:Me)(C:V)(R:(List V)):Nat->(List Cl)->(List Ob)->Int->Int->Int->Int->Int->Int->(List St)->(List Int)->(List V)->(List V)->Int->Option (M7 (V×TR) ((List Cl)×(List Ob)×Int×Int×Int×Int×Int×Int×(List St)×(List Int)))
  |0,_,_,_,_,_,_,_,_,_,_,_,_,_=>none
  |P+1,m,l,n,p,q,s,t,h,d,e,g,b,f=>bif h=0 then(j3 B.code f).bind fun c=>(bif c.op=1 then bif AT ((b.length+[C].length)*16) 140737488355328 then some (.next (m,l,n,p,q,s,t,h,d,e,g,b++[C],wr (f+1)))else none else bif c.op=2 then(j3 R c.a).bind fun L=>bif AT ((b.length+[L].length)*16) 140737488355328 then some (.next (m,l,n,p,q,s,t,h,d,e,g,b++[L],wr (f+1)))else none else bif c.op=3 then(j3 g c.a).bind fun M=>bif AT ((b.length+[M].length)*16) 140737488355328 then some (.next (m,l,n,p,q,s,t,h,d,e,g,b++[M],wr (f+1)))else none else bif c.op=4 then(uq N l C c.a).bind fun E=>bif AT ((b.length+[E].length)*16) 140737488355328 then some (.next (m,l,n,p,q,s,t,h,d,e,g,b++[E],wr (f+1)))else none else bif c.op=5 then bif AT ((b.length+[(⟨3,c.a⟩:V)].length)*16) 140737488355328 then some (.next (m,l,n,p,q,s,t,h,d,e,g,b++[⟨3,c.a⟩],wr (f+1)))else none else bif c.op=6 then bif AT ((b.length+[(⟨0,0⟩:V)].length)*16) 140737488355328 then some (.next (m,l,n,p,q,s,t,h,d,e,g,b++[⟨0,0⟩],wr (f+1)))else none else bif c.op=7 then(qg N false).bind fun F=>bif AT ((b.length+[F].length)*16) 140737488355328 then some (.next (m,l,n,p,q,s,t,h,d,e,g,b++[F],wr (f+1)))else none else bif c.op=8 then(qg N true).bind fun G=>bif AT ((b.length+[G].length)*16) 140737488355328 then some (.next (m,l,n,p,q,s,t,h,d,e,g,b++[G],wr (f+1)))else none else bif c.op=9 then(kf N b).bind fun Q=>some (.next (m,l,n,p,q,s,t,h,d,e,g,Q.2,wr (f+1)))else bif c.op=10 then(kf N b).bind fun y=>bif AT ((y.2.length+[y.1,y.1].length)*16) 140737488355328 then some (.next (m,l,n,p,q,s,t,h,d,e,g,y.2++[y.1,y.1],wr (f+1)))else none else bif c.op=11 then(kf N b).bind fun H=>(j3 g c.a).bind fun S=>some (.next (m,l,n,p,q,s,t,h,d,e,g.set c.a.toNat H.1,H.2,wr (f+1)))else bif c.op=12 then(kf N b).bind fun I=>(va N ⟨⟨m,l,n⟩,p,q,s,t,h,d,e⟩ C c.a I.1).bind fun j=>some (.next (j.w.a7,j.w.heap,j.w.aC,j.fuel,j.sends,j.turns,j.deep,j.err,j.sites,j.of,g,I.2,wr (f+1)))else bif c.op=13 then bif 60<=(l.length:Int)then some (.next (m,l,n,p,q,s,t,15,d,e,g,b,wr (f+1)))else bif AT ((b.length+[(⟨4,(l.length:Int)⟩:V)].length)*16) 140737488355328 then bif AT ((([]:List Ob).length+l.length)*32) 140737488355328 then(jJ N ⟨m,l,n⟩ c.a).bind fun u=>bif 0<=u&&u<=140737488355328&&u*16<=140737488355328 then bif AT ((([]++l).length+[(⟨c.a,QH u.toNat ⟨0,0⟩⟩:Ob)].length)*32) 140737488355328 then some (.next (m,([]++l)++[⟨c.a,QH u.toNat ⟨0,0⟩⟩],n,p,q,s,t,h,d,e,g,b++[⟨4,(l.length:Int)⟩],wr (f+1)))else none else none else none else none else bif c.op=14 then bif 0<=wr ((b.length:Int)-c.a)&&wr ((b.length:Int)-c.a)<=(b.length:Int)then bif AT ((([]:List V).length+(b.drop (wr ((b.length:Int)-c.a)).toNat).length)*16) 140737488355328 then(j3 b (wr (wr ((b.length:Int)-c.a)-1))).bind fun A=>bif 0<=wr (wr ((b.length:Int)-c.a)-1)&&wr (wr ((b.length:Int)-c.a)-1)<=(b.length:Int)then(sa N l A).bind fun x=>bif AT ((d.length+[(⟨O,B.name,f⟩:St)].length)*32) 140737488355328 then bif AT ((e.length+[x].length)*8) 140737488355328 then(nZ N ⟨m,l,n⟩ x c.name).bind fun z=>bif z.2<0 then some (.next (m,l,n,p,q,s,t,10,d++[⟨O,B.name,f⟩],e++[x],g,b.take (wr (wr ((b.length:Int)-c.a)-1)).toNat,wr (f+1)))else(gR N ⟨⟨m,l,n⟩,p,q,s,t,h,d++[⟨O,B.name,f⟩],e++[x]⟩ z.1 z.2 A ([]++b.drop (wr ((b.length:Int)-c.a)).toNat)).bind fun i=>bif AT (((b.take (wr (wr ((b.length:Int)-c.a)-1)).toNat).length+[i.1].length)*16) 140737488355328 then some (.next (i.2.w.a7,i.2.w.heap,i.2.w.aC,i.2.fuel,i.2.sends,i.2.turns,i.2.deep,i.2.err,i.2.sites,i.2.of,g,b.take (wr (wr ((b.length:Int)-c.a)-1)).toNat++[i.1],wr (f+1)))else none else none else none else none else none else none else bif c.op=15 then some (.next (m,l,n,p,q,s,t,h,d,e,g,b,c.a))else bif c.op=16 then(kf N b).bind fun v=>bif v.1.k=1 then some (.next (m,l,n,p,q,s,t,h,d,e,g,v.2,c.a))else bif !v.1.k=2 then some (.next (m,l,n,p,q,s,t,11,d,e,g,v.2,wr (f+1)))else some (.next (m,l,n,p,q,s,t,h,d,e,g,v.2,wr (f+1)))else bif c.op=17 then(kf N b).bind fun D=>some (.ret (D.1,⟨⟨m,l,n⟩,p,q,s,t,h,d,e⟩))else some (.next (m,l,n,p,q,s,t,h,d,e,g,b,wr (f+1))):Option (M7 (V×TR) ((List Cl)×(List Ob)×Int×Int×Int×Int×Int×Int×(List St)×(List Int)×(List V)×(List V)×Int))).bind fun o=>match o with|.ret r=>some (.ret r)|.next (v46,v47,v48,v49,v50,v51,v52,v53,v54,v55,v56,v57,v58)=>(bif v58<=f then bif 300<wr (v51+1)then some (wr (v51+1),16)else some (wr (v51+1),v53)else some (v51,v53)).bind fun(J,K)=>I8 N gR O B C R P v46 v47 v48 v49 v50 J v52 K v54 v55 v56 v57 v58 else some (.next (m,l,n,p,q,s,t,h,d,e))
def vM(N:Nat)(gR:(Nat->TR->Int->Int->V->(List V)->Option (V×TR)))(a:TR)(c:Int)(b:Me)(d:V)(e:(List V)):Option (V×TR) :=
  bif 0<=b.a8&&b.a8<=140737488355328&&b.a8*16<=140737488355328 then(I8 N gR c b d e N a.w.a7 a.w.heap a.w.aC a.fuel a.sends a.turns a.deep a.err a.sites a.of (QH b.a8.toNat ⟨0,0⟩) [] 0).bind fun o=>match o with|.ret r=>some r|.next (v29,v30,v31,v32,v33,v34,v35,v36,v37,v38)=>some (⟨0,0⟩,⟨⟨v29,v30,v31⟩,v32,v33,v34,v35,v36,v37,v38⟩)else none
def O0(N:Nat):Nat->(TR->Int->Int->V->(List V)->Option (V×TR))
  |0=>fun _ _ _ _ _=>none
  |n+1=>vJ N fun _=>vM N fun _=>O0 N n
def yR(N:Nat):TR->Int->Int->V->(List V)->Option (V×TR):=
  O0 N N
def vD(N:Nat)(a:Wd)(c:O8)(d:Int):Option (Wd×dX×TR) :=
  (vL N a c d).bind fun f=>bif !f=0 then some (a,⟨⟨0,0⟩,f,0⟩,⟨a,d,0,0,0,0,[],[]⟩)else(sa N a.heap c.aP).bind fun g=>(nZ N a g c.name).bind fun e=>bif e.2<0 then some (a,⟨⟨0,0⟩,10,0⟩,⟨a,d,0,0,0,0,[],[]⟩)else(yR N ⟨a,d,0,0,0,0,[],[]⟩ e.1 e.2 c.aP c.args).bind fun b=>bif !b.2.err=0 then some (a,{b.2 with value:=⟨0,0⟩},b.2)else some (b.2.w,⟨b.1,0,b.2.sends⟩,b.2)
def Y0(N:Nat)(g:Int):List Ln->Nat->(List Ln)->Bool->Option (((List Ln)×Bool))
  |[],c,a,b=>some (a,b)
  |x35::rest32,c,a,b=>(bif x35.cls=g then some (!b)else some false).bind fun e=>(bif e then some (true,⟨x35.cls,wr (x35.found+1)⟩)else some (b,x35)).bind fun(f,d)=>bif AT ((a.length+[d].length)*16) 140737488355328 then Y0 N g rest32 (c+1) (a++[d]) f else none
def Y5(N:Nat)(j:St)(c:Int):List Tl->Nat->(List Tl)->Bool->Option (((List Tl)×Bool))
  |[],k,d,e=>some (d,e)
  |x13::rest10,k,d,e=>(bif cE (Z8 x13.site) (Z8 j)then some (!e)else some false).bind fun f=>(bif f then(Y0 N c x13.a7 0 [] false).bind fun(a,h)=>(bif !h then bif AT ((a.length+[(⟨c,1⟩:Ln)].length)*16) 140737488355328 then some (a++[⟨c,1⟩])else none else some a).bind fun i=>some (true,⟨x13.site,i⟩)else some (e,x13)).bind fun(g,b)=>bif AT ((d.length+[b].length)*56) 140737488355328 then Y5 N j c rest10 (k+1) (d++[b]) g else none
def vo(N:Nat)(e:(List Tl))(a:St)(b:Int):Option (List Tl) :=
  (Y5 N a b e 0 [] false).bind fun(d,f)=>(bif !f then bif AT ((d.length+[(⟨a,[⟨b,1⟩]⟩:Tl)].length)*56) 140737488355328 then some (d++[⟨a,[⟨b,1⟩]⟩])else none else some d).bind fun c=>some c
def oU(N:Nat)(c:Int)(d:Int)(e:Ce):List Ln->Nat->Option (M7 Int Unit)
  |[],a=>some (.next ())
  |x17::rest14,a=>(bif e.aC=c then some (decide (x17.cls=d))else some false).bind fun b=>bif b then some (.ret x17.found)else oU N c d e rest14 (a+1)
def oR(N:Nat)(a:St)(b:Int)(c:Int):List Ce->Nat->Option (M7 Int Unit)
  |[],d=>some (.next ())
  |x7::rest4,d=>bif cE (Z8 x7.site) (Z8 a)then(oU N b c x7 x7.lines 0).bind fun o=>match o with|.ret r=>some (.ret r)|.next ()=>some (.ret (-1))else oR N a b c rest4 (d+1)
def uy(N:Nat)(a:(List Ce))(b:St)(c:Int)(d:Int):Option Int :=
  (oR N b c d a 0).bind fun o=>match o with|.ret r=>some r|.next ()=>some (-1)
def ny(N:Nat)(b:St):List Me->Nat->Option (M7 Int Unit)
  |[],a=>some (.next ())
  |x9::rest6,a=>bif x9.name=b.name then some (.ret (a:Int))else ny N b rest6 (a+1)
def ve(N:Nat)(b:Wd)(a:St):Option Int :=
  (j3 b.a7 a.cls).bind fun c=>(ny N a c.aB 0).bind fun o=>match o with|.ret r=>some r|.next ()=>some 0
def lh(N:Nat)(c:Int):List Ln->Nat->Bool->Option (Bool)
  |[],d,b=>some b
  |x13::rest10,d,b=>(bif b then some true else some (decide (x13.cls=c))).bind fun a=>lh N c rest10 (d+1) a
def sd(N:Nat)(e:Ce)(f:Int)(j:St)(c:Int)(g:Int)(h:(List Ce))(k:Bool):Option ((List Ce)×Bool) :=
  (bif !e.aC=f then some ⟨j,f,false,[]⟩else some e).bind fun a=>(lh N c a.lines 0 a.many).bind fun i=>(bif !i then some (decide (3<=(a.lines.length:Int)))else some false).bind fun d=>(bif d then some ⟨a.site,a.aC,true,[]⟩else bif !i then bif AT ((([]:List Ln).length+a.lines.length)*16) 140737488355328 then bif AT ((([]++a.lines).length+[(⟨c,g⟩:Ln)].length)*16) 140737488355328 then some {a with lines:=([]++a.lines)++[⟨c,g⟩]}else none else none else some a).bind fun b=>bif AT ((h.length+[b].length)*72) 140737488355328 then some (h++[b],true)else none
def jF(N:Nat)(d:St)(h:Int)(i:Int)(j:Int):List Ce->Nat->(List Ce)->Bool->Option (((List Ce)×Bool))
  |[],k,b,c=>some (b,c)
  |x13::rest10,k,b,c=>((bif cE (Z8 x13.site) (Z8 d)then some (!c)else some false).bind fun g=>bif g then(sd N x13 h d i j b c).bind fun a=>some (a.1,a.2)else bif AT ((b.length+[x13].length)*72) 140737488355328 then some (b++[x13],c)else none:Option ((List Ce)×Bool)).bind fun(e,f)=>jF N d h i j rest10 (k+1) e f
def tF(N:Nat)(i:(List Ce))(a:St)(b:Int)(e:Int)(f:Int):Option (List Ce) :=
  (jF N a b e f i 0 [] false).bind fun(g,h)=>(bif !h then(sd N ⟨a,b,false,[]⟩ b a e f g h).bind fun c=>some c.1 else some g).bind fun d=>some d
def lf(N:Nat)(c:Wd)(t:(Wd×dX×TR)):List St->Nat->(List Ce)->(List Tl)->Int->Int->Option (((List Ce)×(List Tl)×Int×Int))
  |[],h,d,p,f,g=>some (d,p,f,g)
  |x21::rest18,h,d,p,f,g=>((j3 t.2.2.of (h:Int)).bind fun a=>(vo N p x21 a).bind fun b=>(uy N d x21 c.aC a).bind fun i=>bif 0<=i then some (d,b,wr (f+1),g)else(j3 c.a7 x21.cls).bind fun q=>(ve N c x21).bind fun j=>(j3 q.aB j).bind fun r=>(j3 r.code x21.pos).bind fun s=>(nZ N c a s.name).bind fun e=>bif 0<=e.2 then(tF N d x21 c.aC a e.1).bind fun k=>some (k,b,f,wr (g+1))else some (d,b,f,wr (g+1)):Option ((List Ce)×(List Tl)×Int×Int)).bind fun(l,m,n,o)=>lf N c t rest18 (h+1) l m n o
def vZ(N:Nat)(f:Wd)(g:O8)(h:Int)(i:(List Ce))(j:(List Tl)):Option D9 :=
  (vD N f g h).bind fun a=>(lf N f a a.2.2.sites 0 i j 0 0).bind fun(b,c,d,e)=>some ⟨a.1,a.2.1,b,c,d,e⟩
def wA(N:Nat)(a:H9)(b:eM):Option (H9×ch) :=
  bif b.kind=1 then(uv N a.world b.name b.aE b.aG).bind fun h=>bif !h.2.2=0 then some (a,⟨h.2.2,0,⟨0,0⟩⟩)else some ({a with world:=h.1},⟨0,h.2.1,⟨0,0⟩⟩)else bif b.kind=2 then(jI N a.world b.aE b.aJ).bind fun i=>bif !i.err=0 then some (a,⟨i.err,i.aH,⟨0,0⟩⟩)else(vU N a.world b.aE b.aJ).bind fun j=>(bif j.2=0 then some {a with world:=j.1}else some a).bind fun k=>some (k,⟨j.2,0,⟨0,0⟩⟩)else bif b.kind=3 then(bif b.aE<0 then some true else bif 0<b.aE then bif b.aE<4 then some true else some (decide ((a.world.a7.length:Int)<=b.aE))else some (decide ((a.world.a7.length:Int)<=b.aE))).bind fun l=>bif l then some (a,⟨6,0,⟨0,0⟩⟩)else bif 60<=(a.world.heap.length:Int)then some (a,⟨15,0,⟨0,0⟩⟩)else bif AT ((([]:List Ob).length+a.world.heap.length)*32) 140737488355328 then(jJ N a.world b.aE).bind fun c=>bif 0<=c&&c<=140737488355328&&c*16<=140737488355328 then bif AT ((([]++a.world.heap).length+[(⟨b.aE,QH c.toNat ⟨0,0⟩⟩:Ob)].length)*32) 140737488355328 then some ({a with world:={a.world with heap:=([]++a.world.heap)++[⟨b.aE,QH c.toNat ⟨0,0⟩⟩]}},⟨0,(a.world.heap.length:Int),⟨4,(a.world.heap.length:Int)⟩⟩)else none else none else none else(bif b.kind=4 then some (decide (b.kind=4))else bif b.kind=5 then some (decide (b.kind=5))else some (decide (b.kind=6))).bind fun m=>bif m then(vZ N a.world b.call 400 a.cells a.aU).bind fun d=>(bif b.kind=5 then some (d.cells,d.aU)else some (a.cells,a.aU)).bind fun(o,p)=>some (⟨d.world,o,p,a.saved⟩,{d.fL with n:=d.fL.sends})else bif b.kind=7 then(wE N a.world).bind fun f=>some ({a with saved:=eJ f},⟨0,((eJ f).length:Int),⟨0,0⟩⟩)else bif b.kind=8 then bif(a.saved.length:Int)=0 then some (a,⟨6,0,⟨0,0⟩⟩)else(si N a.saved).bind fun e=>bif !e.2=0 then some (a,⟨e.2,0,⟨0,0⟩⟩)else(bif e.1.aC<a.world.aC then some {e.1 with aC:=a.world.aC}else some e.1).bind fun g=>some ({a with world:={g with aC:=wr (g.aC+1)}},⟨0,0,⟨0,0⟩⟩)else some (a,⟨1,0,⟨0,0⟩⟩)
def oF(N:Nat):List eM->Nat->H9->(List ch)->Option ((H9×(List ch)))
  |[],d,c,b=>some (c,b)
  |x15::rest12,d,c,b=>(wA N c x15).bind fun a=>bif AT ((b.length+[a.2].length)*32) 140737488355328 then oF N rest12 (d+1) a.1 (b++[a.2])else none
def vu(N:Nat)(b:(List eM)):Option (H9×(List ch)) :=
  (lV N).bind fun c=>(oF N b 0 ⟨c,[],[],[]⟩ []).bind fun(d,a)=>some (d,a)
def nf(N:Nat)(c:(List Ln)):List Ln->Nat->Option (M7 Bool Unit)
  |[],a=>some (.next ())
  |x10::rest7,a=>(j3 c (a:Int)).bind fun b=>bif !cE (O6 x10) (O6 b)then some (.ret false)else nf N c rest7 (a+1)
def sC(N:Nat)(a:(List Ln))(b:(List Ln)):Option Bool :=
  bif !(a.length:Int)=(b.length:Int)then some false else(nf N b a 0).bind fun o=>match o with|.ret r=>some r|.next ()=>some true
def nk(N:Nat)(b:(List Ce)):List Ce->Nat->Option (M7 Bool Unit)
  |[],a=>some (.next ())
  |x10::rest7,a=>((j3 b (a:Int)).bind fun e=>bif !cE (Z8 x10.site) (Z8 e.site)then some true else(j3 b (a:Int)).bind fun f=>bif !x10.aC=f.aC then some true else(j3 b (a:Int)).bind fun g=>bif !x10.many=g.many then some true else(j3 b (a:Int)).bind fun h=>(sC N x10.lines h.lines).bind fun c=>some (!c):Option Bool).bind fun d=>bif d then some (.ret false)else nk N b rest7 (a+1)
def vI(N:Nat)(a:(List Ce))(b:(List Ce)):Option Bool :=
  bif !(a.length:Int)=(b.length:Int)then some false else(nk N b a 0).bind fun o=>match o with|.ret r=>some r|.next ()=>some true
def nc(N:Nat)(b:(List Tl)):List Tl->Nat->Option (M7 Bool Unit)
  |[],a=>some (.next ())
  |x10::rest7,a=>((j3 b (a:Int)).bind fun e=>bif !cE (Z8 x10.site) (Z8 e.site)then some true else(j3 b (a:Int)).bind fun f=>(sC N x10.a7 f.a7).bind fun c=>some (!c):Option Bool).bind fun d=>bif d then some (.ret false)else nc N b rest7 (a+1)
def uc(N:Nat)(a:(List Tl))(b:(List Tl)):Option Bool :=
  bif !(a.length:Int)=(b.length:Int)then some false else(nc N b a 0).bind fun o=>match o with|.ret r=>some r|.next ()=>some true
def qO(N:Nat)(a:H9)(b:H9):Option Bool :=
  ((vK N a.world b.world).bind fun c=>bif c then(vI N a.cells b.cells).bind fun d=>bif d then(uc N a.aU b.aU).bind fun e=>bif e then some (strOfNums a.saved=strOfNums b.saved)else some false else some false else some false:Option Bool).bind fun f=>some f
def X4(N:Nat)(d:(H9×(List ch)×Int))(e:(H9×(List ch))):List ch->Nat->Option (M7 Bool Unit)
  |[],a=>some (.next ())
  |x31::rest28,a=>(j3 d.2.1 (a:Int)).bind fun b=>(j3 e.2 (a:Int)).bind fun c=>bif !cE (gp b) (gp c)then some (.ret false)else X4 N d e rest28 (a+1)
def yG(N:Nat)(c:(List eM)):Option Bool :=
  (qd N c).bind fun a=>bif 60<(c.length:Int)then(bif a.2.2=5 then some (decide ((a.2.1.length:Int)=0))else some false).bind fun k=>some k else(vu N c).bind fun b=>(bif !a.2.2=0 then some true else bif !(a.2.1.length:Int)=(b.2.length:Int)then some true else(qO N a.1 b.1).bind fun d=>bif !d then some true else(sq N a.1).bind fun e=>(qO N e b.1).bind fun f=>some (!f)).bind fun j=>bif j then some false else(X4 N a b a.2.1 0).bind fun o=>match o with|.ret r=>some r|.next ()=>(vx N).bind fun g=>(lV N).bind fun h=>(qO N g ⟨h,[],[],[]⟩).bind fun i=>some i
def HT{N:Nat}{fr:List j4}{i:Nat}{r:V×List j4}(h:jG N fr i=some r){x d:j4}(b:fr[i]?=some x)(a:r.2[i]?=some d):d.aP=x.aP:=by
  unfold jG at h;obtain⟨y,c,h⟩:=M6 h;rw[b] at c;cases c;obtain⟨v,f,h⟩:=M6 h;obtain⟨e,h⟩:=jW h;obtain rfl:=Option.some.inj h;have hl:=(OR.1 b).1;simp only[List.getElem?_set_self hl,Option.some.injEq] at a;rw[<-a]
def newRow(a:AV):List (List AV):=[[.str ⟨#[79,98,106,101,99,116]⟩,.int (-1),.int 0,.aI],[.str ⟨#[78,105,108]⟩,.int 0,.int 0,.aI],[.str ⟨#[66,111,111,108]⟩,.int 0,.int 0,.aI],[.str ⟨#[73,110,116]⟩,.int 0,.int 0,a]]
def Ov : ∀k:Nat,k<5->∃x p,AA[k]?=some x/\([3,1,2,4,5]:List Int)[k]?=some p/\U3[k]?=some ⟨x,1,0,p,[]⟩
 |0,_=>⟨_,_,rfl,rfl,rfl⟩
 |1,_=>⟨_,_,rfl,rfl,rfl⟩
 |2,_=>⟨_,_,rfl,rfl,rfl⟩
 |3,_=>⟨_,_,rfl,rfl,rfl⟩
 |4,_=>⟨_,_,rfl,rfl,rfl⟩
 |k+5,h=>absurd h d9
set_option maxRecDepth 100000 in
def xy(N:Nat)(r:Wd)(h:lV N=some r):Spec prog 31 [] [] (.agg (M3 r)) [] []:=by
 obtain rfl:=Option.some.inj h;refine Spec.of fQ func31 rfl ntmps31 D6 rfl rfl rfl fun d u=>?_;refine Gx ?_
 (try refine Or.inr ?_)
 refine Exists.intro (newRow .aI) (AN (by repeat (first|exact trivial|exact rfl|(refine AN ?_ ?_))) ?_);refine Gx ?_;refine Exists.intro (QK lI AA) (AN (by repeat (first|exact trivial|exact rfl|(refine AN ?_ ?_))) ?_);refine F6 (fun hl=>?_);show j5 prog d _ _ _ _;refine j5.gh (Gh.eR (r:=8) (i:=3) (off:=3) (j:=104) (j':=105) (isz:=5) (ie:=27) rfl rfl rfl rfl rfl rfl rfl rfl) (fun _=>?_);refine j5.hO (ι:=Hd) (fun g=>[(0,.ptr 0 0),(1,.ptr 1 0)]) (fun g=>[(0,.box [.aI,.aI,.int 0] 40),(1,.box [.aN 8,.aI,.int 0] 40),(8,.row 4 (newRow (.aV g.v)) 81),(104,.row 5 (U3.map I4) 27),(105,.eqv 104 g.v)]) (fun z t G D=>?_) (by intro q;rw[u];rfl) ?_
 ·refine j5.tP fun y B o F C=>?_;refine j5.jl (ι:={ q:Nat×Hd // q.1<=5 }) (fun q=>[(0,.ptr 0 0),(1,.ptr 1 0),(10,.aN 10),(11,.int 5),(12,.int q.1.1)]) (fun q=>[(0,.box [.aI,.aI,.int 0] 40),(1,.box [.aN 8,.aI,.int 0] 40),(8,.row 4 (newRow (.aV q.1.2.v)) 81),(10,.row 1 (AA.map lI) 9),(104,.row 5 ((U3.take q.1.1).map I4) 27),(105,.eqv 104 q.1.2.v)]) (fun q=>5-q.1.1) ⟨(0,⟨none,0,0⟩),d9⟩ [] ⟨⟨rfl,rfl,rfl,rfl,rfl,trivial⟩,⟨rfl,rfl,rfl,rfl,rfl,rfl,trivial⟩,rfl,rfl⟩ (by intro q;rw[u];rfl) ?_;rintro⟨⟨k,hd⟩,l⟩ A nl w E;have l:k<=5:=l;refine Gx ?_;refine jP (fun b=>?_) (fun f=>?_)
  ·have b:k<5:=by have:(k:Int)<5:=b;omega
   obtain⟨x,p,n,m,s⟩:=Ov k b;refine Gx ?_;refine R7 (i:=(k:Int)) (by rw[q9];exact n) ?_;refine Q9 n ?_;show j5 prog d _ _ _ _;refine j5.snoc (uM u D6 ?_);refine AN G7 (AN (by show(3:Int)<4;decide) ?_);refine AN (by show 3<4;decide) (fun c a=>?_);have a:(newRow (.aV hd.v))[3]?=some c:=a;obtain rfl:c=[.str ⟨#[73,110,116]⟩,.int 0,.int 0,.aV hd.v]:=(Option.some.inj a).symm;refine AN rfl ?_;refine Exists.intro (QK bY [3,1,2,4,5]) (AN (by repeat (first|exact trivial|exact rfl|(refine AN ?_ ?_))) ?_);refine R7 (i:=(k:Int)) (by rw[q9];exact m) ?_;refine Q9 m ?_;refine Exists.intro (QK I4 [⟨x,1,0,p,[]⟩]) (AN (by repeat (first|exact trivial|exact rfl|(refine AN ?_ ?_))) ?_);refine AN ?_ (Exists.intro (QK I4 (U3.take k++[⟨x,1,0,p,[]⟩])) (AN (tb (O7 _)) ?_))
   ·show((QK I4 (U3.take k)).length+1)*64<=_;rw[QU,Qo];omega
   refine AN G7 (AN (by show(3:Int)<4;decide) ?_);refine AN (by show 3<4;decide) (AN ?_ ?_)
   ·intro c a;have a:(newRow (.aV hd.v))[3]?=some c:=a;obtain rfl:c=[.str ⟨#[73,110,116]⟩,.int 0,.int 0,.aV hd.v]:=(Option.some.inj a).symm;show 3<4;omega
   show V9 d _ _ _;refine V9.gh (Gh.bX 8 106 rfl rfl rfl (fun _=>rfl) rfl) (fun g=>?_);refine V9.done ?_;show j5 prog d _ _ _ _;refine Gx ?_;refine IN (AN ⟨d9,d9⟩ ?_);refine nl _ _ ?_;refine V9.done ?_;have e:U3.take k++[⟨x,1,0,p,[]⟩]=U3.take (k+1):=by rw[List.take_add_one,s];rfl
   refine⟨⟨(k+1,g),b⟩,[(104,31),(105,106)],by show 5-(k+1)<5-k;omega,⟨⟨rfl,rfl,rfl,rfl,rfl,trivial⟩,⟨rfl,rfl,rfl,rfl,?_,rfl,trivial⟩,rfl,rfl⟩⟩;exact congrArg (fun q=>some (Obj.row 5 (QK I4 q) 27)) e
  ·have e:k=5:=by have:¬((k:Int)<5):=f;omega
   subst e;refine Gx ?_;refine w _ _ _ ?_;refine o _ _ ?_;refine t _ _ ?_;refine V9.done ?_;exact⟨hd,[],trivial,⟨⟨rfl,rfl,trivial⟩,⟨rfl,rfl,rfl,rfl,rfl,trivial⟩,rfl,rfl⟩⟩
 intro g;show j5 prog d _ _ _ _;refine j5.lJ 8 3 3 104 105 rfl rfl rfl rfl rfl rfl rfl rfl ?_;refine j5.bw 8 (QK eA N9.a7) rfl (by repeat (first|exact trivial|exact rfl|(refine AN ?_ ?_))) ?_;refine j5.aY 8 rfl ?_;refine Gx ?_;exact⟨[],_,rfl,(by repeat (first|exact trivial|exact rfl|(refine AN ?_ ?_))),trivial,rfl,rfl,rfl,rfl,rfl⟩
section
open Go.RowKit Go.Lib Go.Proofs
def wY{P:Program}(k:Nat)(w:World)(n x y elem:TypeId)(b o c f:Nat)(a:Addr)(d h:Nat)(e:List Value)(u:P.underlying n=some (.slice elem))(p:(P.info? elem).map (·.size)=some k)(t:e.length=Nat.min d c*k)(g:∀j v,e[j]?=some v->w.cell? (a.add j)=some v)(r:∀j,j<e.length->(w.cell? ⟨b,o+j,none⟩).isSome=true)(s:∀j,j<e.length->w.frozen? ⟨b,o+j,none⟩=false)(q:∀v∈e,v.oneCell'=true):
  (Builtin.copy_ #[n,x] y #[.slice (some ⟨b,o,none⟩) c f,.slice (some a) d h]).run P w=.ok (goInt (Nat.min d c)) (w.setCells b o e):=by
 have hl:=run_loadCells_list (P:=P) w a e g;have m:=run_storeCells_cells (P:=P) b o e 0 w (by simpa using r) (by simpa using s) q;cases l:P.info? elem with
 |none=>simp[l] at p
 |some i =>
  have hi:i.size=k:=by simpa[l] using p
  simp[Builtin.copy_,run_underlying u,Builtin.lenOf,Builtin.firstCells,sizeOf,typeInfo,l,hi,<-t,hl,m]
set_option maxHeartbeats 4000000 in
set_option maxRecDepth 100000 in
def Lw(b off n c i l a G:Nat)(o vs:List Value)(w:World)(hi:i<n)(S:n+1<=c)(hc63:c<=9223372036854775807)(F:l≠b)(L:o.length=n*5)(t:vs.length=5)(M:∀j v,o[j]?=some v->w.cell? ⟨b,off+j,none⟩=some v)(s:∀j,j<(n+1)*5->(w.cell? ⟨b,off+j,none⟩).isSome=true)(C:∀j,j<(n+1)*5->w.frozen? ⟨b,off+j,none⟩=false)(V:∀j v,vs[j]?=some v->w.cell? ⟨l,a+j,none⟩=some v)(I:∀v∈o,v.oneCell'=true)(J:∀v∈vs,v.oneCell'=true)(tA tB:TypeId)(X Y:Nat)(T:w.shape? l=some (tA,X))(U:w.shape? b=some (tB,Y))(Q:Y≠0)(N:w.frozen? ⟨l,a,none⟩=false)(O:w.frozen? ⟨l,X,none⟩=false):
  Calls prog 124 #[.slice (some ⟨b,off,none⟩) n c,.int .i64 i,.slice (some ⟨l,a,none⟩) 1 G] w fun e w' =>
   e=.returned (.slice (some ⟨b,off,none⟩) (n+1) c)/\w'=(w.drew.setCells b (off+(i+1)*5) (o.drop (i*5))).setCells b (off+i*5) vs:=by
 have hz2:¬((i:Int)=(n:Int)):=d9;have E:(prog.info? 27).map (·.size)=some 5:=D6;have R:∀(Z H z:Nat),(callFunc 161 #[.slice (some ⟨l,a,none⟩) 1 G,.slice (some ⟨b,z,none⟩) Z H]).run prog w=.ok (.value (.bool false)) w:=fun Z H z=>by
  rw[run_callFunc_extern func161 D6 D6 D6 (e:=Extern.SlicesOverlaps.overlaps #[79,79] #[4]) D6,
   Lib.run_overlaps_apart w 79 4 27 underlying79 5 (fun w=>D6) ⟨l,a,none⟩ ⟨b,z,none⟩ 1 G Z H F tA tB X Y T U Q N O]
  rfl
 have m:(o.drop (i*5)).length=(n-i)*5:=by rw[List.length_drop,L,Nat.sub_mul]
 have hw1:IntKind.i64.wrap ((i:Int)+1)=(i:Int)+1:=by rw[IntKind.wrap_i64];omega
 have hw2:IntKind.i64.wrap ((n:Int)+1)=(n:Int)+1:=by rw[IntKind.wrap_i64];omega
 have hb1:(0:Int)<=(i:Int)+1:=d9;have hin:i<=n:=d9;have htn:((i:Int)+1).toNat=i+1:=d9;have hb2:¬(c=i+1):=d9;have hb3:(i:Int)<=(n:Int)+1:=d9;have hb4:¬(c=i):=d9;have q:Nat.min (n+1-i) (n+1-(i+1))=n-i:=by simp only[Nat.min_def];split<;>omega
 have r:Nat.min 1 (n+1-i)=1:=by simp only[Nat.min_def];split<;>omega
 have g:∀u p sc,(Builtin.copy_ #[79,79] u #[.slice (some ⟨b,off+(i+1)*5,none⟩) (n+1-(i+1)) p,.slice (some ⟨b,off+i*5,none⟩) (n+1-i) sc]).run prog w.drew=.ok (goInt ((n-i:Nat):Int)) (w.drew.setCells b (off+(i+1)*5) (o.drop (i*5))):=fun u p sc=>by
  have:=wY (P:=prog) 5 w.drew 79 79 u 27 b (off+(i+1)*5) (n+1-(i+1)) p ⟨b,off+i*5,none⟩ (n+1-i) sc (o.drop (i*5)) underlying79 E (by rw[m,q])
   (fun j v d=>by rw[Addr.add_lit,Qm];exact M (i*5+j) v (by rwa [Qk] at d))
   (fun j d=>by rw[Qm];exact s _ (by rw[m] at d;omega)) (fun j d=>by rw[Qm];exact C _ (by rw[m] at d;omega)) (fun v hv=>I v (List.mem_of_mem_drop hv))
  rw[q] at this;exact this
 obtain⟨y,f⟩:∃y,y=w.drew.setCells b (off+(i+1)*5) (o.drop (i*5)):=⟨_,rfl⟩;have D:∀k,k<(n+1)*5->(y.cell? ⟨b,off+k,none⟩).isSome=true:=fun k hk=>by
  rw[f];exact isSome_setCells b _ _ _ (fun j d=>by rw[Qm];exact s _ (by rw[m] at d;omega)) _ (s k hk)
 have B:∀(W:World),(∀x,W.cell? x=y.cell? x)->(∀x,W.frozen? x=y.frozen? x)->∀u p,(Builtin.copy_ #[79,79] u #[.slice (some ⟨b,off+i*5,none⟩) (n+1-i) p,.slice (some ⟨l,a,none⟩) 1 G]).run prog W=.ok (goInt 1) (W.setCells b (off+i*5) vs):=fun W A K u p=>by
  have:=wY (P:=prog) 5 W 79 79 u 27 b (off+i*5) (n+1-i) p ⟨l,a,none⟩ 1 G vs underlying79 E (by rw[t,r])
   (fun j v d=>by
    rw[Addr.add_lit,A,f,World.cell?_setCells_out b _ _ _ _ (fun h _=>absurd h F)];exact V j v d)
   (fun j d=>by rw[A,Qm];exact D _ (by rw[t] at d;omega)) (fun j d=>by rw[K,f,World.frozen?_setCells,Qm];exact C _ (by rw[t] at d;omega)) J
  rw[r] at this;exact this
 rw[<-f] at g;clear q r;have mixed:prog.follows .mixedOrders=true:=D6;rw[show n+1-(i+1)=n-i by omega] at g
 go_enter func124,ntmps124
 go_wp2_with (simp only[R])
 go_region_law_o (refine step_copy_runI rfl _ _ 79 79 rfl _ _ (by simp[Act.eval,Act.put]) (by simp[Act.eval,Act.put]) (g _ _ _) ?_)
 go_wp2_with (at_builtin;refine wpList_copy_runI _ rfl _ _ 79 79 rfl _ _ rfl rfl (B _ (fun _=>rfl) (fun _=>rfl) _ _) ?_)
 go_ret
 first|exact⟨rfl,rfl⟩|exact⟨rfl,by rw[f]⟩
set_option maxHeartbeats 4000000 in
set_option maxRecDepth 100000 in
def MV(b off n c i y l vc:Nat)(f vs:List Value)(w:World)(hi:i<n)(hnc:n<=c)(H:c<n+1)(N:(n+1)*64<=140737488355328)(hbw:b<w.heap.size)(hvw:y<w.heap.size)(hcl:f.length=n*5)(I:vs.length=5)(R:∀j v,f[j]?=some v->w.cell? ⟨b,off+j,none⟩=some v)(hvs:∀j v,vs[j]?=some v->w.cell? ⟨y,l+j,none⟩=some v)(h1c:∀v∈f,v.oneCell'=true)(h1v:∀v∈vs,v.oneCell'=true):
  Calls prog 124 #[.slice (some ⟨b,off,none⟩) n c,.int .i64 i,.slice (some ⟨y,l,none⟩) 1 vc] w fun e w'=>∃(G:Nat) (a:Array Value),n+1<=G/\G<=maxLen/\a.size=G*5/\(∀(j:Nat) (v:Value),(f.take (i*5))[j]?=some v->a[j]?=some v) /\
   e=.returned (.slice (some ⟨w.heap.size,0,none⟩) (n+1) G)/\w'=(((w.alloc (.cells a 27)).drew.setCells w.heap.size (i*5) vs).drew).setCells w.heap.size ((i+1)*5) (f.drop (i*5)):=by
 have hz2:¬((i:Int)=(n:Int)):=d9;have hz3:(c:Int)<(n:Int)+1:=d9;have U:(prog.info? 27).map (·.size)=some 5:=D6;obtain⟨J,hi0,hz0⟩:∃J,prog.info? 27=some J/\J.size=5/\J.bytes=64/\∃z,J.zero=some z/\z.cells.size=5:=by
  have h:(prog.info? 27).map (fun i=>(i.size,i.bytes,i.zero.map fun z=>z.cells.size))=some (5,64,some 5):=D6;cases hq:prog.info? 27 with
  |none=>rw[hq] at h;cases h
  |some x =>
   rw[hq] at h;simp only[QZ,Option.some.injEq,Prod.mk.injEq] at h;obtain⟨h1,h2,Z⟩:=h;cases hx:x.zero with
   |none=>rw[hx] at Z;cases Z
   |some z=>rw[hx] at Z;exact⟨x,rfl,h1,h2,z,hx,by simpa using Z⟩
 obtain⟨hzs,V,z,hzz,hzc⟩:=hz0;have T:(n:Int)+1-(i:Int)=((n+1-i:Nat):Int):=d9;have D:i+(n+1-i)=n+1:=d9;have u:(Builtin.firstCells J.size i (.slice (some ⟨b,off,none⟩) i c)).run prog w.drew=.ok (f.take (i*5)).toArray w.drew:=by
  rw[hzs];exact run_firstCells_some w.drew 5 i ⟨b,off,none⟩ i c (f.take (i*5)) (by rw[Qo];omega) (fun j v d=>by
   rw[Addr.add_lit];rw[Qs] at d;split at d
   ·exact R j v d
   ·cases d)
 have s:∀q,(Builtin.append_ #[79,3] q #[.slice (some ⟨b,off,none⟩) i c,.int .i64 ((n:Int)+1-(i:Int))]).run prog w =
   .ok (.slice (some ⟨w.heap.size,0,none⟩) (n+1) (grownCap w (n+1) c 27)) (w.drew.alloc (.cells ((f.take (i*5)).toArray++Builtin.zeroCells z.cells (n+1-i)++Builtin.zeroCells z.cells (grownCap w (n+1) c 27-(n+1))) 27)):=fun q=>by
  have h:=Lib.run_append_grow_zeros w 79 3 q 27 J _ .i64 .i64 underlying79 underlying3 hi0 hzz (some ⟨b,off,none⟩) i c (f.take (i*5)) u (n+1-i) d9 d9 d9 d9 (by rw[V];omega) (by rw[V,D];exact growslice_fits H N);rw[D] at h;rw[T];exact h
 have B:n+1<=grownCap w (n+1) c 27:=grownCap_ge w _ _ _;have o:grownCap w (n+1) c 27<=maxLen:=grownCap_le_maxLen w (n+1) c 27 (by unfold maxLen;omega);have X:∀k,(Builtin.zeroCells z.cells k).size=k*5:=fun k=>by simp[Builtin.zeroCells,hzc]
 obtain⟨G,hG⟩:∃G,G=grownCap w (n+1) c 27:=⟨_,rfl⟩;rw[<-hG] at s B o;obtain⟨a,g⟩:∃a:Array Value,a=(f.take (i*5)).toArray++Builtin.zeroCells z.cells (n+1-i)++Builtin.zeroCells z.cells (G-(n+1)):=⟨_,rfl⟩;rw[<-g] at s;have htl:(f.take (i*5)).length=i*5:=by rw[Qo];omega
 have M:a.size=G*5:=by
  rw[g,Array.size_append,Array.size_append,X,X,Qu,htl];omega
 have L:∀(j:Nat) (v:Value),(f.take (i*5))[j]?=some v->a[j]?=some v:=fun j v d=>by
  have hjl:=(OR.1 d).1;rw[g,Array.getElem?_append_left (by rw[Array.size_append,Qu];omega),Array.getElem?_append_left (by rw[Qu];exact hjl),List.getElem?_toArray];exact d
 obtain⟨r,m⟩:∃r,r=w.drew.alloc (.cells a 27):=⟨_,rfl⟩;rw[<-m] at s;have hN:∀j,j<G*5->(r.cell? ⟨w.heap.size,j,none⟩).isSome=true:=fun j d=>by
  rw[m,World.cell?_alloc_at (w:=w.drew) a _ w.heap.size j rfl,Array.getElem?_eq_getElem d9];rfl
 have K:∀j,r.frozen? ⟨w.heap.size,j,none⟩=false:=fun j=>by rw[m];exact World.frozen?_alloc_at (w:=w.drew) a _ w.heap.size j rfl
 have hOb:∀j v,w.cell? ⟨b,j,none⟩=some v->r.cell? ⟨b,j,none⟩=some v:=fun j v h=>by rw[m,World.cell?_alloc_past (w:=w.drew) _ b j hbw];exact h
 have hOv:∀j v,w.cell? ⟨y,j,none⟩=some v->r.cell? ⟨y,j,none⟩=some v:=fun j v h=>by rw[m,World.cell?_alloc_past (w:=w.drew) _ y j hvw];exact h
 have F:Nat.min 1 (n+1-i)=1:=by simp only[Nat.min_def];split<;>omega
 have E:Nat.min (n-i) (n-i)=n-i:=by simp only[Nat.min_def];split<;>omega
 have O:∀(W:World),(∀x,W.cell? x=r.cell? x)->(∀x,W.frozen? x=r.frozen? x)->∀q A,(Builtin.copy_ #[79,79] q #[.slice (some ⟨w.heap.size,i*5,none⟩) (n+1-i) A,.slice (some ⟨y,l,none⟩) 1 vc]).run prog W=.ok (goInt 1) (W.setCells w.heap.size (i*5) vs):=fun W p C q A=>by
  have:=wY (P:=prog) 5 W 79 79 q 27 w.heap.size (i*5) (n+1-i) A ⟨y,l,none⟩ 1 vc vs underlying79 U (by rw[I,F])
   (fun j v d=>by rw[Addr.add_lit,p];exact hOv _ v (hvs j v d))
   (fun j d=>by rw[p];exact hN _ (by rw[I] at d;omega)) (fun j d=>by rw[C];exact K _) h1v
  rw[F] at this;exact this
 have hGi:¬(G=i):=d9;have hGim:¬(G=i+1):=d9;have hci:¬(c=i):=d9;have hbN:b≠w.heap.size:=d9;have S:(f.drop (i*5)).length=(n-i)*5:=by rw[List.length_drop,hcl,Nat.sub_mul]
 have Q:∀(W:World),(∀x,W.cell? x=(r.setCells w.heap.size (i*5) vs).cell? x)->(∀x,W.frozen? x=(r.setCells w.heap.size (i*5) vs).frozen? x)->∀q A sc,(Builtin.copy_ #[79,79] q #[.slice (some ⟨w.heap.size,(i+1)*5,none⟩) (n-i) A,.slice (some ⟨b,off+i*5,none⟩) (n-i) sc]).run prog W=.ok (goInt ((n-i:Nat):Int)) (W.setCells w.heap.size ((i+1)*5) (f.drop (i*5))):=fun W p C q A sc=>by
  have:=wY (P:=prog) 5 W 79 79 q 27 w.heap.size ((i+1)*5) (n-i) A ⟨b,off+i*5,none⟩ (n-i) sc (f.drop (i*5)) underlying79 U (by rw[S,E])
   (fun j v d=>by
    rw[Addr.add_lit,p,World.cell?_setCells_out _ _ _ _ _ (fun h _=>absurd h hbN),Qm];exact hOb _ v (R (i*5+j) v (by rwa [Qk] at d)))
   (fun j d=>by rw[p];exact isSome_setCells _ _ _ _ (fun t ht=>hN _ (by rw[I] at ht;omega)) _ (hN _ (by rw[S] at d;omega)))
   (fun j d=>by rw[C,World.frozen?_setCells];exact K _) (fun v hv=>h1c v (List.mem_of_mem_drop hv))
  rw[E] at this;exact this
 subst m;have hE1:∀x,((w.alloc (.cells a 27)).drew).cell? x=(w.drew.alloc (.cells a 27)).cell? x:=fun x=>rfl;have hE2:∀x,((w.alloc (.cells a 27)).drew).frozen? x=(w.drew.alloc (.cells a 27)).frozen? x:=fun x=>rfl;have hw1:IntKind.i64.wrap ((i:Int)+1)=(i:Int)+1:=by rw[IntKind.wrap_i64];omega
 have hw2:IntKind.i64.wrap ((n:Int)+1)=(n:Int)+1:=by rw[IntKind.wrap_i64];omega
 have hb1:(0:Int)<=(i:Int)+1:=d9;have hin:i<=n:=d9;have htn:((i:Int)+1).toNat=i+1:=d9;have hb3:(i:Int)<=(n:Int):=d9;have mixed:prog.follows .mixedOrders=true:=D6;have hfin:∃(Y:Nat) (R':Array Value),n+1<=Y/\Y<=maxLen/\R'.size=Y*5/\(∀(j:Nat) (v:Value),(f.take (i*5))[j]?=some v->R'[j]?=some v)/\Y=G/\R'=a:=⟨G,a,B,o,M,L,rfl,rfl⟩;clear T D u g hG E F
 go_enter func124,ntmps124
 go_wp2_with (first
  |(at_builtin;refine Lib.wpList_append_run _ rfl _ _ _ _ rfl _ _ rfl rfl _ _ (s _) ?_)
  |(at_builtin;refine wpList_copy_runI _ rfl _ _ 79 79 rfl _ _ rfl rfl (O _ hE1 hE2 _ _) ?_))
 go_region_law_o (refine step_copy_runI rfl _ _ 79 79 rfl (.slice (some ⟨w.heap.size,(i+1)*5,none⟩) (n-i) (G-(i+1))) (.slice (some ⟨b,off+i*5,none⟩) (n-i) (c-i)) (by simp[Act.eval,Act.put]) (by simp[Act.eval,Act.put]) (Q (((w.alloc (.cells a 27)).drew.setCells w.heap.size (i*5) vs).drew) (fun _=>rfl) (fun _=>rfl) _ _ _) ?_)
 go_wp2
 go_ret
 exact⟨G,a,B,o,M,L,rfl,rfl⟩
set_option maxRecDepth 100000 in
def OM(l:List Me)(x:Me)(e:AT ((l.length+[x].length)*64) 140737488355328=true):Spec prog 124 [(1000,.row 5 (l.map I4) 27),(1032,.row 5 ([x].map I4) 27)] [.aN 1000,.int l.length,.aN 1032] (.aN 0) [(0,.row 5 ((l++[x]).map I4) 27),(1000,.aK),(1032,.aK)] [0]:=by
 refine Spec.of fQ func124 rfl ntmps124 D6 rfl rfl rfl fun j a=>?_;refine eB a ?_;refine eB a ?_;refine d66 (b:=(l.length:Int)) l9 rfl rfl ?_;refine eB a ?_;refine F6 (fun _=>?_);refine j5.qI fun _ c h g=>?_;refine eB a ?_;refine xa a ?_;refine pq a ?_;refine c _ _ ?_;refine eB a ?_;refine F6 (fun _=>?_);refine j5.qI fun _ f i d=>?_;refine eB a ?_;refine xa a ?_;refine B5 (b:=decide ((l.length:Int)=(l.length:Int))) l9 ?_;refine eB a ?_;refine Gu (l2:=[x]) e (O7 _) ?_;refine j5.aY 1032 rfl ?_;refine xd a ?_;refine d _ _ ?_;exact⟨[(0,25)],_,fm⟩
def se(g:Nat){e:TypeId}{fz:Nat×Nat}:∀(vs:List Value) (o:Nat) (w:World) (d:Array Value),w.heap[g]?=some (.cells d e fz)->∃c,(w.setCells g o vs).heap[g]?=some (.cells c e fz)/\c.size=d.size
 |[],_,w,d,h=>⟨d,h,rfl⟩
 |v::vs,o,w,d,h=>by
  have f:(w.setCell ⟨g,o,none⟩ v).heap[g]?=some (.cells (d.setIfInBounds o v) e fz):=by
   simp[World.setCell,Array.getElem?_modify,h]
  obtain⟨c,a,b⟩:=se g vs (o+1) _ _ f;exact⟨c,a,by rw[b];simp⟩
def sR(g:Nat):∀(vs:List Value) (o:Nat) (w:World),(w.setCells g o vs).os=w.os/\(w.setCells g o vs).tape=w.tape/\(w.setCells g o vs).output=w.output/\(w.setCells g o vs).heap.size=w.heap.size/\∀k,k≠g->(w.setCells g o vs).heap[k]?=w.heap[k]?
 |[],_,w=>⟨rfl,rfl,rfl,rfl,fun _ _=>rfl⟩
 |v::vs,o,w=>by
  obtain⟨a,b,c,d,e⟩:=sR g vs (o+1) (w.setCell ⟨g,o,none⟩ v);refine⟨a,b,c,by rw[World.setCells,d];simp[World.setCell],fun k f=>?_⟩;rw[World.setCells,e k f];simp[World.setCell,Array.getElem?_modify,Ne.symm f]
def aR.N2{c c':Ctx}{w w':World}{i:Nat}{o:Obj}{upd:Os}{news:List Nat}(h:aR c w c' w' [(i,o)] upd news)(j:Nat)(r:Obj)(A:lk upd j=none)(u:j≠i):
  aR c w c' w' [(i,o),(j,r)] (upd++[(j,.aK)]) news:=by
 have T:∀b,Touch c [(i,o)] upd b->Touch c [(i,o),(j,r)] (upd++[(j,.aK)]) b:=by
  rintro b ⟨id,x,l,q,t⟩;have:id=i/\x=o:=by
   rw[p8] at l;split at l
   ·rename_i e;cases l;exact⟨e.symm,rfl⟩
   ·cases l
  obtain⟨rfl,rfl⟩:=this;refine⟨id,x,j6 _ _ _,?_,t⟩;rw[K5];cases m:lk upd id with
  |none=>rw[m] at q;cases q
  |some y=>rfl
 have a:∀id x,lk (upd++[(j,Obj.aK)]) id=some x->lk upd id=some x\/x=.aK:=fun id x hl=>by
  rw[K5] at hl;cases m:lk upd id with
  |none =>
   rw[m] at hl;right;have hl:lk [(j,Obj.aK)] id=some x:=by simpa using hl
   rw[p8] at hl;split at hl
   ·cases hl;rfl
   ·cases hl
  |some y=>rw[m] at hl;left;simpa using hl
 refine⟨h.dB,h.tape,h.output,h.size,h.aq,fun b n=>(h.al b n).imp (fun h=>h) (Or.imp (fun h=>h) (T b)),fun b n v=>h.ad b n fun z=>v (T b z),h.ctx,⟨fun id x hl=>?_,fun id x b hl d=>?_,fun id k x s b p hl f d g=>?_,h.aO.aq⟩,fun id x b hl d=>?_⟩
 ·rcases a id x hl with hl|rfl
  ·exact h.aO.rep id x hl
  ·trivial
 ·rcases a id x hl with hl|rfl
  ·exact h.aO.lt id x b hl d
  ·exact d.elim
 ·rcases a id x hl with hl|rfl
  ·rcases a k s f with f|rfl
   ·exact h.aO.sep id k x s b p hl f d g
   ·exact g.elim
  ·exact d.elim
 ·rcases a id x hl with hl|rfl
  ·exact(h.ay id x b hl d).imp (fun h=>h) (T b)
  ·exact d.elim
def FN{w':World}{g p cap n k:Nat}{e:TypeId}{c:Array Value}{f vs:List Value}(s:w'.heap[g]?=some (.cells c e))(u:k<n)(r:f.length=n*5)(h:vs.length=5)(i:n+1<=cap)(v:c.size=(p+cap)*5)(l:∀j,j<k*5->w'.cell? ⟨g,p*5+j,none⟩=f[j]?)(m:∀j,j<5->w'.cell? ⟨g,p*5+(k*5+j),none⟩=vs[j]?)(o:∀j,k*5<=j->j<n*5->w'.cell? ⟨g,p*5+(5+j),none⟩=f[j]?):
  (c.toList.drop (p*5)).take ((n+1)*5)=f.take (k*5)++vs++f.drop (k*5):=by
 have q:∀j,w'.cell? ⟨g,j,none⟩=c[j]?:=fun j=>by unfold World.cell?;rw[s];rfl
 have d:(f.take (k*5)).length=k*5:=by rw[Qo];omega
 apply Ql;intro j;by_cases t:j<(n+1)*5
 ·rw[List.getElem?_take_of_lt t,Qk,Array.getElem?_toList,<-q];by_cases a:j<k*5
  ·rw[l j a,QR,Qn d9,List.getElem?_take_of_lt a]
  ·by_cases b:j<k*5+5
   ·have:=m (j-k*5) d9;rw[show k*5+(j-k*5)=j by omega] at this;rw[this,QR,QY d9,Qn d9,d]
   ·have:=o (j-5) d9 d9;rw[show 5+(j-5)=j by omega] at this;rw[this,QY (by rw[Of];omega),Qk,Of,d,h];congr 1;omega
 ·rw[Qb (by rw[Qo];omega),Qb (by rw[Of,Of,d,List.length_drop];omega)]
def d96(k:Nat):∀(css:List (List Value)) (us:List Value),(∀x∈css,x.length=5)->(css.take k++us::css.drop k).flatten=css.flatten.take (k*5)++us++css.flatten.drop (k*5):=by
 induction k with
 |zero=>intro css us _;simp
 |succ k ih =>
  intro css us h;cases css with
  |nil=>simp
  |cons x css =>
   have d:=h x l9;have:=ih css us fun y c=>h y (by simp[c]);have e:(k+1)*5=x.length+k*5:=d9;have a:x.take (x.length+k*5)=x:=List.take_of_length_le d9;have b:x.drop (x.length+k*5)=[]:=List.drop_eq_nil_of_le d9;rw[List.take_succ_cons,List.drop_succ_cons,List.cons_append,List.flatten_cons,this,List.flatten_cons,e,List.take_append,List.drop_append,a,b];simp
def GS{d:Type}(l:List d)(k:Nat)(x:d)(e:k<=l.length)(i:Nat):(l.take k++x::l.drop k)[i]?=if i<k then l[i]? else if i=k then some x else l[i-1]?:=by
 have c:(l.take k).length=k:=by rw[Qo];omega
 by_cases a:i<k
 ·rw[RA a,Qn d9,List.getElem?_take_of_lt a]
 ·rw[R1 a,QY d9,c];by_cases b:i=k
  ·rw[RA b,b,Nat.sub_self];rfl
  ·rw[R1 b,show i-k=(i-k-1)+1 by omega,Qw,Qk];congr 1;omega
set_option maxHeartbeats 4000000 in
set_option maxRecDepth 100000 in
def Nz(l:List Me)(k:Nat)(x:Me)(hk:k<l.length)(hb:(l.length+1)*64<=140737488355328):
  Spec prog 124 [(1000,.row 5 (l.map I4) 27),(1032,.row 5 ([x].map I4) 27)] [.aN 1000,.int k,.aN 1032] (.aN 0) [(0,.row 5 ((l.take k++x::l.drop k).map I4) 27),(1000,.aK),(1032,.aK)] [0]:=by
 refine⟨D6,fun id hid=>by rw[Qf] at hid;subst hid;rfl,fun c w args aO R=>?_⟩;obtain⟨args⟩:=args;have R:D5 c w args [.aN 1000,.int k,.aN 1032]:=R;obtain⟨v1,as1,rfl,r1,R⟩:∃v r,args=v::r/\Rd c w v (.aN 1000)/\D5 c w r [.int k,.aN 1032]:=by cases R with|cons a b=>exact⟨_,_,rfl,a,b⟩
 obtain⟨v2,as2,rfl,r2,R⟩:∃v r,as1=v::r/\Rd c w v (.int k)/\D5 c w r [.aN 1032]:=by cases R with|cons a b=>exact⟨_,_,rfl,a,b⟩
 obtain⟨v3,as3,rfl,r3,R⟩:∃v r,as2=v::r/\Rd c w v (.aN 1032)/\D5 c w r []:=by cases R with|cons a b=>exact⟨_,_,rfl,a,b⟩
 obtain rfl:as3=[]:=by cases R;rfl
 obtain⟨rfl,_⟩:=r2.ai;obtain⟨A1,n1,cap1,rfl,h1,_,hc1⟩:=r1.bJ;obtain⟨A3,n3,cap3,rfl,h3,_,hc3⟩:=r3.bJ;have k0:lk [(1000,Obj.row 5 (l.map I4) 27),(1032,.row 5 ([x].map I4) 27)] 1000=some (.row 5 (l.map I4) 27):=rfl;have k2:lk [(1000,Obj.row 5 (l.map I4) 27),(1032,.row 5 ([x].map I4) 27)] 1032=some (.row 5 ([x].map I4) 27):=rfl;obtain⟨css,M,L1,q1⟩:=aO.rep 1000 _ k0;obtain⟨S,R3,L3,q3⟩:=aO.rep 1032 _ k2;rw[QU] at L1 L3;rw[h1] at M;rw[h3] at R3;obtain⟨us,rfl⟩:∃us,S=[us]:=by
  match S,L3 with
  |[us],_=>exact⟨us,rfl⟩
 have K:us.length=5:=R3.len us l9;have hu1:∀u∈us,u.oneCell'=true:=R3.one us l9;have J:=fj 5 css M.len;have T:∀v∈css.flatten,v.oneCell'=true:=fun v hv=>by
  obtain⟨y,q,hv⟩:=List.mem_flatten.1 hv;exact M.one y q v hv
 rcases M.bZ with⟨e,h0⟩|⟨b,off,p,cap,E,e,hh,hle,hpm,hsz,hoff,htk⟩
 ·omega
 rcases R3.bZ with⟨e3,h0⟩|⟨L,voff,p3,D,m,e3,Q,hle3,hpm3,hsz3,hoff3,V⟩
 ·cases h0
 obtain⟨rfl,rfl,rfl⟩:A1=some ⟨b,off,none⟩/\n1=css.length/\cap=cap1:=by cases e;exact⟨rfl,rfl,rfl⟩
 obtain⟨rfl,rfl,rfl⟩:A3=some ⟨L,voff,none⟩/\n3=[us].length/\D=cap3:=by cases e3;exact⟨rfl,rfl,rfl⟩
 simp only[QI,Qh] at hle3 V;obtain rfl:=hoff d9;obtain rfl:=hoff3 d9;have hbw:b<w.heap.size:=(Array.getElem?_eq_some_iff.1 hh).1;have hvw:L<w.heap.size:=(Array.getElem?_eq_some_iff.1 Q).1;have hvb:L≠b:=by
  rintro rfl;exact aO.sep 1000 1032 _ _ L G7 k0 k2 (by show(c.hd 1000).ownBlock=some L;rw[h1];rfl) (by show(c.hd 1032).ownBlock=some L;rw[h3];rfl)
 have s:∀j,w.cell? ⟨b,j,none⟩=E[j]?:=fun j=>by unfold World.cell?;rw[hh];rfl
 have P:∀j,w.cell? ⟨L,j,none⟩=m[j]?:=fun j=>by unfold World.cell?;rw[Q];rfl
 have Y:∀j v,css.flatten[j]?=some v->w.cell? ⟨b,p*5+j,none⟩=some v:=fun j v g=>by
  have hjl:=(OR.1 g).1;have C:((E.toList.drop (p*5)).take (css.length*5))[j]?=(E.toList.drop (p*5))[j]?:=List.getElem?_take_of_lt d9;rw[s,<-Array.getElem?_toList,<-Qk,<-C,htk];exact g
 have hvs:∀j v,us[j]?=some v->w.cell? ⟨L,p3*5+j,none⟩=some v:=fun j v g=>by
  have hjl:=(OR.1 g).1;have C:((m.toList.drop (p3*5)).take (1*5))[j]?=(m.toList.drop (p3*5))[j]?:=List.getElem?_take_of_lt d9;have e:(m.toList.drop (p3*5)).take (1*5)=us:=by simpa using V
  rw[P,<-Array.getElem?_toList,<-Qk,<-C,e];exact g
 have hcsN:∀j,j<css.length*5->w.cell? ⟨b,p*5+j,none⟩=css.flatten[j]?:=fun j g=>by
  rw[No d9];exact Y j _ (No d9)
 have hfz:∀j,w.frozen? ⟨b,j,none⟩=false:=fun j=>by unfold World.frozen?;rw[hh];simp
 have U:∀j,w.frozen? ⟨L,j,none⟩=false:=fun j=>by unfold World.frozen?;rw[Q];simp
 have fin:∀(w':World) (X:Value),w.grownBy w' (some b)->(X.ownBlock=some b\/∀d,X.ownBlock=some d->w.heap.size<=d)->L8 w' X 5 27 (css.take k++us::css.drop k)->(∃A n cap,X=.slice A n cap/\n<=cap/\cap<=maxLen) ->
   ∃v c',Ending.returned X=.returned v/\aR c w c' w' [(1000,.row 5 (l.map I4) 27),(1032,.row 5 ([x].map I4) 27)] [(0,.row 5 ((l.take k++x::l.drop k).map I4) 27),(1000,.aK),(1032,.aK)] [0]/\Rd c' w' v (.aN 0):=by
  intro w' X hg aa hR ⟨A',n',cp',hv',g1,g2⟩;have hok1:R4 c w [(1000,.row 5 (l.map I4) 27)]:=aO.sub fun id o hl=>by
   rw[p8] at hl;split at hl
   ·rename_i e;subst e;exact hl
   ·cases hl
  have hgb:∀d,(c.hd 1000).ownBlock=some d↔∃id o,lk [(1000,Obj.row 5 (l.map I4) 27)] id=some o/\aW c id o d:=fun d =>
   ⟨fun h=>⟨1000,_,j6 _ _ _,h⟩,fun⟨id,o,hl,hf⟩=>by
    rw[p8] at hl;split at hl
    ·rename_i e;subst e;cases hl;exact hf
    ·cases hl⟩
  have hob:(c.hd 1000).ownBlock=some b:=by rw[h1];rfl
  have hP:=aR.append (d:=0) hok1 hgb rfl (by rw[hob];exact hg) (by rw[hob];exact aa) (ls:=(l.take k++x::l.drop k).map I4) hR F5 (fun i us' cs' W O=>by
   rw[Qi] at O;rw[GS css k us d9 i] at W;rw[GS l k x d9 i] at O;by_cases a:i<k
   ·rw[RA a] at W O;exact q1 i us' cs' W (by rw[Qi];exact O)
   ·rw[R1 a] at W O;by_cases a2:i=k
    ·rw[RA a2] at W O;cases W;cases O;exact q3 0 us (I4 x) rfl rfl
    ·rw[R1 a2] at W O;exact q1 (i-1) us' cs' W (by rw[Qi];exact O))
  refine⟨X,c.aL 0 X,rfl,hP.N2 1032 _ rfl G7,?_⟩;subst hv';exact .aN (n:=n') (cap:=cp') (A:=A') (by simp[Ctx.aL]) g1 g2
 have F:∀y∈css.take k++us::css.drop k,y.length=5:=fun y q=>by
  rcases QS.1 q with q|q
  ·exact M.len y (List.mem_of_mem_take q)
  ·rcases QG.1 q with rfl|q
   ·exact K
   ·exact M.len y (List.mem_of_mem_drop q)
 have H:∀y∈css.take k++us::css.drop k,∀u∈y,u.oneCell'=true:=fun y q=>by
  rcases QS.1 q with q|q
  ·exact M.one y (List.mem_of_mem_take q)
  ·rcases QG.1 q with rfl|q
   ·exact hu1
   ·exact M.one y (List.mem_of_mem_drop q)
 have N:(css.take k++us::css.drop k).length=css.length+1:=F5;have I:(css.flatten.drop (k*5)).length=(css.length-k)*5:=by rw[List.length_drop,J,Nat.sub_mul]
 by_cases z:css.length+1<=cap
 ·refine(Lw b (p*5) css.length cap k L (p3*5) D css.flatten us w d9 z (by unfold maxLen at hpm;omega) hvb J K Y (fun j g=>by
    rw[s,Array.getElem?_eq_getElem d9];rfl) (fun j _=>hfz _) hvs T hu1 27 27 m.size E.size (by unfold World.shape?;rw[Q]) (by unfold World.shape?;rw[hh]) d9 (U _) (U _)).mono ?_
  rintro e w' ⟨rfl,rfl⟩;obtain⟨c1,b1,s1⟩:=se b (css.flatten.drop (k*5)) (p*5+(k+1)*5) w.drew E hh;obtain⟨c2,b2,s2⟩:=se b us (p*5+k*5) _ c1 b1;obtain⟨f1,f2,f3,f4,f5⟩:=sR b (css.flatten.drop (k*5)) (p*5+(k+1)*5) w.drew;obtain⟨g1,g2,g3,g4,g5⟩:=sR b us (p*5+k*5) (w.drew.setCells b (p*5+(k+1)*5) (css.flatten.drop (k*5)));refine fin _ _ ⟨g1.trans f1,g2.trans f2,g3.trans f3,by rw[g4,f4];exact NO _,fun d _ hd=>by
   have hd:d≠b:=fun e=>hd (by rw[e]);exact(g5 d hd).trans (f5 d hd)⟩ (.inl rfl) ⟨.inr ⟨b,p*5,p,cap,c2,by rw[N],b2,d9,hpm,by rw[s2,s1,hsz],fun _=>rfl,?_⟩,F,H⟩ ⟨_,_,_,rfl,z,by unfold maxLen at hpm⊢;omega⟩
  rw[N,d96 k css us M.len];have B:∀j,j<(css.length+1)*5->((w.drew).cell? ⟨b,p*5+j,none⟩).isSome=true:=fun j g=>by
   show(w.cell? ⟨b,p*5+j,none⟩).isSome=true;rw[s,Array.getElem?_eq_getElem d9];rfl
  have hs2:∀j,j<(css.length+1)*5->((w.drew.setCells b (p*5+(k+1)*5) (css.flatten.drop (k*5))).cell? ⟨b,p*5+j,none⟩).isSome=true:=fun j g=>isSome_setCells b _ _ _ (fun t C=>by rw[Qm];exact B _ (by rw[I] at C;omega)) _ (B j g);refine FN b2 d9 J K z (by rw[s2,s1,hsz]) (fun j g=>?_) (fun j g=>?_) (fun j g hj2=>?_)
  ·rw[World.cell?_setCells_out b _ _ _ _ (fun _ _=>by left;show p*5+j<p*5+k*5;omega),World.cell?_setCells_out b _ _ _ _ (fun _ _=>by left;show p*5+j<p*5+(k+1)*5;omega)];exact hcsN j d9
  ·have:=World.cell?_setCells_in b us (p*5+k*5) (w.drew.setCells b (p*5+(k+1)*5) (css.flatten.drop (k*5))) (fun t C=>by rw[Qm];exact hs2 _ d9) j d9;rw[<-Qm,this,No d9]
  ·rw[World.cell?_setCells_out b _ _ _ _ (fun _ _=>by right;show p*5+k*5+us.length<=p*5+(5+j);omega)];have:=World.cell?_setCells_in b (css.flatten.drop (k*5)) (p*5+(k+1)*5) w.drew (fun t C=>by rw[Qm];exact B _ (by rw[I] at C;omega)) (j-k*5) (by rw[I];omega);rw[show p*5+(k+1)*5+(j-k*5)=p*5+(5+j) by omega] at this;rw[this,List.getElem_drop,No d9];congr 2;omega
 ·refine(MV b (p*5) css.length cap k L (p3*5) D css.flatten us w d9 hle d9 (by rw[L1];exact hb) hbw hvw J K Y hvs T hu1).mono ?_;rintro e w' ⟨G,f,z1,z2,z3,z4,rfl,rfl⟩;have hN0:(w.alloc (.cells f 27)).drew.heap[w.heap.size]?=some (.cells f 27):=by show(w.heap.push _)[w.heap.size]?=_;rw[Array.getElem?_push,RA rfl]
  obtain⟨c1,b1,s1⟩:=se w.heap.size us (k*5) (w.alloc (.cells f 27)).drew f hN0;obtain⟨c2,b2,s2⟩:=se w.heap.size (css.flatten.drop (k*5)) ((k+1)*5) (((w.alloc (.cells f 27)).drew.setCells w.heap.size (k*5) us).drew) c1 b1;obtain⟨f1,f2,f3,f4,f5⟩:=sR w.heap.size us (k*5) (w.alloc (.cells f 27)).drew;obtain⟨g1,g2,g3,g4,g5⟩:=sR w.heap.size (css.flatten.drop (k*5)) ((k+1)*5) (((w.alloc (.cells f 27)).drew.setCells w.heap.size (k*5) us).drew);refine fin _ _ ⟨g1.trans f1,g2.trans f2,g3.trans f3,by rw[g4];show _<=((w.alloc (.cells f 27)).drew.setCells w.heap.size (k*5) us).heap.size;rw[f4];show w.heap.size<=(w.heap.push _).size;rw[Array.size_push];omega,fun d hd _=>by
   have hne:d≠w.heap.size:=d9;refine(g5 d hne).trans ((f5 d hne).trans ?_);show(w.heap.push _)[d]?=w.heap[d]?;rw[Array.getElem?_push,R1 hne]⟩ (.inr fun d hd=>by cases hd;exact NO _) ⟨.inr ⟨w.heap.size,0,0,G,c2,by rw[N],b2,d9,d9,by rw[s2,s1,z3,Qg],fun _=>rfl,?_⟩,F,H⟩ ⟨_,_,_,rfl,z1,z2⟩
  rw[N,d96 k css us M.len];have B:∀j,j<G*5->((w.alloc (.cells f 27)).drew.cell? ⟨w.heap.size,j,none⟩)=f[j]?:=fun j g=>by unfold World.cell?;rw[hN0];rfl
  have Z:∀j,j<G*5->((w.alloc (.cells f 27)).drew.cell? ⟨w.heap.size,j,none⟩).isSome=true:=fun j g=>by rw[B j g,Array.getElem?_eq_getElem d9];rfl
  have hi2:∀j,j<G*5->((((w.alloc (.cells f 27)).drew.setCells w.heap.size (k*5) us).drew).cell? ⟨w.heap.size,j,none⟩).isSome=true:=fun j g=>isSome_setCells _ us (k*5) _ (fun t C=>Z _ d9) _ (Z j g);refine FN (p:=0) (cap:=G) b2 d9 J K z1 (by rw[s2,s1,z3,Qg]) (fun j g=>?_) (fun j g=>?_) (fun j g hj2=>?_)
  ·rw[World.cell?_setCells_out _ _ _ _ _ (fun _ _=>by left;show 0*5+j<(k+1)*5;omega)];show((w.alloc (.cells f 27)).drew.setCells w.heap.size (k*5) us).cell? ⟨w.heap.size,0*5+j,none⟩=_;rw[World.cell?_setCells_out _ _ _ _ _ (fun _ _=>by left;show 0*5+j<k*5;omega),Nat.zero_mul,Qg,B j d9];have hj3:(css.flatten.take (k*5))[j]?=some css.flatten[j]:=by rw[List.getElem?_take_of_lt g,No d9]
   rw[z4 j _ hj3,No d9]
  ·rw[World.cell?_setCells_out _ _ _ _ _ (fun _ _=>by left;show 0*5+(k*5+j)<(k+1)*5;omega)];show((w.alloc (.cells f 27)).drew.setCells w.heap.size (k*5) us).cell? ⟨w.heap.size,0*5+(k*5+j),none⟩=_;have:=World.cell?_setCells_in w.heap.size us (k*5) (w.alloc (.cells f 27)).drew (fun t C=>Z _ d9) j d9;rw[Nat.zero_mul,Qg,this,No d9]
  ·have:=World.cell?_setCells_in w.heap.size (css.flatten.drop (k*5)) ((k+1)*5) (((w.alloc (.cells f 27)).drew.setCells w.heap.size (k*5) us).drew) (fun t C=>hi2 _ (by rw[I] at C;omega)) (j-k*5) (by rw[I];omega);rw[show(k+1)*5+(j-k*5)=0*5+(5+j) by omega] at this;rw[this,List.getElem_drop,No d9];congr 2;omega
set_option maxRecDepth 100000 in
def I3(N:Nat)(l:List Me)(k:Int)(v:List Me)(r:List Me)(h:sB N l k v=some r):Spec prog 124 [(1000,.row 5 (l.map I4) 27),(1032,.row 5 (v.map I4) 27)] [.aN 1000,.int k,.aN 1032] (.aN 0) [(0,.row 5 (r.map I4) 27),(1000,.aK),(1032,.aK)] [0]:=by
 unfold sB at h
 match v,h with
 |[x],h =>
  obtain⟨b,h⟩:=jW h;obtain rfl:=Option.some.inj h;simp only[It,RF] at b;obtain⟨⟨c,d⟩,a⟩:=b;obtain⟨k,rfl⟩:∃m:Nat,k=m:=⟨k.toNat,d9⟩;rw[Qc];by_cases e:k=l.length
  ·subst e;rw[List.take_length,List.drop_length];exact OM l x a
  ·exact Nz l k x d9 (QW a)
end
section
open Go.RowKit Go.Lib Go.Proofs Go.Shelf Go.Sort
def Ky : Go.Shelf.Ren:=⟨fun|6=>70|15=>104|14=>103|28=>143|29=>144|20=>135|21=>136|22=>137|23=>138|24=>139|25=>140|26=>141|27=>142|46=>179|47=>180|48=>181|49=>182|50=>183|57=>211|n=>n,fun|22=>79|24=>27|25=>134|3=>3|39=>179|0=>0|53=>225|55=>227|4=>4|46=>219|45=>218|50=>181|5=>5|9=>9|66=>266|70=>270|76=>302|77=>135|n=>n,fun|n=>n⟩
def OQ : Go.Proofs.SlLaysF0.n6 prog Ky:={
 mixed:=D6,
 f6:=⟨f70.name,G7,func70.trans (congrArg some D6)⟩,
 f14:=⟨f103.name,G7,func103.trans (congrArg some D6)⟩,
 f15:=func104.trans (congrArg some D6),
 f20:=⟨f135.name,G7,func135.trans (congrArg some D6)⟩,
 f21:=⟨f136.name,G7,func136.trans (congrArg some D6)⟩,
 f22:=⟨f137.name,G7,func137.trans (congrArg some D6)⟩,
 f23:=⟨f138.name,G7,func138.trans (congrArg some D6)⟩,
 f24:=⟨f139.name,G7,func139.trans (congrArg some D6)⟩,
 f25:=⟨f140.name,G7,func140.trans (congrArg some D6)⟩,
 f26:=⟨f141.name,G7,func141.trans (congrArg some D6)⟩,
 f27:=⟨f142.name,G7,func142.trans (congrArg some D6)⟩,
 f28:=func143.trans (congrArg some D6),
 f29:=func144.trans (congrArg some D6),
 f46:=⟨f179.name,G7,func179.trans (congrArg some D6)⟩,
 f47:=func180.trans (congrArg some D6),
 f48:=func181.trans (congrArg some D6),
 f49:=⟨f182.name,G7,func182.trans (congrArg some D6)⟩,
 f50:=⟨f183.name,G7,func183.trans (congrArg some D6)⟩,
 f57:=⟨f211.name,G7,func211.trans (congrArg some D6)⟩,
 t0:=underlying0,
 a0:=isAgg0,
 z0:=sizeOf0,
 v0:=zeroValue0,
 t3:=underlying3,
 a3:=isAgg3,
 z3:=sizeOf3,
 v3:=zeroValue3,
 t4:=underlying4,
 a4:=isAgg4,
 z4:=sizeOf4,
 v4:=zeroValue4,
 t5:=underlying5,
 a5:=isAgg5,
 z5:=sizeOf5,
 v5:=zeroValue5,
 t9:=underlying9,
 a9:=isAgg9,
 z9:=sizeOf9,
 v9:=zeroValue9,
 t22:=underlying79,
 a22:=isAgg79,
 z22:=sizeOf79,
 v22:=zeroValue79,
 t25:=underlying134,
 a25:=isAgg134,
 z25:=sizeOf134,
 v25:=zeroValue134,
 t39:=underlying179,
 a39:=isAgg179,
 z39:=sizeOf179,
 v39:=zeroValue179,
 t45:=underlying218,
 a45:=isAgg218,
 z45:=sizeOf218,
 v45:=zeroValue218,
 t46:=underlying219,
 a46:=isAgg219,
 z46:=sizeOf219,
 v46:=zeroValue219,
 t50:=underlying181,
 a50:=isAgg181,
 z50:=sizeOf181,
 v50:=zeroValue181,
 t53:=underlying225,
 a53:=isAgg225,
 z53:=sizeOf225,
 v53:=zeroValue225,
 t55:=underlying227,
 a55:=isAgg227,
 z55:=sizeOf227,
 v55:=zeroValue227,
 t66:=underlying266,
 a66:=isAgg266,
 z66:=sizeOf266,
 v66:=zeroValue266,
 t70:=underlying270,
 a70:=isAgg270,
 z70:=sizeOf270,
 v70:=zeroValue270,
 t76:=underlying302,
 a76:=isAgg302,
 z76:=sizeOf302,
 v76:=zeroValue302,
 t77:=underlying135,
 a77:=isAgg135,
 z77:=sizeOf135,
 v77:=zeroValue135 }
def NL(s:ByteArray)(W:World):Calls prog 145 #[.string s] W fun e w'=>e=.returned (.bool false)/\w'=W:=by
 go_enter func145,ntmps145
 go_wp2
 go_ret
 exact⟨rfl,rfl⟩
def P3(a b:ByteArray)(W:World):Calls prog 105 #[.string a,.string b] W fun e w'=>e=.returned (.int .i64 (if Op.bytesLess a.toList b.toList=true then -1 else if(!(Op.bytesLess a.toList b.toList || a.toList == b.toList))=true then 1 else 0))/\w'=W:=by
 have u:=NL;have c:∀w,(binOp .gtr 9 (.string a) (.string b)).run prog w=.ok (.bool !(Op.bytesLess a.toList b.toList || a.toList == b.toList)) w:=fun w=>by
  simp[binOp,run_underlying underlying9,Op.stringOp]
 generalize d:(!(Op.bytesLess a.toList b.toList || a.toList == b.toList))=z at c⊢
 go_enter func105,ntmps105
 go_wp2_with (go_at_call 145;refine(u _ _).mono ?_;rintro e w' ⟨rfl,rfl⟩)
 all_goals (try (go_ret;exact⟨rfl,rfl⟩))
 all_goals go_wp2_with (simp only[c])
 all_goals (try (go_ret;first|exact⟨rfl,rfl⟩|(refine⟨?_,rfl⟩;simp_all)))
 all_goals go_wp2
 all_goals (go_ret;first|exact⟨rfl,rfl⟩|(refine⟨?_,rfl⟩;simp_all))
def pb(a b:ByteArray):Int:=if Op.bytesLess a.toList b.toList=true then -1 else if(!(Op.bytesLess a.toList b.toList || a.toList == b.toList))=true then 1 else 0
def OO(s t:ByteArray)(b c d f:Value)(W:World):Calls prog 72 #[.agg #[.string s,b,c,d,f],.string t] W fun e w'=>e=.returned (.int .i64 (pb s t))/\∃q a,w'=grow (W.drewN q) a:=by
 have u:=P3 s t;change ∀W,Calls prog 105 _ W fun e w'=>e=.returned (.int .i64 (pb s t))/\w'=W at u;generalize pb s t=r at u⊢
 go_enter func72,ntmps72
 go_wp2_with (go_at_call 105;refine(u _).mono ?_;rintro e w' ⟨rfl,rfl⟩)
 go_ret
 exact⟨rfl,0,_,by rw[alloc_eq_grow];rfl⟩
def PG(s t:ByteArray)(b c d f i j k l:Value)(W:World):Calls prog 71 #[.agg #[.string s,b,c,d,f],.agg #[.string t,i,j,k,l]] W fun e w'=>e=.returned (.int .i64 (pb s t))/\∃q a,w'=grow (W.drewN q) a:=by
 have u:=fun W=>OO s t b c d f W;generalize pb s t=r at u⊢
 go_enter func71,ntmps71
 go_wp2_with (go_at_call 72;refine(u _).mono ?_;rintro e w' ⟨rfl,q,a,rfl⟩)
 go_ret
 exact⟨rfl,q,_,by rw[alloc_eq_grow,alloc_eq_grow,grow_grow];exact grow_grow (W.drewN q) _ a⟩
set_option maxHeartbeats 1000000 in
def PH(n:Nat)(W:World)(h:n<=12):Calls prog 144 #[.int .u64 n] W fun e w'=>(∃l:Int,e=.returned (.int .i64 l))/\w'=W:=by
 have a:∃m:Nat,m<=12/\n=m:=⟨n,h,rfl⟩
 match n,h with
 |0,_|1,_|2,_|3,_|4,_|5,_|6,_|7,_|8,_|9,_|10,_|11,_|12,_ =>
  go_enter func144,ntmps144
  go_wp2
  go_ret
  exact⟨⟨_,rfl⟩,rfl⟩
def bitsLen(n:Nat)(W:World)(h:n<=12):Calls prog 104 #[.int .u64 n] W fun e w'=>(∃l:Int,e=.returned (.int .i64 l))/\w'=W:=by
 have u:=fun W=>PH n W h
 go_enter func104,ntmps104
 go_wp2_with (go_at_call 144;refine(u _).mono ?_;rintro e w' ⟨⟨l,rfl⟩,rfl⟩)
 go_ret
 exact⟨⟨_,rfl⟩,rfl⟩
def Oh(b:ByteArray):b.toList=b.data.toList:=by
 have:∀(n i:Nat) (r:List UInt8),n=b.size-i->ByteArray.toList.loop b i r=r.reverse++b.data.toList.drop i:=by
  intro n
  induction n with
  |zero =>
   intro i r h;unfold ByteArray.toList.loop;rw[R1 d9];have:b.data.toList.length<=i:=by simpa using(show b.size<=i by omega)
   rw[List.drop_eq_nil_of_le this];simp
  |succ n ih =>
   intro i r h;have hi:i<b.size:=d9;have a:i<b.data.toList.length:=by simpa using hi
   unfold ByteArray.toList.loop;rw[RA hi,ih (i+1) _ d9,List.drop_eq_getElem_cons a];have e:b.get! i=b.data.toList[i]:=by
    show b.data[i]! = _;rw[getElem!_pos b.data i hi,Array.getElem_toList]
   simp[e]
 have:=this b.size 0 [] d9;simpa[ByteArray.toList] using this
def kM : List Me:=[⟨⟨#[43]⟩,1,0,1,[]⟩,⟨⟨#[45]⟩,1,0,2,[]⟩,⟨⟨#[42]⟩,1,0,3,[]⟩,⟨⟨#[60]⟩,1,0,4,[]⟩,⟨⟨#[61]⟩,1,0,5,[]⟩]
def rk : _root_.Fin 5->Nat|0=>1|1=>2|2=>0|3=>3|4=>4
def xB(i j:_root_.Fin 5):Int:=if rk i<rk j then -1 else if rk j<rk i then 1 else 0
def qB(i:_root_.Fin 5):ByteArray:=match i with|0=>⟨#[43]⟩|1=>⟨#[45]⟩|2=>⟨#[42]⟩|3=>⟨#[60]⟩|4=>⟨#[61]⟩
def Pe : Sort.insertionSort (ltOf xB) #[0,1,2,3,4] 0 5=#[2,0,1,3,4]:=by decide +kernel
def PU : ∀i j:_root_.Fin 5,pb (qB i) (qB j)=xB i j:=by
 have h:∀i:_root_.Fin 5,(qB i).toList=(qB i).data.toList:=fun i=>Oh _;unfold pb;simp only[h];decide +kernel
def aR.iV{c:Ctx}{w w':World}{id sz e:Nat}{ls d:List (List AV)}{css':List (List Value)}{b:Nat}(h:R4 c w [(id,.row sz ls e)])(f:(c.hd id).ownBlock=some b)(A:L8 w' (c.hd id) sz e css')(hl:css'.length=d.length)(C:∀(i:Nat) (us:List Value) (p:List AV),css'[i]?=some us->d[i]?=some p->J2 c.Φ w us p)(s:∀k,k<w.heap.size->k≠b->w'.heap[k]?=w.heap[k]?)(D:w.heap.size<=w'.heap.size)(v:w'.os=w.os)(y:w'.tape=w.tape)(z:w'.output=w.output):aR c w c w' [(id,.row sz ls e)] [(id,.row sz d e)] []:=by
 have n:=h.lt id _ b (j6 _ _ _) f;have t:∀x,x=b->Touch c [(id,.row sz ls e)] [(id,.row sz d e)] x:=fun x j=>⟨id,_,j6 _ _ _,by rw[j6];rfl,by rw[j];exact f⟩;have r:∀x,c.Φ x->w'.heap[x]?=w.heap[x]?:=fun x j=>s x (h.aq x j) fun e=>n.2 (e▸j);refine⟨v,y,z,D,fun b f=>f,fun b f=>.inl f,fun x j u=>s x j fun e=>u (t x e),fun _ _=>⟨rfl,rfl⟩,⟨fun i o hl=>?_,fun i o x hl q=>?_,fun i F o G x l hl m q=>?_,fun x j=>by have:=h.aq x j;omega⟩,fun i o x hl q=>?_⟩<;>rw[p8] at hl<;>split at hl<;>first|(rename_i e1;subst e1;cases hl)|cases hl
 ·exact⟨css',A,by assumption,fun i us p E B=>(C i us p E B).mono r fun _ h=>h⟩
 ·have:x=b:=by have a:(c.hd id).ownBlock=some x:=q;rw[f] at a;injection a with e;exact e.symm
  rw[this];exact⟨d9,n.2⟩
 ·rw[F7 _ _ l] at m;cases m
 ·have:x=b:=by have a:(c.hd id).ownBlock=some x:=q;rw[f] at a;injection a with e;exact e.symm
  exact .inr (t x this)
def th{Φ:Nat->Prop}{w:World}{us:List Value}{m:Me}(h:J2 Φ w us (I4 m)):∃a b c d,us=[.string m.name,a,b,c,d]:=by
 cases h with
 |cons e t1 =>
  cases t1 with
  |cons _ t2=>cases t2 with
   |cons _ t3=>cases t3 with
    |cons _ f=>cases f with
     |cons _ i =>
      cases i;cases e;exact⟨_,_,_,_,rfl⟩
def cz(css:List (List Value))(i:_root_.Fin 5):List Value:=css.getD i.val []
def Gs{p:_root_.Fin 5->Prop}(a:p 0)(b:p 1)(c:p 2)(d:p 3)(e:p 4):∀i,p i
 |⟨0,_⟩=>a
 |⟨1,_⟩=>b
 |⟨2,_⟩=>c
 |⟨3,_⟩=>d
 |⟨4,_⟩=>e
def d23(css:List (List Value))(a:∀i,(cz css i).length=5)(d:Array (_root_.Fin 5))(j:Nat)(f:j<d.size*5):(d.toList.map (cz css)).flatten[j]?=some ((Go.Sort.flatK (cz css) 5 d)[j]!):=by
 have c:j / 5<d.size:=d9;have e:(d.toList.map (cz css))[j / 5]?=some (cz css d[j / 5]):=by
  rw[Qi,Array.getElem?_toList,Array.getElem?_eq_getElem c];rfl
 have:=bF 5 (d.toList.map (cz css)) (fun x k=>by obtain⟨i,_,rfl⟩:=QT.1 k;exact a i) (j / 5) (j % 5) _ e (Nat.mod_lt _ G7);rw[show j / 5*5+j % 5=j by omega] at this;have b:j % 5<(cz css d[j / 5]).length:=by rw[a];omega
 rw[this,get_flatK _ _ _ _ f,getElem!_pos d (j / 5) c,getElem!_pos (cz css d[j / 5]) (j % 5) b,No b]
set_option maxHeartbeats 1000000 in
set_option maxRecDepth 100000 in
def Le : Spec prog 70 [(1000,.row 5 (kM.map I4) 27)] [.aN 1000,.fn 71 []] (.aX []) [(1000,.row 5 (U3.map I4) 27)] []:=by
 refine⟨D6,(fun id hid=>by cases hid),fun c w args aO J=>?_⟩;obtain⟨args⟩:=args;have J:D5 c w args [.aN 1000,.fn 71 []]:=J;obtain⟨v1,Z,rfl,r1,J⟩:∃v r,args=v::r/\Rd c w v (.aN 1000)/\D5 c w r [.fn 71 []]:=by cases J with|cons a b=>exact⟨_,_,rfl,a,b⟩
 obtain⟨v2,as2,rfl,r2,J⟩:∃v r,Z=v::r/\Rd c w v (.fn 71 [])/\D5 c w r []:=by cases J with|cons a b=>exact⟨_,_,rfl,a,b⟩
 obtain rfl:as2=[]:=by cases J;rfl
 obtain⟨cb,rfl,hcb⟩:=r2.rV;obtain rfl:cb=[]:=by cases hcb;rfl
 obtain⟨A1,n1,L,rfl,h1,_,hc1⟩:=r1.bJ;have k0:lk [(1000,Obj.row 5 (kM.map I4) 27)] 1000=some (.row 5 (kM.map I4) 27):=rfl;obtain⟨css,E,L1,z⟩:=aO.rep 1000 _ k0;rw[h1] at E;obtain⟨f,l,o,q,s,rfl⟩:∃f l o q s,css=[f,l,o,q,s]:=by
  match css,L1 with
  |[a,b,c,d,e],_=>exact⟨a,b,c,d,e,rfl⟩
 obtain⟨a1,a2,a3,a4,rfl⟩:=th (z 0 f _ rfl rfl);obtain⟨b1,b2,b3,b4,rfl⟩:=th (z 1 l _ rfl rfl);obtain⟨c1,c2,c3,c4,rfl⟩:=th (z 2 o _ rfl rfl);obtain⟨d1,d2,d3,d4,rfl⟩:=th (z 3 q _ rfl rfl);obtain⟨e1,e2,e3,e4,rfl⟩:=th (z 4 s _ rfl rfl);generalize S:([.string (⟨#[43]⟩:ByteArray),a1,a2,a3,a4]:List Value)=f at E z;generalize T:([.string (⟨#[45]⟩:ByteArray),b1,b2,b3,b4]:List Value)=l at E z;generalize U:([.string (⟨#[42]⟩:ByteArray),c1,c2,c3,c4]:List Value)=o at E z;generalize V:([.string (⟨#[60]⟩:ByteArray),d1,d2,d3,d4]:List Value)=q at E z;generalize W:([.string (⟨#[61]⟩:ByteArray),e1,e2,e3,e4]:List Value)=s at E z;have hE:∀i,∃y1 y2 y3 y4,cz [f,l,o,q,s] i=[.string (qB i),y1,y2,y3,y4]:=Gs ⟨_,_,_,_,S.symm⟩ ⟨_,_,_,_,T.symm⟩ ⟨_,_,_,_,U.symm⟩ ⟨_,_,_,_,V.symm⟩ ⟨_,_,_,_,W.symm⟩;have H:∀i,(cz [f,l,o,q,s] i).length=5:=fun i=>by obtain⟨_,_,_,_,e⟩:=hE i;rw[e];rfl
 have Q:∀i,cz [f,l,o,q,s] i∈[f,l,o,q,s]:=Gs (by simp[cz]) (by simp[cz]) (by simp[cz]) (by simp[cz]) (by simp[cz]);have M:∀i,∀v∈cz [f,l,o,q,s] i,v.oneCell'=true:=fun i v hv=>E.one _ (Q i) v hv;clear S T U V W;rcases E.bZ with⟨e,h0⟩|⟨b,off,p,cap,A,e,Y,I,hpm,hsz,R,K⟩
 ·cases h0
 obtain⟨rfl,rfl,rfl⟩:A1=some ⟨b,off,none⟩/\n1=5/\cap=L:=by cases e;exact⟨rfl,rfl,rfl⟩
 have I:5<=cap:=I;obtain rfl:=R d9;have N:b<w.heap.size:=(Array.getElem?_eq_some_iff.1 Y).1;have F:∀j,w.cell? ⟨b,j,none⟩=A[j]?:=fun j=>by unfold World.cell?;rw[Y];rfl
 have hfl:∀d:Array (_root_.Fin 5),d.size=5->(d.toList.map (cz [f,l,o,q,s])).flatten.length=25:=fun d hd=>by
  rw[fj 5 _ (fun x X=>by obtain⟨i,_,rfl⟩:=QT.1 X;exact H i),QU,Array.length_toList,hd]
 have hH:HoldsK (cz [f,l,o,q,s]) 5 w b (p*5) #[0,1,2,3,4]:=fun j G=>by
  rw[size_flatK] at G;have G:j<25:=G;have hf:=d23 [f,l,o,q,s] H #[0,1,2,3,4] j G;have K:(A.toList.drop (p*5)).take (5*5)=((#[0,1,2,3,4]:Array (_root_.Fin 5)).toList.map (cz [f,l,o,q,s])).flatten:=K;have ht:((A.toList.drop (p*5)).take (5*5))[j]?=(A.toList.drop (p*5))[j]?:=List.getElem?_take_of_lt d9;refine⟨?_,by unfold World.frozen?;rw[Y];simp⟩;rw[F,<-Array.getElem?_toList,<-Qk,<-ht,K,hf];rfl
 have O:CmpLays prog 71 #[] (cz [f,l,o,q,s]) 5 xB b (p*5) (#[0,1,2,3,4]:Array (_root_.Fin 5)).size w:=fun m os dk hdk x y=>by
  obtain⟨x1,x2,x3,x4,ex⟩:=hE x;obtain⟨y1,y2,y3,y4,ey⟩:=hE y;rw[ex,ey,<-PU x y];exact PG (qB x) (qB y) x1 x2 x3 x4 y1 y2 y3 y4 _
 have P:=AnyQ.slices_SortFunc_small OQ 5 isAgg27 sizeOf27 (cz [f,l,o,q,s]) H M xB 71 #[] b (p*5) cap #[0,1,2,3,4] w (enters_of func71 D6 rfl) O hH N G7 bitsLen;refine Calls.mono (show Calls prog 70 _ _ _ from P) ?_;rintro e w' ⟨rfl,n,os,D⟩;rw[show(#[0,1,2,3,4]:Array (_root_.Fin 5)).size=5 from rfl,Pe] at D;have t:w'.heap=(w.heap.modify b (onCells (putCells id (p*5) (Go.Sort.flatK (cz [f,l,o,q,s]) 5 #[2,0,1,3,4]))))++os:=by rw[D];rfl
 have hb':w'.heap[b]?=some (.cells (putCells id (p*5) (Go.Sort.flatK (cz [f,l,o,q,s]) 5 #[2,0,1,3,4]) A) 27):=by
  rw[t,Array.getElem?_append_left (by simpa using N),Array.getElem?_modify,RA rfl,Y];rfl
 have hob:(c.hd 1000).ownBlock=some b:=by rw[h1];rfl
 refine⟨.tuple #[],c,rfl,aR.iV (css':=(#[2,0,1,3,4]:Array (_root_.Fin 5)).toList.map (cz [f,l,o,q,s])) (b:=b) aO hob ?_ rfl ?_ (fun k H hne=>?_) (by rw[t];simp) (by rw[D];rfl) (by rw[D];rfl) (by rw[D];rfl),.aX .nil⟩
 ·rw[h1];refine⟨.inr ⟨b,p*5,p,cap,_,rfl,hb',I,hpm,by simpa[putCells] using hsz,fun _=>rfl,?_⟩,fun x X=>by obtain⟨i,_,rfl⟩:=QT.1 X;exact H i,fun x X=>by obtain⟨i,_,rfl⟩:=QT.1 X;exact M i⟩;apply Ql;intro j;by_cases G:j<25
  ·have hf:=d23 [f,l,o,q,s] H #[2,0,1,3,4] j G;have hp:p*5+j<A.size:=d9;rw[List.getElem?_take_of_lt (show j<((#[2,0,1,3,4]:Array (_root_.Fin 5)).toList.map (cz [f,l,o,q,s])).length*5 from G),Qk,Array.getElem?_toList,hf];unfold putCells;rw[Array.getElem?_mapIdx,Array.getElem?_eq_getElem hp];simp only[QZ];rw[RA ⟨d9,by rw[size_flatK];show p*5+j<p*5+25;omega⟩,show p*5+j-p*5=j by omega];rfl
  ·rw[Qb (by rw[Qo];show min 25 _<=j;omega),Qb (by rw[hfl _ rfl];omega)]
 ·intro i us cs C B
  match i,C,B with
  |0,C,B=>cases C;cases B;exact z 2 _ _ rfl rfl
  |1,C,B=>cases C;cases B;exact z 0 _ _ rfl rfl
  |2,C,B=>cases C;cases B;exact z 1 _ _ rfl rfl
  |3,C,B=>cases C;cases B;exact z 3 _ _ rfl rfl
  |4,C,B=>cases C;cases B;exact z 4 _ _ rfl rfl
  |i+5,C,B=>cases B
 ·rw[t,Array.getElem?_append_left (by simpa using H),Array.getElem?_modify,R1 (fun e=>hne e.symm)]
def d21 : List ByteArray:=[⟨#[43]⟩,⟨#[45]⟩,⟨#[42]⟩,⟨#[60]⟩,⟨#[61]⟩]
set_option maxRecDepth 100000 in
def OF : Spec prog 69 [] [] (.aN 0) [(0,.row 1 (QK lI d21) 9)] [0]:=by
 refine Spec.of fQ func69 rfl ntmps69 D6 rfl rfl rfl fun a u=>?_;refine eB u ?_;refine eB u ?_;refine Exists.intro (QK lI d21) (AN (by repeat (first|exact trivial|exact rfl|(refine AN ?_ ?_))) ?_);refine xd u ?_;exact⟨[(0,1)],_,fm⟩
def rP(a:AV):List (List AV):=[[.str ⟨#[79,98,106,101,99,116]⟩,.int (-1),.int 0,.aI],[.str ⟨#[78,105,108]⟩,.int 0,.int 0,.aI],[.str ⟨#[66,111,111,108]⟩,.int 0,.int 0,.aI],[.str ⟨#[73,110,116]⟩,.int 0,.int 0,a]]
def PW : ∀k:Nat,k<5->∃x,d21[k]?=some x/\kM[k]?=some ⟨x,1,0,(k:Int)+1,[]⟩
 |0,_=>⟨_,rfl,rfl⟩
 |1,_=>⟨_,rfl,rfl⟩
 |2,_=>⟨_,rfl,rfl⟩
 |3,_=>⟨_,rfl,rfl⟩
 |4,_=>⟨_,rfl,rfl⟩
 |k+5,h=>absurd h d9
set_option maxRecDepth 100000 in
def DZ(N:Nat)(r:Wd)(h:wQ N=some r):Spec prog 35 [] [] (.agg (M3 r)) [] []:=by
 obtain rfl:=Option.some.inj h;refine Spec.of fQ func35 rfl ntmps35 D6 rfl rfl rfl fun d u=>?_;refine Gx ?_;refine Or.inr ?_;refine Exists.intro (rP .aI) (AN (by repeat (first|exact trivial|exact rfl|(refine AN ?_ ?_))) ?_);refine Gx ?_;refine AN G7 (AN (by show(3:Int)<4;decide) ?_);refine Gx ?_;show K9 prog _ _ _ _;refine cA (OF.sw 0 15) ?_;refine F6 (fun hl=>?_);show j5 prog d _ _ _ _;refine j5.gh (Gh.eR (r:=9) (i:=3) (off:=3) (j:=104) (j':=105) (isz:=5) (ie:=27) rfl rfl rfl rfl rfl rfl rfl rfl) (fun _=>?_);refine j5.hO (ι:=Hd) (fun g=>[(0,.ptr 0 0),(1,.ptr 1 0),(2,.ep 9 3 4 3)]) (fun g=>[(0,.box [.aI,.aI,.int 0] 40),(1,.box [.aN 9,.aI,.int 0] 40),(9,.row 4 (rP (.aV g.v)) 81),(104,.row 5 (kM.map I4) 27),(105,.eqv 104 g.v)]) (fun w p E B=>?_) (by intro q;rw[u];rfl) ?_
 ·refine j5.tP fun t z n D A=>?_;refine j5.jl (ι:={ q:Nat×Hd // q.1<=5 }) (fun q=>[(0,.ptr 0 0),(1,.ptr 1 0),(2,.ep 9 3 4 3),(15,.aN 15),(16,.int 5),(17,.int q.1.1)]) (fun q=>[(0,.box [.aI,.aI,.int 0] 40),(1,.box [.aN 9,.aI,.int 0] 40),(9,.row 4 (rP (.aV q.1.2.v)) 81),(15,.row 1 (d21.map lI) 9),(104,.row 5 ((kM.take q.1.1).map I4) 27),(105,.eqv 104 q.1.2.v)]) (fun q=>5-q.1.1) ⟨(0,⟨none,0,0⟩),d9⟩ [] ⟨⟨rfl,rfl,rfl,rfl,rfl,rfl,trivial⟩,⟨rfl,rfl,rfl,rfl,rfl,rfl,trivial⟩,rfl,rfl⟩ (by intro q;rw[u];rfl) ?_;rintro⟨⟨k,hd⟩,l⟩ y nl s C;have l:k<=5:=l;refine Gx ?_;refine jP (fun b=>?_) (fun f=>?_)
  ·have b:k<5:=by have:(k:Int)<5:=b;omega
   obtain⟨x,m,o⟩:=PW k b;refine Gx ?_;refine R7 (i:=(k:Int)) (by rw[q9];exact m) ?_;refine Q9 m ?_;show j5 prog d _ _ _ _;refine j5.snoc (xc u ?_);refine AN (by show 3<4;decide) (fun c a=>?_);have a:(rP (.aV hd.v))[3]?=some c:=a;obtain rfl:c=[.str ⟨#[73,110,116]⟩,.int 0,.int 0,.aV hd.v]:=(Option.some.inj a).symm;refine AN rfl ?_;refine IN (AN ⟨d9,d9⟩ ?_);refine Exists.intro (QK I4 [⟨x,1,0,(k:Int)+1,[]⟩]) (AN (by repeat (first|exact trivial|exact rfl|(refine AN ?_ ?_))) ?_);refine AN ?_ (Exists.intro (QK I4 (kM.take k++[⟨x,1,0,(k:Int)+1,[]⟩])) (AN (tb (O7 _)) ?_))
   ·show((QK I4 (kM.take k)).length+1)*64<=_;rw[QU,Qo];omega
   refine AN (by show 3<4;decide) (AN ?_ ?_)
   ·intro c a;have a:(rP (.aV hd.v))[3]?=some c:=a;obtain rfl:c=[.str ⟨#[73,110,116]⟩,.int 0,.int 0,.aV hd.v]:=(Option.some.inj a).symm;show 3<4;omega
   show V9 d _ _ _;refine V9.gh (Gh.bX 9 106 rfl rfl rfl (fun _=>rfl) rfl) (fun g=>?_);refine V9.done ?_;show j5 prog d _ _ _ _;refine Gx ?_;refine IN (AN ⟨d9,d9⟩ ?_);refine nl _ _ ?_;refine V9.done ?_;have e:kM.take k++[⟨x,1,0,(k:Int)+1,[]⟩]=kM.take (k+1):=by rw[List.take_add_one,o];rfl
   refine⟨⟨(k+1,g),b⟩,[(104,31),(105,106)],by show 5-(k+1)<5-k;omega,⟨⟨rfl,rfl,rfl,rfl,rfl,rfl,trivial⟩,⟨rfl,rfl,rfl,rfl,?_,rfl,trivial⟩,rfl,rfl⟩⟩;exact congrArg (fun q=>some (Obj.row 5 (QK I4 q) 27)) e
  ·have e:k=5:=by have:¬((k:Int)<5):=f;omega
   subst e;refine Gx ?_;refine s _ _ _ ?_;refine n _ _ ?_;refine p _ _ ?_;refine V9.done ?_;exact⟨hd,[],trivial,⟨⟨rfl,rfl,rfl,trivial⟩,⟨rfl,rfl,rfl,rfl,rfl,trivial⟩,rfl,rfl⟩⟩
 intro g;show j5 prog d _ _ _ _;refine Gx ?_;refine AN (by show 3<4;decide) (fun c a=>?_);have a:(rP (.aV g.v))[3]?=some c:=a;obtain rfl:c=[.str ⟨#[73,110,116]⟩,.int 0,.int 0,.aV g.v]:=(Option.some.inj a).symm;refine AN rfl ?_;show K9 prog _ _ _ _;refine cA (Le.sw 1000 104) ?_;show j5 prog d _ _ _ _;refine j5.lJ 9 3 3 104 105 rfl rfl rfl rfl rfl rfl rfl rfl ?_;refine j5.bw 9 (QK eA N9.a7) rfl (by repeat (first|exact trivial|exact rfl|(refine AN ?_ ?_))) ?_;refine j5.aY 9 rfl ?_;refine Gx ?_;exact⟨[],_,rfl,(by repeat (first|exact trivial|exact rfl|(refine AN ?_ ?_))),trivial,rfl,rfl,rfl,rfl,rfl⟩
end
section
variable {P:Program}{Γ:bE}
def SQ(P:Program)(Γ:bE)(y:Code)(Q:Qt):Qt:=fun e ts os=>match e with
 |.normal=>j5 P Γ y ts os Q
 |.exit id=>Q (.exit id) ts os
 |.ret=>Q .ret ts os
def BQ(b:Nat)(Q:Qt):Qt:=fun e ts os=>match e with
 |.normal=>Q .normal ts os
 |.exit id=>match BY id b with
  |true=>Q .normal ts os
  |false=>Q (.exit id) ts os
 |.ret=>Q .ret ts os
def JE(p:Option (Ts×Os)):Qt:=fun _ ts os=>match p with
 |some (t,o)=>∃rl,dp ts os t o rl
 |none=>False
def JS(Γ:bE)(p:Option (Ts×Os))(Q:Qt):Qt:=fun e ts os=>match e with
 |.normal=>V9 Γ ts os (JE p)
 |.exit id=>Q (.exit id) ts os
 |.ret=>Q .ret ts os
def LS(Γ:bE)(b:Nat)(R:Qt)(p:Option (Ts×Os))(Q:Qt):Qt:=fun e ts os=>match e with
 |.normal=>V9 Γ ts os R
 |.exit id=>match BY id b with
  |true=>V9 Γ ts os (JE p)
  |false=>Q (.exit id) ts os
 |.ret=>Q .ret ts os
def j5.uW{x y:Code}{ts:Ts}{os:Os}{Q:Qt}(h:j5 P Γ x ts os (SQ P Γ y Q)):j5 P Γ (.seq x y) ts os Q :=
 j5.seq (h.mono fun e _ _ h=>by cases e<;>exact h)
def j5.tQ{c:Code}{b:Nat}{ts:Ts}{os:Os}{Q:Qt}(h:j5 P Γ c ts os (BQ b Q)):j5 P Γ (.block b c) ts os Q :=
 j5.C7 (h.mono fun e _ _ h=>by cases e<;>exact h)
def b8{β:Type}(l:List (Nat×β)):List Nat->List (Nat×β)
 |[]=>[]
 |k::r=>match lk l k with
  |some v=>(k,v)::b8 l r
  |none=>b8 l r
def M7.nx{ρ σ:Type}:M7 ρ σ->Option σ
 |.ret _=>none
 |.next s=>some s
structure En(τ ρ:Type) where
 e:τ->Option ρ
 s:ρ->τ
 h:∀o x,e o=some x->o=s x
abbrev e0{τ:Type}:En τ τ:=⟨some,fun x=>x,fun _ _ h=>Option.some.inj h⟩
abbrev e1{ρ σ:Type}:En (M7 ρ σ) σ:=⟨M7.nx,.next,fun o x h=>by cases o with|ret=>cases h|next=>cases h;rfl⟩
def lS{σ:Type}(D:σ->Ts)(O:σ->Os)(dt dO:List Nat)(ts:Ts)(os:Os)(s:Option σ):Option (Ts×Os):=match s with
 |none=>none
 |some s=>some (D s++b8 ts dt,O s++b8 os dO)
def j5.nO{c:Code}{ts:Ts}{os:Os}{Q:Qt}(p:Option (Ts×Os))(h:j5 P Γ c ts os (JS Γ p Q))(u:∀q,p=some q->(q.1.all fun p=>Nat.blt p.1 Γ.n)=true)(h2:∀q,p=some q->Q .normal q.1 q.2):j5 P Γ c ts os Q:=by
 refine⟨fun a w hr=>wp_mono (h.run a w hr) fun e a' w' ⟨ex,ts',os',h1,h2',h3⟩=>?_⟩;cases ex with
 |normal =>
  obtain⟨ts2,os2,hj,h4⟩:=V9.run h2' a' w' h3;unfold JE at hj;split at hj
  ·rename_i t o;obtain⟨rl,hs⟩:=hj;exact⟨.normal,_,_,h1,h2 _ rfl,hs.rel (u _ rfl) h4⟩
  ·exact hj.elim
 |exit id=>exact⟨.exit id,ts',os',h1,h2',h3⟩
 |ret=>exact⟨.ret,ts',os',h1,h2',h3⟩
end
section
variable {α β σ τ:Type}
def P2{x:Option α}{f:α->Option β}{r:β}{G:Prop}(h:x.bind f=some r)(k:∀a,x=some a->f a=some r->G):G :=
 let ⟨a,h1,h2⟩:=M6 h;k a h1 h2
def Pm{b:Bool}{x:Option β}{r:β}{G:Prop}(h:(bif b then x else none)=some r)(k:b=true->x=some r->G):G :=
 let ⟨h1,h2⟩:=jW h;k h1 h2
end
structure Wz{κ:Type}(c:κ)(G:Prop):Prop where
 o:G
def BP{Γ:bE}{ts t:Ts}{os o:Os}{rl:List (Nat×Nat)}(h:dp ts os t o rl:=by(refine dp.mk ?_ ?_ rfl rfl<;>repeat (first|exact trivial|exact rfl|(refine AN ?_ ?_)))):Wz rl (V9 Γ ts os (JE (some (t,o)))):=⟨V9.done ⟨rl,h⟩⟩
def HD{tab:S9}{rs:List ResultVar}{ts:Ts}{os:Os}{av:AV}{upd:Os}{news:List Nat}{rl:List (Nat×Nat)}{r:List AV}(h:Fin tab rs ts os av upd news rl r):Wz rl (B1 tab rs av upd news .ret ts os):=⟨⟨rl,r,h⟩⟩
section
variable {P:Program}{Γ:bE}{n:Nat}{α β σ ρ τ:Type}{c:Code}{ts:Ts}{os:Os}{Q:Qt}
abbrev nl{α β:Type}:α->List β:=fun _=>[]
def fc(ts:Ts)(os:Os)(K:Ts->Os->Prop):Prop:=gM ts fun ts=>ig os [] fun os=>K ts os
def H0{K:Ts->Os->Prop}(h:fc ts os K):K ts os:=by
 have h:=(kF os [] _).1 ((ox ts _).1 h)
 rwa [List.append_nil] at h
def J{x:Option τ}{f:τ->Option β}{r:β}(E:En τ σ)(u:Γ.n=n)(h:x.bind f=some r)(D:σ->Ts)(O:σ->Os)(dt dO:List Nat)(k1:∀o,x=some o->f o=some r->j5 P Γ c ts os (JS Γ (lS D O dt dO ts os (E.e o)) Q))(k2:∀s,f (E.s s)=some r->fc (D s++b8 ts dt) (O s++b8 os dO) (Q .normal))(hb:∀s,((D s++b8 ts dt).all fun p=>Nat.blt p.1 n)=true:=by intro s;rfl):j5 P Γ c ts os Q:=by
 obtain⟨o,h1,h2⟩:=M6 h;subst u;refine j5.nO _ (k1 o h1 h2) (fun q hq=>?_) (fun q hq=>?_)<;>(cases ho:E.e o with|none=>rw[ho] at hq;cases hq|some s=>rw[ho] at hq;cases hq;first|exact hb s|(have:=E.h _ _ ho;subst this;exact H0 (k2 s h2)))
def Jb{x:Option Bool}{f:Bool->Option β}{r:β}(t:Nat)(u:Γ.n=n)(h:x.bind f=some r)(dt dO:List Nat)(k1:∀o,x=some o->f o=some r->j5 P Γ c ts os (JS Γ (lS (fun s=>[(t,.bool s)]) (fun _=>[]) dt dO ts os (some o)) Q))(k2:∀s,f s=some r->fc ((t,.bool s)::b8 ts dt) (b8 os dO) (Q .normal))(hb:∀s,(((t,AV.bool s)::b8 ts dt).all fun p=>Nat.blt p.1 n)=true:=by intro s;rfl):j5 P Γ c ts os Q:=J e0 u h (fun s=>[(t,.bool s)]) (fun _=>[]) dt dO k1 k2 hb
def tU{β:Type}{l:List (Nat×β)}:∀{ks:List Nat} {t:Nat} {x:β},lk (b8 l ks) t=some x->lk l t=some x
 |k::ks,t,x,h=>by
  unfold b8 at h;split at h
  ·rename_i v hv;rw[p8] at h;split at h
   ·rename_i e;subst e;cases h;exact hv
   ·exact tU h
  ·exact tU h
def kd(dt dO:List Nat)(h:gM (b8 ts dt) fun ts=>ig (b8 os dO) [] fun os=>j5 P Γ c ts os Q):j5 P Γ c ts os Q:=by
 have h:=(kF (b8 os dO) [] _).1 ((ox (b8 ts dt) _).1 h);rw[List.append_nil] at h;refine⟨fun a w hr=>h.run a w ?_⟩;obtain⟨c,⟨h1,h2,h3,h4,h5⟩,h6⟩:=hr;exact⟨c,⟨h1,h2,fun t x hl=>h3 t x (tU hl),h4.sub fun _ _=>tU,⟨h5.dB,h5.tape,h5.output,h5.size,h5.aq,h5.al,h5.ad,fun id o b hl hf=>h5.ay _ _ b (tU hl) hf⟩⟩,h6⟩
def PM{ι:Type}(St:ι->Ts)(So:ι->Os)(m:ι->Nat){b:Nat}(p:Option (Ts×Os))(i0:ι)(rl0:List (Nat×Nat))(h0:dp ts os (St i0) (So i0) rl0)(u:∀i,((St i).all fun p=>Nat.blt p.1 Γ.n)=true)(hr:∀i,j5 P Γ c (St i) (So i) (LS Γ b (JQ St So fun j=>m j<m i) p Q))(hp:∀q,p=some q->(q.1.all fun p=>Nat.blt p.1 Γ.n)=true)(h2:∀q,p=some q->Q .normal q.1 q.2):j5 P Γ (.block b (.loop c)) ts os Q:=by
 refine j5.nO p (j5.tQ (j5.jl St So m i0 rl0 h0 u fun i Q1 q1 q2 q3=>(hr i).mono fun e t o h=>?_)) hp h2;cases e with
 |normal=>exact q1 _ _ h
 |ret=>exact q3 _ _ h
 |exit id =>
  refine q2 id _ _ ?_;unfold LS at h;unfold BQ;cases hb:BY id b<;>(simp only[hb] at h⊢;exact h)
def RK{κ:Type}(μ:κ->Nat)(Iv:κ->Nat->Prop)(F:κ->Nat->σ->Option τ)(o:τ)(D:Nat->σ->Ts)(O:Nat->σ->Os)(z:Nat):Qt:=fun _ ts os =>
 ∃(l:κ) (k:Nat) (v:σ) (rl:List (Nat×Nat)),μ l<z/\Iv l k/\F l k v=some o/\dp ts os (D k v) (O k v) rl
def Ps{κ:Type}{μ:κ->Nat}{Iv:κ->Nat->Prop}{l:κ}{F:κ->Nat->σ->Option τ}{o:τ}{D:Nat->σ->Ts}{O:Nat->σ->Os}{z k:Nat}{v:σ}{rl:List (Nat×Nat)}(h:F l k v=some o)(hd:Iv l k)(hz:μ l<z)(hs:dp ts os (D k v) (O k v) rl:=by(refine dp.mk ?_ ?_ rfl rfl<;>repeat (first|exact trivial|exact rfl|(refine AN ?_ ?_)))):Wz (v,rl) (V9 Γ ts os (RK μ Iv F o D O z)):=⟨V9.done ⟨l,k,v,rl,hz,hd,h,hs⟩⟩
def LK{κ:Type}{E:En τ ρ}{b:Nat}{f:τ->Option β}{r:β}(μ:κ->Nat)(Iv:κ->Nat->Prop)(l0:κ)(i0:Iv l0 0)(u:Γ.n=n){F:κ->Nat->σ->Option τ}{v0:σ}(h:(F l0 0 v0).bind f=some r){D:Nat->σ->Ts}{O:Nat->σ->Os}{rl:List (Nat×Nat)}{D':ρ->Ts}{O':ρ->Os}{dt dO:List Nat}(k1:∀o,f o=some r->∀l k v,Iv l k->F l k v=some o->j5 P Γ c (D k v) (O k v) (LS Γ b (RK μ Iv F o D O (μ l)) (lS D' O' dt dO ts os (E.e o)) Q))(k3:∀s,f (E.s s)=some r->fc (D' s++b8 ts dt) (O' s++b8 os dO) (Q .normal))(h0:dp ts os (D 0 v0) (O 0 v0) rl)(hb:∀k s,((D k s).all fun p=>Nat.blt p.1 n)=true)(hb':∀s,((D' s++b8 ts dt).all fun p=>Nat.blt p.1 n)=true):j5 P Γ (.block b (.loop c)) ts os Q:=by
 obtain⟨o,h1,h2⟩:=M6 h;subst u;refine PM (fun q:{ q:κ×Nat×σ // Iv q.1 q.2.1/\F q.1 q.2.1 q.2.2=some o }=>D q.1.2.1 q.1.2.2) (fun q=>O q.1.2.1 q.1.2.2) (fun q=>μ q.1.1) (lS D' O' dt dO ts os (E.e o)) ⟨(l0,0,v0),i0,h1⟩ rl h0 (fun q=>hb _ _) ?_ (fun q hq=>?_) (fun q hq=>?_)
 ·rintro⟨⟨l,k,v⟩,hd,hf⟩;refine(k1 o h2 l k v hd hf).mono fun ex t s hh=>?_;cases ex with
  |normal=>exact⟨fun a w hr=>let ⟨t2,o2,⟨l,k,v,rl,e1,e2,e3,e4⟩,e5⟩:=V9.run hh a w hr;⟨t2,o2,⟨⟨(l,k,v),e2,e3⟩,rl,e1,e4⟩,e5⟩⟩
  |exit id=>exact hh
  |ret=>exact hh
 all_goals (cases ho:E.e o with|none=>rw[ho] at hq;cases hq|some s=>rw[ho] at hq;cases hq;first|exact hb' s|(have:=E.h _ _ ho;subst this;exact H0 (k3 s h2)))
def LR{b:Nat}{f:τ->Option β}{r:β}{lx:List α}(E:En τ ρ)(u:Γ.n=n)(v0:σ)(F:List α->Nat->σ->Option τ)(h:(F lx 0 v0).bind f=some r)(D:Nat->σ->Ts)(O:Nat->σ->Os)(dt dO:List Nat)(rl:List (Nat×Nat))(D':ρ->Ts)(O':ρ->Os)(dt' dO':List Nat)(k1:∀o,f o=some r->∀k v,F [] k v=some o->decide ((k:Int)<(lx.length:Int))=false->j5 P Γ c (D k v++b8 ts dt) (O k v++b8 os dO)
   (LS Γ b (RK List.length (fun l k=>l=lx.drop k) F o (fun k v=>D k v++b8 ts dt) (fun k v=>O k v++b8 os dO) 0) (lS D' O' dt' dO' ts os (E.e o)) Q))(k2:∀o,f o=some r->∀k v x l,F (x::l) k v=some o->decide ((k:Int)<(lx.length:Int))=true->lx[k]?=some x->l=lx.drop (k+1)->j5 P Γ c (D k v++b8 ts dt) (O k v++b8 os dO)
   (LS Γ b (RK List.length (fun l k=>l=lx.drop k) F o (fun k v=>D k v++b8 ts dt) (fun k v=>O k v++b8 os dO) (l.length+1)) (lS D' O' dt' dO' ts os (E.e o)) Q))(k3:∀s,f (E.s s)=some r->fc (D' s++b8 ts dt') (O' s++b8 os dO') (Q .normal))(h0:dp ts os (D 0 v0++b8 ts dt) (O 0 v0++b8 os dO) rl:=by(refine dp.mk ?_ ?_ rfl rfl<;>repeat (first|exact trivial|exact rfl|(refine AN ?_ ?_))))(hb:∀k s,((D k s++b8 ts dt).all fun p=>Nat.blt p.1 n)=true:=by intro k s;rfl)(hb':∀s,((D' s++b8 ts dt').all fun p=>Nat.blt p.1 n)=true:=by intro s;rfl):j5 P Γ (.block b (.loop c)) ts os Q :=
 LK List.length (fun l k=>l=lx.drop k) lx rfl u h (fun o g l k v hd hf=>by
  rcases l with _|⟨x,l⟩
  ·exact k1 o g k v hf (OJ hd)
  ·obtain⟨g1,g2,g3⟩:=X5 hd;exact k2 o g k v x l hf g3 g1 g2) k3 h0 hb hb'
def LU{b:Nat}{f:τ->Option β}{r:β}{nx:Int}(E:En τ ρ)(u:Γ.n=n)(v0:σ)(F:Nat->Nat->σ->Option τ)(h:(F (nx-((0:Nat):Int)).toNat 0 v0).bind f=some r)(D:Nat->σ->Ts)(O:Nat->σ->Os)(dt dO:List Nat)(rl:List (Nat×Nat))(D':ρ->Ts)(O':ρ->Os)(dt' dO':List Nat)(k1:∀o,f o=some r->∀k v,F 0 k v=some o->decide ((k:Int)<nx)=false->j5 P Γ c (D k v++b8 ts dt) (O k v++b8 os dO)
   (LS Γ b (RK (fun m=>m) (fun m k=>m=(nx-(k:Int)).toNat) F o (fun k v=>D k v++b8 ts dt) (fun k v=>O k v++b8 os dO) 0) (lS D' O' dt' dO' ts os (E.e o)) Q))(k2:∀o,f o=some r->∀k v m,F (m+1) k v=some o->decide ((k:Int)<nx)=true->m=(nx-((k+1:Nat):Int)).toNat->j5 P Γ c (D k v++b8 ts dt) (O k v++b8 os dO)
   (LS Γ b (RK (fun m=>m) (fun m k=>m=(nx-(k:Int)).toNat) F o (fun k v=>D k v++b8 ts dt) (fun k v=>O k v++b8 os dO) (m+1)) (lS D' O' dt' dO' ts os (E.e o)) Q))(k3:∀s,f (E.s s)=some r->fc (D' s++b8 ts dt') (O' s++b8 os dO') (Q .normal))(h0:dp ts os (D 0 v0++b8 ts dt) (O 0 v0++b8 os dO) rl:=by(refine dp.mk ?_ ?_ rfl rfl<;>repeat (first|exact trivial|exact rfl|(refine AN ?_ ?_))))(hb:∀k s,((D k s++b8 ts dt).all fun p=>Nat.blt p.1 n)=true:=by intro k s;rfl)(hb':∀s,((D' s++b8 ts dt').all fun p=>Nat.blt p.1 n)=true:=by intro s;rfl):j5 P Γ (.block b (.loop c)) ts os Q :=
 LK (fun m=>m) (fun m k=>m=(nx-(k:Int)).toNat) _ rfl u h (fun o g m k v hd hf=>by
  rcases m with _|m
  ·exact k1 o g k v hf (PJ hd)
  ·exact k2 o g k v m hf (GC hd).2 (GC hd).1) k3 h0 hb hb'
def LF{b N:Nat}{f:τ->Option β}{r:β}(E:En τ ρ)(u:Γ.n=n)(v0:σ)(F:Nat->σ->Option τ)(h:(F N v0).bind f=some r)(D:σ->Ts)(O:σ->Os)(dt dO:List Nat)(rl:List (Nat×Nat))(D':ρ->Ts)(O':ρ->Os)(dt' dO':List Nat)(k2:∀o,f o=some r->∀v m,F (m+1) v=some o->j5 P Γ c (D v++b8 ts dt) (O v++b8 os dO)
   (LS Γ b (RK (fun m=>m) (fun m k=>k=0) (fun m _=>F m) o (fun _ v=>D v++b8 ts dt) (fun _ v=>O v++b8 os dO) (m+1)) (lS D' O' dt' dO' ts os (E.e o)) Q))(k3:∀s,f (E.s s)=some r->fc (D' s++b8 ts dt') (O' s++b8 os dO') (Q .normal))(hz:∀v,F 0 v=none:=by intro v;rfl)(h0:dp ts os (D v0++b8 ts dt) (O v0++b8 os dO) rl:=by(refine dp.mk ?_ ?_ rfl rfl<;>repeat (first|exact trivial|exact rfl|(refine AN ?_ ?_))))(hb:∀s,((D s++b8 ts dt).all fun p=>Nat.blt p.1 n)=true:=by intro s;rfl)(hb':∀s,((D' s++b8 ts dt').all fun p=>Nat.blt p.1 n)=true:=by intro s;rfl):j5 P Γ (.block b (.loop c)) ts os Q :=
 LK (fun m=>m) (fun m k=>k=0) N rfl u (F:=fun m _=>F m) h (fun o g m k v hd hf=>by
  rcases m with _|m
  ·rw[hz] at hf;cases hf
  ·exact k2 o g v m hf) k3 h0 (fun _=>hb) hb'
end
section
variable {P:Program}{Γ:bE}{c:Code}{ts:Ts}{os:Os}{Q:Qt}{α:Type}{enc:α->List AV}
def gC{T:Ts}{O:Os}(g:Gh Γ ts os (fun _:Unit=>T) fun _=>O)(h:j5 P Γ c T O Q):j5 P Γ c ts os Q:=.gh g fun _=>h
def gE{T:Ts}{O:Os}(g:Gh Γ ts os (fun _:Unit=>T) fun _=>O)(h:V9 Γ T O Q):V9 Γ ts os Q:=.gh g fun _=>h
def gD{l:List α}{x0:α}(id x sh i off:Nat)(hx:l[i]?=some x0){sz e s0 isz ie:Nat}{cols:cR}{hs:Hs}{ls:List (List AV)}(h1:lk os id=some (.deep sz e cols (l.map enc) hs s0):=by rfl)(h2:lk cols off=some (isz,ie):=by rfl)(h3:(enc x0)[off]?=some (.sl isz ls):=by rfl)(h4:gZ hs off=none:=by rfl)(h5:BY id x=false:=by rfl)(h6:BY id sh=false:=by rfl)(h7:BY x sh=false:=by rfl)(h8:(hs.all fun p=>!Nat.beq p.2.2 x && !Nat.beq p.2.2 sh)=true:=by rfl)(h9:G8 [x,sh] ts=true:=by rfl)(h10:H5 [x,sh] [(id,.deep sz e cols (l.map enc) ((i,off,x)::hs) sh),(x,.row isz ls ie),(sh,.aK)] os=true:=by rfl):Gh Γ ts os (fun _:Unit=>ts) fun _=>(id,.deep sz e cols (l.map enc) ((i,off,x)::hs) sh)::(x,.row isz ls ie)::(sh,.aK)::os :=
 Gh.pg id x sh i off h1 h2 (uo hx) h3 h4 h5 h6 h7 h8 h9 h10
def gA{l:List α}{x0:α}(id y sh i off:Nat)(hx:l[i]?=some x0)(x2:α){sz e s0 isz ie:Nat}{cols:cR}{hs:Hs}{ls:List (List AV)}(h1:lk os id=some (.deep sz e cols (l.map enc) hs s0):=by rfl)(h2:lk os y=some (.row isz ls ie):=by rfl)(h3:lk cols off=some (isz,ie):=by rfl)(hl:(enc x0).set off (.sl isz ls)=enc x2:=by rfl)(h4:gZ hs off=some (i,y):=by rfl)(h5:pQ hs=true:=by rfl)(h6:BY id y=false:=by rfl)(h7:BY id sh=false:=by rfl)(h8:BY y sh=false:=by rfl)(h9:(hs.all fun p=>!Nat.beq p.2.2 sh)=true:=by rfl)(h10:G8 [sh] ts=true:=by rfl)(h11:H5 [sh] [(id,.deep sz e cols ((l.set i x2).map enc) (ef hs off) sh),(y,.aK),(sh,.aK)] os=true:=by rfl):Gh Γ ts os (fun _:Unit=>ts) fun _=>(id,.deep sz e cols ((l.set i x2).map enc) (ef hs off) sh)::(y,.aK)::(sh,.aK)::os :=
 Gh.attach id y sh i off h1 h2 h3 (uo hx) h4 h5 (Gr hl) h6 h7 h8 h9 h10 h11
def gB{l:List α}{x0:α}(id y sh i off:Nat)(hx:l[i]?=some x0){sz e s0 isz ie:Nat}{cols:cR}{hs:Hs}{ls:List (List AV)}(h1:lk os id=some (.deep sz e cols (l.map enc) hs s0):=by rfl)(h2:lk os y=some (.row isz ls ie):=by rfl)(h3:lk cols off=some (isz,ie):=by rfl)(hl:(enc x0).set off (.sl isz ls)=enc x0:=by rfl)(h4:gZ hs off=some (i,y):=by rfl)(h5:pQ hs=true:=by rfl)(h6:BY id y=false:=by rfl)(h7:BY id sh=false:=by rfl)(h8:BY y sh=false:=by rfl)(h9:(hs.all fun p=>!Nat.beq p.2.2 sh)=true:=by rfl)(h10:G8 [sh] ts=true:=by rfl)(h11:H5 [sh] [(id,.deep sz e cols (l.map enc) (ef hs off) sh),(y,.aK),(sh,.aK)] os=true:=by rfl):Gh Γ ts os (fun _:Unit=>ts) fun _=>(id,.deep sz e cols (l.map enc) (ef hs off) sh)::(y,.aK)::(sh,.aK)::os :=
 Gh.attach id y sh i off h1 h2 h3 (uo hx) h4 h5 (MU hx hl) h6 h7 h8 h9 h10 h11
def gR(b off j g sg:Nat){cs:List AV}{e2 sz e sh:Nat}{cols:cR}{l:List (List AV)}(h1:lk os b=some (.box cs e2):=by rfl)(h2:cs[off]?=some (.aN j):=by rfl)(h3:lk os j=some (.deep sz e cols l [] sh):=by rfl)(h4:(AV.ar cs).all (fun i=>!Nat.beq i g && !Nat.beq i sg)=true:=by rfl)(h5:BY b j=false:=by rfl)(h6:BY b g=false:=by rfl)(h7:BY j g=false:=by rfl)(h8:BY b sg=false:=by rfl)(h9:BY j sg=false:=by rfl)(h10:BY g sg=false:=by rfl)(h11:G8 [g,sg] ts=true:=by rfl)(h12:H5 [g,sg] [(b,.box (cs.set off (.aN g)) e2),(g,.deep sz e cols l [] sg),(sg,.aK),(j,.aK)] os=true:=by rfl):Gh Γ ts os (fun _:Unit=>ts) fun _=>(b,.box (cs.set off (.aN g)) e2)::(g,.deep sz e cols l [] sg)::(sg,.aK)::(j,.aK)::os :=
 Gh.uV b off j g sg h1 h2 h3 h4 h5 h6 h7 h8 h9 h10 h11 h12
def gS(id sh:Nat){sz e s0:Nat}{cols:cR}{l:List (List AV)}(h1:lk os id=some (.deep sz e cols l [] s0):=by rfl)(h2:BY id sh=false:=by rfl)(h3:G8 [sh] ts=true:=by rfl)(h4:H5 [sh] [(id,.deep sz e cols l [] sh),(sh,.aK)] os=true:=by rfl):
  Gh Γ ts os (fun _:Unit=>ts) fun _=>(id,.deep sz e cols l [] sh)::(sh,.aK)::os:=Gh.BS id sh h1 h2 h3 h4
def gT(id sh:Nat)(cols:cR){sz e:Nat}(h1:lk os id=some (.row sz [] e):=by rfl)(h2:BY id sh=false:=by rfl)(h3:G8 [sh] ts=true:=by rfl)(h4:H5 [sh] [(id,.deep sz e cols [] [] sh),(sh,.aK)] os=true:=by rfl):
  Gh Γ ts os (fun _:Unit=>ts) fun _=>(id,.deep sz e cols [] [] sh)::(sh,.aK)::os:=Gh.qL id sh cols h1 h2 h3 h4
def gX(id:Nat){o:Obj}(h:lk os id=some o:=by rfl):Gh Γ ts os (fun _:Unit=>ts) fun _=>(id,.aK)::os:=Gh.drop id h
def nR(t id sz e:Nat)(h:j5 P Γ c ((t,.aN id)::ts) ((id,.row sz [] e)::os) Q)(h1:lk ts t=some .aI:=by rfl)(h2:G8 [id] ts=true:=by rfl)(h3:H5 [id] [(id,.row sz [] e)] os=true:=by rfl):j5 P Γ c ts os Q:=j5.ba t id sz e h1 h2 h3 h
def nB(b off id sz e:Nat){cs:List AV}{e2:Nat}(h:j5 P Γ c ts ((b,.box (cs.set off (.aN id)) e2)::(id,.row sz [] e)::os) Q)(h1:lk os b=some (.box cs e2):=by rfl)(h2:cs[off]?=some .aI:=by rfl)(h3:(AV.ar cs).all (fun i=>!Nat.beq i id)=true:=by rfl)(h4:BY b id=false:=by rfl)(h5:G8 [id] ts=true:=by rfl)(h6:H5 [id] [(b,.box (cs.set off (.aN id)) e2),(id,.row sz [] e)] os=true:=by rfl):j5 P Γ c ts os Q:=j5.ez b off id sz e h1 h2 h3 h4 h5 h6 h
def rB(b off j g:Nat){cs:List AV}{e2 sz e:Nat}{ls:List (List AV)}(h:j5 P Γ c ts ((b,.box (cs.set off (.aN g)) e2)::(g,.row sz ls e)::(j,.aK)::os) Q)(h1:lk os b=some (.box cs e2):=by rfl)(h2:cs[off]?=some (.aN j):=by rfl)(h3:lk os j=some (.row sz ls e):=by rfl)(h4:(AV.ar cs).all (fun i=>!Nat.beq i g)=true:=by rfl)(h5:BY b j=false:=by rfl)(h6:BY b g=false:=by rfl)(h7:BY j g=false:=by rfl)(h8:G8 [g] ts=true:=by rfl)(h9:H5 [g] [(b,.box (cs.set off (.aN g)) e2),(g,.row sz ls e),(j,.aK)] os=true:=by rfl):j5 P Γ c ts os Q :=
 j5.jq b off j g h1 h2 h3 h4 h5 h6 h7 h8 h9 h
variable {l l1 l2:List α}{i:Nat}{x:α}{A B' C D':Prop}
def hD{K:Prop}(h:l[i]?=some x)(H:K)(a:A:=by rfl)(b:B':=by rfl)(c:C:=by decide)(d:D':=by rfl):A/\B'/\i<(l.map enc).length/\C/\D'/\K:=BA h a b c d H
def hS{K:Prop}(h:l[i]?=some x)(H:K)(a:A:=by rfl)(b:B':=by rfl)(d:D':=by decide):A/\B'/\i<(l.map enc).length/\D'/\K:=On h a b d H
def iD{K:Prop}{i:Int}(h:j3 l i=some x)(H:K)(a:A:=by rfl)(b:B':=by rfl):A/\B'/\0<=i/\i<((l.map enc).length:Int)/\K:=Po h a b H
def sD{p:List AV->Prop}{cs':List AV}{K:List (List AV)->Prop}(h:l[i]?=some x)(x2:α)(H:K ((l.set i x2).map enc))(hp:(∃q,q=(l.map enc).set i cs'/\K q)->p (enc x):=by exact fun h=>h)(hc:cs'=enc x2:=by rfl)(a:A:=by rfl)(b:B':=by rfl)(d:C:=by rfl):
  A/\B'/\C/\i<(l.map enc).length/\∀cs,(l.map enc)[i]?=some cs->p cs:=Pw h a b d (hp ⟨_,Gr hc,H⟩)
def sM{p:List AV->Prop}{cs':List AV}{K:List (List AV)->Prop}(h:l[i]?=some x)(x2:α)(H:K ((l.set i x2).map enc))(hp:(∃q,cJ ((l.map enc).set i cs') q/\K q)->p (enc x):=by exact fun h=>h)(hc:ij cs' (enc x2):=by exact aT):
  i<(l.map enc).length/\∀cs,(l.map enc)[i]?=some cs->p cs:=Q9 h (hp ⟨_,FJ h hc,H⟩)
def bS{q0:List (List AV)}{K:List (List AV)->Prop}(enc:α->List AV)(l:List α)(H:K (l.map enc))(h:cJ q0 (l.map enc):=by exact aT):∃q,cJ q0 q/\K q:=⟨_,h,H⟩
def aM{ls2:List (List AV)}{B C:Nat}{K:List (List AV)->Prop}(hb:AT ((l1.length+l2.length)*B) C=true)(H:K ((l1++l2).map enc))(hle:cJ ls2 (l2.map enc):=by first|exact O7 _|exact MR _ _|exact aT):
  ((l1.map enc).length+ls2.length)*B<=C/\∃q,cJ (l1.map enc++ls2) q/\K q:=Gu hb hle H
def aD{B:Nat}{a b c d e f g:Prop}{K:List (List AV)->Prop}(hb:AT ((l1.length+l2.length)*B) 140737488355328=true)(H:K ((l1++l2).map enc))(h1:a:=by rfl)(h2:b:=by rfl)(h3:c:=by rfl)(h4:d:=by rfl)(h5:e:=by rfl)(h6:f:=by decide)(h7:g:=by decide):
  a/\b/\c/\d/\e/\f/\g/\((l1.map enc).length+(l2.map enc).length)*B<=140737488355328/\∀q,q=l1.map enc++l2.map enc->K q:=PX hb h1 h2 h3 h4 h5 h6 h7 H
end
section
variable {Γ:bE}{n:Nat}{c:List Nat}{ts:Ts}{os:Os}{Q:Qt}{x y:Code}
def z2(h:Wz c (j5 prog Γ x ts os (SQ prog Γ y Q))):Wz (2::c) (j5 prog Γ (.seq x y) ts os Q):=⟨.uW h.o⟩
def z3(u:Γ.n=n)(h:Wz c (gG prog tab ed Γ n (.seq x y) ts os Q)):Wz (3::c) (j5 prog Γ (.seq x y) ts os Q):=⟨eB u h.o⟩
def z4(u:Γ.n=n){a:Operand}(h:Wz c (gG prog tab ed Γ n (.cond a x y) ts os Q)):Wz (4::c) (j5 prog Γ (.cond a x y) ts os Q):=⟨xa u h.o⟩
def z5(u:Γ.n=n){id:Nat}{l:Array Oper}(h:Wz c (gG prog tab ed Γ n (.region id l false) ts os Q)):Wz (5::c) (j5 prog Γ (.region id l false) ts os Q):=⟨xc u h.o⟩
def z6{b:Nat}(h:Wz c (j5 prog Γ x ts os (BQ b Q))):Wz (6::c) (j5 prog Γ (.block b x) ts os Q):=⟨.tQ h.o⟩
def z7(u:Γ.n=n)(h:Wz c (gG prog tab ed Γ n .ret ts os Q)):Wz (7::c) (j5 prog Γ .ret ts os Q):=⟨xd u h.o⟩
def z8(u:Γ.n=n){id:Nat}{l:Array Oper}(hd:fM l.toList=true)(h:Wz c (gM ts fun ts=>jB prog tab ed n l.toList 0 l.toList ts os [] (Q .normal))):Wz (8::c) (j5 prog Γ (.region id l true) ts os Q):=⟨uM u hd h.o⟩
def z9(u:Γ.n=n){id:Nat}{l:Array Oper}(hd:fM l.toList=true)(h:Wz c (gM ts fun ts=>jB prog tab ed n l.toList 0 l.toList ts os [] (SQ prog Γ y Q .normal))):Wz (9::c) (j5 prog Γ (.seq (.region id l true) y) ts os Q):=⟨.uW (uM u hd h.o)⟩
def Py{p K:Prop}(hp:p)(h:Wz c K):Wz (10::c) (p/\K):=⟨⟨hp,h.o⟩⟩
def Pz{p K:Prop}(h:Wz c p):Wz (11::c) (p\/K):=⟨.inl h.o⟩
def z12{p K:Prop}(h:Wz c K):Wz (12::c) (p\/K):=⟨.inr h.o⟩
def QA{α:Type}{l:List α}{enc:α->List AV}{K:Nat->Prop}(h:Wz c (K l.length)):Wz (13::c) (∀n:Nat,n=(l.map enc).length->n<=maxLen->K n):=⟨F6 fun _=>h.o⟩
def QB(h:Wz c (Q .normal ts os)):Wz (14::c) (V9 Γ ts os Q):=⟨.done h.o⟩
def QC{P:Program}(h:Wz c (j5 P Γ x ts os fun e ts' os'=>match e with
  |.normal=>V9 Γ ts' os' Q
  |.exit id=>Q (.exit id) ts' os'
  |.ret=>Q .ret ts' os')):Wz (15::c) (j5 P Γ x ts os Q):=⟨.snoc h.o⟩
def QD{a b:Int}(h0:0<b)(h1:b<=4611686018427387904){K:Prop}(h:Wz c K):Wz (16::c) (b≠0/\H8 (a.tmod b)/\K):=⟨PN h0 h1 h.o⟩
def z17{p q K:Prop}(hp:p)(hq:q)(h:Wz c K):Wz (17::c) (p/\q/\K):=⟨⟨hp,hq,h.o⟩⟩
def QE{p K:Prop}(h:Wz c K):Wz (18::c) (p->K):=⟨fun _=>h.o⟩
def QF{P:Program}(h:Wz c (ig os [] fun os=>j5 P Γ x ts os Q)):Wz (19::c) (j5 P Γ x ts os Q):=⟨by have:=(kF os [] _).1 h.o;rwa [List.append_nil] at this⟩
def z0{G:Prop}(h:Wz c G):Wz (0::c) G:=⟨h.o⟩
def z1(u:Γ.n=n)(h:Wz c (Q .normal ts os)):Wz (1::c) (j5 prog Γ .skip ts os Q):=⟨pq u h.o⟩
def z20(u:Γ.n=n){id:Nat}(h:Wz c (Q (.exit id) ts os)):Wz (20::c) (j5 prog Γ (.exit id) ts os Q):=⟨xb u h.o⟩
def zT{b:Bool}{X Y:Prop}(hb:b=true)(h:Wz c X):Wz c (ic.match_1 (motive:=fun _ _ _=>Prop) b X Y (fun X _=>X) (fun _ Y=>Y)):=⟨B5 hb h.o⟩
def zF{b:Bool}{X Y:Prop}(hb:b=false)(h:Wz c Y):Wz c (ic.match_1 (motive:=fun _ _ _=>Prop) b X Y (fun X _=>X) (fun _ Y=>Y)):=⟨pP hb h.o⟩
end
def je{G:Prop}(rl:List (Nat×Nat):=[])(a:Wz rl G:=by obtain rfl:=oI h;exact BP):G:=a.o
def le{G:Prop}{σ:Type}(v:σ)(rl:List (Nat×Nat))(a:Wz (v,rl) G:=by exact Ps h (by first|with_reducible assumption|exact rfl) (Nat.lt_succ_self _)):G:=a.o
structure iW(R:Prop):Prop where
 o:R
abbrev Sp(f:Nat)(ins:List AV)(av:AV):Prop:=Spec prog f [] ins av [] []
abbrev Sq(f:Nat)(need:Os)(ins:List AV)(av:AV)(upd:Os)(news:List Nat):Prop:=Spec prog f need ins av upd news
def so{f n:Nat}{fn:Func}{c:Code}{need upd:Os}{ins:List AV}{av:AV}{news:List Nat}(hf:prog.funcs[f]?=some fn)(u:fn.ntmps=n)(h:∀Γ:bE,Γ.n=n->j5 prog Γ c (xE ins) need (B1 tab fn.results.toList av upd news))(hb:fn.body=some c:=by rfl)(hc:br prog f=true:=by kernel_rfl)(hl:AT ins.length n=true:=by rfl)(hneed:(need.all fun p=>AT top p.1 && (lk upd p.1).isSome)=true:=by rfl)(hnews:(news.all fun i=>(lk upd i).isSome)=true:=by rfl):Spec prog f need ins av upd news :=
 Spec.of fQ hf hb u hc hl hneed hnews h
def gz(ks ms:Nat){Γ:bE}{n:Nat}(u:Γ.n=n){id:Nat}{l:Array Oper}{ts:Ts}{os:Os}{Q:Qt}(h:gM ts fun ts=>jC prog tab ed n l.toList ks ms 0 l.toList ts os [] none (Q .normal))(hd:fM l.toList=true:=by kernel_rfl):j5 prog Γ (.region id l true) ts os Q:=PT ks ms u hd h
def tR{β:Type}{b b':Bool}{x y:Option β}{r:β}(h:(bif b then x else y)=some r){X Y:Prop}(hx:b'=true->x=some r->X)(hy:b'=false->y=some r->Y)(e:b=b':=by rfl):ic.match_1 (motive:=fun _ _ _=>Prop) b' X Y (fun X _=>X) (fun _ Y=>Y):=by
 subst e;exact PD h hx hy
def D5.c3{c:Ctx}{w:World}:∀{us:List Value} {a X Y:AV} {cs:List AV},D5 c w us (a::X::Y::cs)->∃v0 vl vq vs,us=v0::vl::vq::vs/\Rd c w v0 a/\Rd c w vl X/\Rd c w vq Y/\D5 c w vs cs
 |_,_,_,_,_,.cons h0 (.cons h1 (.cons h2 t))=>⟨_,_,_,_,rfl,h0,h1,h2,t⟩
def mb{P:Program}{f b e b':Nat}{u0 u1 av:AV}(X Y:AV){cs cs' ins:List AV}{need upd:Os}{news:List Nat}(h:∀vl vq,Spec P f ((b,.box (u0::.aV vl::.aV vq::cs) e)::need) ins av ((b',.box (u1::.aV vl::.aV vq::cs') e)::upd) news)(hb:b=b':=by rfl)(hi:((X.ids++Y.ids).all fun i=>!news.contains i)=true:=by rfl):Spec P f ((b,.box (u0::X::Y::cs) e)::need) ins av ((b',.box (u1::X::Y::cs') e)::upd) news:=by
 subst hb;have sm:∀{Z Z':List AV} {os:Os} {id:Nat} {o:Obj},lk ((b,.box Z e)::os) id=some o->∃o',lk ((b,.box Z' e)::os) id=some o'/\(∀c x,aW c id o x↔aW c id o' x)/\(o=o'\/(id=b/\o=.box Z e/\o'=.box Z' e)):=fun {Z Z' os id o} hl=>by
  by_cases e1:b=id
  ·subst e1;rw[j6] at hl;cases hl;exact⟨_,j6 _ _ _,fun _ _=>Iff.rfl,.inr ⟨rfl,rfl,rfl⟩⟩
  ·rw[F7 _ _ e1] at hl;exact⟨o,by rw[F7 _ _ e1];exact hl,fun _ _=>Iff.rfl,.inl rfl⟩
 have up:∀{Z Z':List AV} {os:Os} {c:Ctx} {w:World},R4 c w ((b,.box Z e)::os)->(∀us,D5 c w us Z->w.heap[c.μ b]?=some (.cells us.toArray e)->D5 c w us Z')->R4 c w ((b,.box Z' e)::os):=fun {Z Z' os c w} hk hz =>
  ⟨fun id o hl=>by
   obtain⟨o',h1,h2,h3|⟨rfl,rfl,rfl⟩⟩:=sm (Z':=Z) hl
   ·subst h3;exact hk.rep id o h1
   ·obtain⟨us,e1,e2⟩:=hk.rep _ _ h1;exact⟨us,e1,hz us e2 e1⟩,
  fun id o x hl hf=>let ⟨o',h1,h2,_⟩:=sm (Z':=Z) hl;hk.lt id o' x h1 ((h2 c x).1 hf),
  fun id id' o o' x hne h1 h2 hf hf'=>let ⟨p,a1,a2,_⟩:=sm (Z':=Z) h1;let ⟨q,b1,b2,_⟩:=sm (Z':=Z) h2;hk.sep id id' p q x hne a1 b1 ((a2 c x).1 hf) ((b2 c x).1 hf'),hk.aq⟩
 refine⟨(h .nilFunc .nilFunc).1,fun id hid=>?_,fun c w args aO hr=>?_⟩
 ·have:=(h .nilFunc .nilFunc).2.1 id hid;rw[p8] at this⊢;split<;>simp_all
 ·obtain⟨us,e1,e2⟩:=aO.rep b _ (j6 _ _ _);obtain⟨v0,vl,vq,vs,rfl,h0,hX,hY,e2⟩:=e2.c3;have hok':R4 c w ((b,.box (u0::.aV vl::.aV vq::cs) e)::need):=up aO fun us' h1 h2=>by
   rw[e1] at h2;have h3:us'=v0::vl::vq::vs:=by simpa using h2.symm
   subst h3;exact .cons h0 (.cons (.fz (.aV _)) (.cons (.fz (.aV _)) e2))
  refine((h vl vq).2.2 c w args hok' hr).mono fun ex w' ⟨v,c',he,hp,hrd⟩=>⟨v,c',he,?_,hrd⟩;have tc:∀x,Touch c ((b,.box (u0::.aV vl::.aV vq::cs) e)::need) ((b,.box (u1::.aV vl::.aV vq::cs') e)::upd) x->Touch c ((b,.box (u0::X::Y::cs) e)::need) ((b,.box (u1::X::Y::cs') e)::upd) x:=fun x ⟨id,o,h1,h2,h3⟩=>by
   obtain⟨o',a1,a2,_⟩:=sm (Z':=u0::X::Y::cs) h1;obtain⟨p,hp⟩:=Option.isSome_iff_exists.1 h2;obtain⟨p',b1,_⟩:=sm (Z':=u1::X::Y::cs') hp;exact⟨id,o',a1,by rw[b1];rfl,(a2 c x).1 h3⟩
  have nid:∀i,i∈X.ids\/i∈Y.ids->i ∉ news:=fun i hm u=>by
   have:=QP.1 hi i (QS.2 hm);simp[u] at this
  refine⟨hp.dB,hp.tape,hp.output,hp.size,hp.aq,fun x hx=>(hp.al x hx).imp (fun h=>h) fun h=>h.imp (fun h=>h) (tc x),fun x hx u=>hp.ad x hx fun ht=>u (tc x ht),hp.ctx,?_,fun id o x hl hf=>?_⟩
  ·refine up hp.aO fun us' h1 h2=>?_;obtain⟨_,_,_,_,rfl,g0,g1,g2,h1⟩:=h1.c3;rw[g1.jh,g2.jh];exact .cons g0 (.cons (Rd.post hp hok' hX fun id h1 h2=>nid id (.inl h2) h1) (.cons (Rd.post hp hok' hY fun id h1 h2=>nid id (.inr h2) h1) h1))
  ·obtain⟨o',a1,a2,_⟩:=sm (Z':=u1::.aV vl::.aV vq::cs') hl;exact(hp.ay id o' x a1 ((a2 c' x).1 hf)).imp (fun h=>h) (tc x)
def Sx{c:List Nat}{G R:Prop}(k:R)(a:iW R->Wz c G:=by
  intro q_;(repeat (first|refine z2 ?_|refine z3 u ?_|(refine z0 ?_;(repeat (first|refine zT (by with_reducible assumption) ?_|refine zF (by with_reducible assumption) ?_)))|refine z4 u ?_|refine z5 u ?_|refine z1 u ?_|refine z7 u ?_|refine z8 u D6 ?_|refine z6 ?_|refine Py rfl ?_|refine QA ?_|refine z9 u D6 ?_|refine z12 ?_|refine Pz ?_|refine z20 u ?_|refine QB ?_|refine QC ?_|refine QD G7 G7 ?_|refine z17 G7 G7 ?_|refine QE ?_|refine QF ?_));exact⟨q_.o⟩):Wz c G:=a ⟨k⟩
def S(c:List Nat){G R:Prop}(k:R)(a:iW R->Wz c G:=by intro q_;exact Sx q_.o):G:=(a ⟨k⟩).o
def Sj(c:List Nat){G R:Prop}(rl:List (Nat×Nat):=[])(a:iW R->Wz c G:=by intro q_;exact Sx q_.o)(b:Wz rl R:=by obtain rfl:=oI h;exact BP):G:=(a ⟨b.o⟩).o
def Sr(c:List Nat){G R:Prop}(rl:List (Nat×Nat):=[])(a:iW R->Wz c G:=by intro q_;exact Sx q_.o)(b:Wz rl R:=by obtain rfl:=oI h;(repeat (have e_:=oI g;clear g;subst e_));exact HD fm):G:=(a ⟨b.o⟩).o
def B(c:List Nat){G R:Prop}(k:R)(a:iW R->Wz c G:=by intro q_;refine Sx ?_;exact P2 h q_.o):G:=(a ⟨k⟩).o
def A(c:List Nat){G R:Prop}(k:R)(a:iW R->Wz c G:=by intro q_;refine Sx ?_;exact Pm h q_.o):G:=(a ⟨k⟩).o
def I(c:List Nat){G R R':Prop}(k:R)(k':R')(a:iW R->iW R'->Wz c G:=by intro p_ q_;refine Sx ?_;exact tR h p_.o q_.o):G:=(a ⟨k⟩ ⟨k'⟩).o
structure Pk(c:List Nat):Prop where
def Pj{c:List Nat}(_:Pk c){G R:Prop}(a:iW R->Wz c G:=by intro q_;exact Sx q_.o)(b:Wz ([]:List (Nat×Nat)) R:=by obtain rfl:=oI h;exact BP):G:=(a ⟨b.o⟩).o
def Pr{c:List Nat}(_:Pk c){G R:Prop}(a:iW R->Wz c G:=by intro q_;exact Sx q_.o)(b:Wz ([]:List (Nat×Nat)) R:=by obtain rfl:=oI h;(repeat (have e_:=oI g;clear g;subst e_));exact HD fm):G:=(a ⟨b.o⟩).o
def Ij(c d:List Nat){G R:Prop}(k:R)(a:Pk d->iW R->Wz c G:=by intro p_ q_;refine Sx ?_;refine tR h ?_ q_.o;intro _ h;exact Pj p_):G:=(a ⟨⟩ ⟨k⟩).o
def Ir(c d:List Nat){G R:Prop}(k:R)(a:Pk d->iW R->Wz c G:=by intro p_ q_;refine Sx ?_;refine tR h ?_ q_.o;intro _ h;exact Pr p_):G:=(a ⟨⟩ ⟨k⟩).o
def E9(c d e:List Nat){G:Prop}(a:Pk d->Pk e->Wz c G:=by intro p_ q_;refine Sx ?_;refine tR h ?_ ?_;intro _ h;exact Pj p_;intro _ h;exact Pj q_):G:=(a ⟨⟩ ⟨⟩).o
def gI(c d e:List Nat){G:Prop}(a:Pk d->Pk e->Wz c G:=by intro p_ q_;refine Sx ?_;refine tR h ?_ ?_;intro _ h;exact Pr p_;intro _ h;exact Pr q_):G:=(a ⟨⟩ ⟨⟩).o
end Go.Proofs.YtibjcppjfkamhaaGreatDoor
