import Derived.Shelf.Small.Bits
import Derived.Shelf.Strconv.Atoi
import Derived.Shelf.Strconv.Itoa0
import Derived.Shelf.Strconv.Itoa1
import Derived.Shelf.LaysM
import Derived.Shelf.Strconv.Itoa2
import Derived.Shelf.Strconv.Itoa3
import Derived.Shelf.Strconv.AtoiErrFast
import Derived.Shelf.Strconv.ParseIntEmpty
import Derived.Shelf.Strconv.AtoiFail
import Derived.Shelf.Strconv.Clone
import Derived.Shelf.Strconv.SyntaxError
import Derived.Shelf.LaysC
import Derived.Shelf.Strconv.ToError
import Derived.Shelf.Strconv.Lower
import Derived.Shelf.Strconv.ParseUint10
import Derived.Shelf.Strconv.ParseUint10Empty
import Derived.Shelf.Strconv.ParseUint10Any
import Derived.Shelf.Strconv.ParseInt10
import Derived.Shelf.Strconv.AtoiLong
import Derived.Shelf.Strconv.AtoiInnerAll
import Derived.Shelf.Strconv.RangeError
import Derived.Shelf.Strconv.ToErrorRange
import Derived.Shelf.Strconv.AtoiAll
import Derived.Shelf.Strconv.ErrVarAll
import Derived.Shelf.Strings.Search1
import Derived.Shelf.Strings.Search2
import Derived.Shelf.Strings.Cut
import Derived.Shelf.Strings.Shaped
import Derived.Lib.ItoaNum
import Derived.Lib.AtoiAll
import Derived.Lib.IndexMore
import Derived.Lib.ItoaLen
import Derived.Lib.Builder
import Derived.Lib.UnsafeStr
import Derived.Lib.Walk
import Derived.Laws.Externs
import Derived.Shelf.RegionOpenPlain
import Derived.Lib.AtoiAllCases
import Derived.Stop.LaidErr
import Derived.Shelf.Vars
import Derived.MakeChecks
import Derived.Lib.SliceRun
import Derived.Lib.AppendZerosOnto
import Derived.Lib.Overlaps
import Derived.Laws.IdiomCopy
import Derived.Laws.NewBlocks
import Derived.Shelf.Spec.SlicesInsert
import Derived.Shelf.SlSortCmp.SmallK
import Derived.Test.YtibjcppjfkamhaaGreatDoorB
set_option linter.unusedVariables false
set_option linter.defProp false
set_option linter.unusedSimpArgs false
namespace Go.Proofs.YtibjcppjfkamhaaGreatDoor
open Go.RowKit Go.Proofs.Tryz
open _root_.And renaming intro->AN
open _root_.Bool renaming and_eq_true->IT
open _root_.ByteArray renaming empty->BY
open _root_.Int renaming toNat_natCast->Mg
open _root_.List renaming getElem?_eq_getElem->IS,getElem?_eq_some_iff->ME,mem_cons->MG,replicate->MI,map->MJ,length_append->MK,length_cons->ML,all_eq_true->MR,map_cons->MS,mem_append->MT,mem_map->MU,append_assoc->MV,length_map->MW,getElem?_set->MY,getElem?_append_right->Ma,length_set->Mc,getElem?_eq_none->Md,mem_singleton->Mh,getElem?_map->Mj,eq_nil_of_length_eq_zero->Mk,getElem?_drop->Mm,ext_getElem?->Mn,getElem?_append_left->Mp,length_take->Mq,mem_cons_of_mem->Mr,length_nil->Ms,getElem?_take->Mu,getElem?_cons_succ->Mw,getElem?_cons_zero->My
open _root_.Nat renaming beq->AT,ble->IN,le_refl->It,blt->MX,le_of_ble_eq_true->MZ,zero_add->Mi,add_assoc->Mo
open _root_.Option renaming bind_some->A0,map_eq_some_iff->MM,map_some->Mf
open _root_.Or renaming inl->MF
section
variable {Γ:Z7}
def sN {c:Ctx} {x sh:Nat} {u v:Value} (h:x≠sh):((c.aN x u).aN sh v).hd x=u:=by simp[Ctx.aN,h]
def vH {c:Ctx} {x sh:Nat} {u v:Value}:((c.aN x u).aN sh v).hd sh=v:=by simp[Ctx.aN]
def nb {c:Ctx} {x sh i:Nat} {u v:Value} (a:i≠x) (b:i≠sh):((c.aN x u).aN sh v).hd i=c.hd i:=by simp[Ctx.aN,a,b]
theorem Gh.oH {ts:Ts} {os:Os} (id x g i off:Nat) {sz e sh isz ie:Nat} {f:bz} {l:List (List AV)} {q:Hs} {ls:List (List AV)} {X:List AV} (hid:lk os id=some (.deep sz e f l q sh)) (H:lk f off=some (isz,ie)) (hi:l[i]?=some X) (ho:X[off]?=some (.sl isz ls))
  (hno:fj q off=none) (s:AT id x=false) (z:AT id g=false) (B:AT x g=false) (hn4:(q.all fun p=>!Nat.beq p.2.2 x && !Nat.beq p.2.2 g)=true)
  (hf1:F5 [x,g] ts=true) (hf2:F4 [x,g] [(id,.deep sz e f l ((i,off,x)::q) g),(x,.row isz ls ie),(g,.aF)] os=true) :
  Gh Γ ts os (fun _:Unit=>ts) (fun _=>(id,.deep sz e f l ((i,off,x)::q) g)::(x,.row isz ls ie)::(g,.aF)::os):=by
 have s:=H7 s;have z:=H7 z;have B:=H7 B;have hh:∀j o y,(j,o,y)∈q->y≠x/\y≠g:=fun j o y O=>by
  have:=MR.1 hn4 _ O;simp only[IT,Bool.not_eq_true'] at this;exact⟨H7 this.1,H7 this.2⟩
 refine Gh.of (need:=[(id,.deep sz e f l q sh)]) (upd:=fun _=>[(id,.deep sz e f l ((i,off,x)::q) g),(x,.row isz ls ie),(g,.aF)]) (ex:=fun _=>[]) (news:=[x,g]) ⟨hid,trivial⟩ hf1 (fun _=>hf2) (fun _=>?_) fun c w aO _=>?_
 ·simp only[List.all_cons,List.all_nil,Bool.and_true,IT];exact⟨by rw[E8 _ _ s,j5];rfl,by rw[E8 _ _ z,E8 _ _ B,j5];rfl⟩
 obtain⟨css,p1,F,p3,p4⟩:=aO.rep id _ (j5 _ _ _);have E:css[i]?=some (css[i]'(by rw[F.len];exact(ME.1 hi).1)):=IS _;generalize css[i]'(by rw[F.len];exact(ME.1 hi).1)=us at E;have V:=(F.cell i us X E hi).1;have Y:us[off]?=some (us[off]'(by rw[V];exact(ME.1 ho).1)):=IS _;generalize us[off]'(by rw[V];exact(ME.1 ho).1)=u at Y;have U:¬eW q i off:=Cb hno i;obtain⟨M,Q,q2⟩:=F.inner i us X off isz ie u E hi H Y U;have hls:M=ls:=by rw[ho] at Q;injection Q with Q;injection Q with _ Q;exact Q.symm
 subst hls;have K:bN css f q i off u:=⟨us,_,E,H,Y,U⟩;obtain⟨L,hL⟩:=xa css f ((i,off,x)::q);have m:∀{j o v},bN css f ((i,off,x)::q) j o v->bN css f q j o v/\¬(j=i/\o=off):=fun {j o v} ⟨us',p,a,b,d,hq⟩=>⟨⟨us',p,a,b,d,fun⟨y,hy⟩=>hq ⟨y,Mr _ hy⟩⟩,fun⟨e1,e2⟩=>hq ⟨x,by rw[e1,e2];simp⟩⟩;have r:∀b,aW c id (.deep sz e f l q sh) b->Touch c [(id,.deep sz e f l q sh)] [(id,.deep sz e f l ((i,off,x)::q) g),(x,.row isz M ie),(g,.aF)] b:=fun b G=>⟨id,_,j5 _ _ _,by rw[j5];rfl,G⟩;have I:∀{j o v b},bN css f q j o v->v.ownBlock=some b->aW c id (.deep sz e f l q sh) b:=fun {j o v b} C G=>.inr ⟨v,(p3 v).2 ⟨j,o,C⟩,G⟩;refine⟨(),(c.aN x u).aN g (.tuple L.toArray),aS.mk' aO rfl rfl rfl rfl (It _) (fun _ _ _=>rfl) (fun k hk=>⟨rfl,nb (by rintro rfl;simp at hk) (by rintro rfl;simp at hk)⟩) (fun k o hl=>?_) (fun k o b hl D=>?_) (fun k k' o o' b hne hl hl' D J=>?_),fun t y h=>by cases h⟩
 ·rcases bP hl with⟨rfl,rfl⟩|⟨_,rfl,rfl⟩|⟨_,_,rfl,rfl⟩
  ·refine⟨css,by rw[nb s z];exact p1,⟨F.len,F.cell,fun j us' Z o W ie' u' R S a3 a4 a5=>F.inner j us' Z o W ie' u' R S a3 a4 fun⟨y,hy⟩=>a5 ⟨y,Mr _ hy⟩,fun j o y us' u' O R S=>?_,fun j o v j' o' v' b N T=>F.apart j o v j' o' v' b (m N).1 (m T).1⟩,fun v=>by rw[vH,nX];exact hL v,fun j o v b C G=>p4 j o v b (m C).1 (by rwa [nb s z] at G)⟩;rcases MG.1 O with e'|O
   ·cases e';rw[E] at R;cases R;rw[Y] at S;cases S;obtain⟨h,e1,_,e2,e3⟩:=O7.zH q2;exact⟨(sN B).symm,h.A,h.n,h.c,e1,e2,e3⟩
   ·have:=hh j o y O;rw[nb this.1 this.2];exact F.hole j o y us' u' O R S
  ·show O7 c.Φ w (((c.aN k u).aN g (.tuple L.toArray)).hd k) isz M ie;rw[sN B];exact q2
  ·trivial
 ·rcases bP hl with⟨rfl,rfl⟩|⟨_,rfl,rfl⟩|⟨_,_,rfl,rfl⟩
  ·rcases D with D|⟨v,C,G⟩
   ·rw[nb s z] at D;exact .inr (r b (.inl D))
   ·rw[vH,nX] at C;obtain⟨j,o,C⟩:=(hL v).1 C;exact .inr (r b (I (m C).1 G))
  ·have D:(((c.aN k u).aN g (.tuple L.toArray)).hd k).ownBlock=some b:=D;rw[sN B] at D;exact .inr (r b (I K D))
  ·exact D.elim
 ·have key:∀b,aW ((c.aN x u).aN g (.tuple L.toArray)) id (.deep sz e f l ((i,off,x)::q) g) b->(((c.aN x u).aN g (.tuple L.toArray)).hd x).ownBlock=some b->False:=fun b N T=>by
   rw[sN B] at T;rcases N with N|⟨v,C,G⟩
   ·rw[nb s z] at N;exact p4 i off u b K N T
   ·rw[vH,nX] at C;obtain⟨j,o,C⟩:=(hL v).1 C;exact(m C).2 (F.apart j o v i off u b (m C).1 K G T)
  rcases bP hl with⟨rfl,rfl⟩|⟨_,rfl,rfl⟩|⟨_,_,rfl,rfl⟩<;>rcases bP hl' with⟨rfl,rfl⟩|⟨_,rfl,rfl⟩|⟨_,_,rfl,rfl⟩<;>first|exact hne rfl|exact D.elim|exact J.elim|exact key b D J|exact key b J D
theorem Gh.attach {ts:Ts} {os:Os} (id y g i off:Nat) {sz e sh isz ie:Nat} {f:bz} {l l':List (List AV)} {n:Hs} {ls:List (List AV)} {M:List AV} (hid:lk os id=some (.deep sz e f l n sh)) (hy:lk os y=some (.row isz ls ie)) (H:lk f off=some (isz,ie)) (hi:l[i]?=some M)
  (ad:fj n off=some (i,y)) (hu:nv n=true) (X:l'=l.set i (M.set off (.sl isz ls))) (A:AT id y=false) (r:AT id g=false) (O:AT y g=false) (hn4:(n.all fun p=>!Nat.beq p.2.2 g)=true)
  (hf1:F5 [g] ts=true) (hf2:F4 [g] [(id,.deep sz e f l' (eD n off) g),(y,.aF),(g,.aF)] os=true) :
  Gh Γ ts os (fun _:Unit=>ts) (fun _=>(id,.deep sz e f l' (eD n off) g)::(y,.aF)::(g,.aF)::os):=by
 have A:=H7 A;have r:=H7 r;have O:=H7 O;have hh:∀j o z,(j,o,z)∈n->z≠g:=fun j o z hm=>by
  have:=MR.1 hn4 _ hm;simp only[Bool.not_eq_true'] at this;exact H7 this
 refine Gh.of (need:=[(id,.deep sz e f l n sh),(y,.row isz ls ie)]) (upd:=fun _=>[(id,.deep sz e f l' (eD n off) g),(y,.aF),(g,.aF)]) (ex:=fun _=>[]) (news:=[g]) ⟨hid,hy,trivial⟩ hf1 (fun _=>hf2) (fun _=>?_) fun c w aO _=>?_
 ·simp only[List.all_cons,List.all_nil,Bool.and_true];rw[E8 _ _ r,E8 _ _ O,j5];rfl
 have g1:lk [(id,Obj.deep sz e f l n sh),(y,.row isz ls ie)] id=some (.deep sz e f l n sh):=j5 _ _ _;have g2:lk [(id,Obj.deep sz e f l n sh),(y,.row isz ls ie)] y=some (.row isz ls ie):=by rw[E8 _ _ A,j5]
 obtain⟨css,p1,D,p3,p4⟩:=aO.rep id _ g1;have ry:O7 c.Φ w (c.hd y) isz ls ie:=aO.rep y _ g2;have W:i<l.length:=(ME.1 hi).1;have q:css[i]?=some (css[i]'(by rw[D.len];exact W)):=IS _;generalize css[i]'(by rw[D.len];exact W)=us at q;obtain⟨L,hL⟩:=xa css f (eD n off);have N:∀k m,l'[k]?=some m->(k=i/\m=M.set off (.sl isz ls))\/(k≠i/\l[k]?=some m):=fun k m h=>by
  rw[X,MY] at h;split at h
  ·rename_i e1;subst e1;cases h;exact .inl ⟨rfl,rfl⟩
  ·rename_i e1;exact .inr ⟨fun h'=>e1 h'.symm,h⟩
 have F:∀{j o v},bN css f (eD n off) j o v->(j=i/\o=off/\v=c.hd y)\/(bN css f n j o v/\¬(j=i/\o=off)):=fun {j o v} ⟨us',p,a,b,d,hq⟩=>by
  by_cases e1:j=i/\o=off
  ·obtain⟨rfl,rfl⟩:=e1;exact .inl ⟨rfl,rfl,(D.hole j o y us' v (xk ad) a d).1⟩
  ·refine .inr ⟨⟨us',p,a,b,d,fun⟨z,hz⟩=>?_⟩,e1⟩;by_cases e2:o=off
   ·subst e2;exact e1 ⟨(CV hu ad hz).1,rfl⟩
   ·exact hq ⟨z,nW.2 ⟨hz,e2⟩⟩
 have T1:∀b,aW c id (.deep sz e f l n sh) b->Touch c [(id,.deep sz e f l n sh),(y,.row isz ls ie)] [(id,.deep sz e f l' (eD n off) g),(y,.aF),(g,.aF)] b:=fun b x=>⟨id,_,g1,by rw[j5];rfl,x⟩;have T2:∀b,(c.hd y).ownBlock=some b->Touch c [(id,.deep sz e f l n sh),(y,.row isz ls ie)] [(id,.deep sz e f l' (eD n off) g),(y,.aF),(g,.aF)] b:=fun b x=>⟨y,_,g2,by rw[E8 _ _ A,j5];rfl,x⟩;have C:∀{j o v b},bN css f n j o v->v.ownBlock=some b->aW c id (.deep sz e f l n sh) b:=fun {j o v b} J x=>.inr ⟨v,(p3 v).2 ⟨j,o,J⟩,x⟩;have E:∀b,aW c id (.deep sz e f l n sh) b->(c.hd y).ownBlock=some b->False:=fun b V h2=>aO.sep id y _ _ b A g1 g2 V h2;have B:∀z,z≠g->(c.aN g (.tuple L.toArray)).hd z=c.hd z:=fun z hz=>by simp[Ctx.aN,hz]
 have Z:(c.aN g (.tuple L.toArray)).hd g=.tuple L.toArray:=by simp[Ctx.aN]
 refine⟨(),c.aN g (.tuple L.toArray),aS.mk' aO rfl rfl rfl rfl (It _) (fun _ _ _=>rfl) (fun k hk=>⟨rfl,B k (by rintro rfl;simp at hk)⟩) (fun k o hl=>?_) (fun k o b hl I=>?_) (fun k k' o o' b Q hl hl' I hf'=>?_),fun t y h=>by cases h⟩
 ·rcases bP hl with⟨rfl,rfl⟩|⟨_,rfl,rfl⟩|⟨_,_,rfl,rfl⟩
  ·refine⟨css,by rw[B k r];exact p1,⟨by rw[D.len,X,Mc],fun j us' m s G=>?_,fun j us' m o K ie' u' s G T a4 a5=>?_,fun j o z us' u' hm s G=>?_,fun j o v j' o' v' b V h2 U R=>?_⟩,fun v=>by rw[Z,nX];exact hL v,fun j o v b J x hvb=>?_⟩
   ·rcases N j m G with⟨rfl,rfl⟩|⟨_,G⟩
    ·rw[q] at s;cases s;have old:=D.cell j us M q hi;refine⟨by simpa using old.1,fun o u a U R hn=>?_⟩;have:o≠off:=fun e1=>by rw[e1,H] at hn;cases hn
     rw[List.getElem?_set_ne (fun e1=>this e1.symm)] at R;exact old.2 o u a U R hn
    ·exact D.cell j us' m s G
   ·rcases F (j:=j) (o:=o) (v:=u') ⟨us',_,s,T,a4,a5⟩ with⟨rfl,rfl,rfl⟩|⟨⟨us2,p,c1,c2,c3,c4⟩,Q⟩
    ·rw[H] at T;cases T;rcases N j m G with⟨_,rfl⟩|⟨h',_⟩
     ·refine⟨ls,?_,ry⟩;have:o<M.length:=by
       have V:=(D.cell j us M q hi).1;rw[q] at s;cases s;rw[<-V];exact(ME.1 a4).1
      rw[List.getElem?_set_self this]
     ·exact absurd rfl h'
    ·rcases N j m G with⟨rfl,rfl⟩|⟨_,G⟩
     ·have:o≠off:=fun e1=>Q ⟨rfl,e1⟩;rw[q] at s;cases s;rw[List.getElem?_set_ne (fun e1=>this e1.symm)];exact D.inner j us M o K ie' u' q hi T a4 c4
     ·exact D.inner j us' m o K ie' u' s G T a4 c4
   ·have Y:=nW.1 hm;rw[B z (hh j o z Y.1)];exact D.hole j o z us' u' Y.1 s G
   ·rcases F V with⟨rfl,rfl,rfl⟩|⟨S,n1⟩<;>rcases F h2 with⟨rfl,rfl,rfl⟩|⟨q2,n2⟩
    ·exact⟨rfl,rfl⟩
    ·exact(E b (C q2 R) U).elim
    ·exact(E b (C S U) R).elim
    ·exact D.apart j o v j' o' v' b S q2 U R
   ·rw[B k r] at x;rcases F J with⟨rfl,rfl,rfl⟩|⟨S,_⟩
    ·exact E b (.inl x) hvb
    ·exact p4 j o v b S x hvb
  ·trivial
  ·trivial
 ·rcases bP hl with⟨rfl,rfl⟩|⟨_,rfl,rfl⟩|⟨_,_,rfl,rfl⟩
  ·rcases I with I|⟨v,J,x⟩
   ·rw[B k r] at I;exact .inr (T1 b (.inl I))
   ·rw[Z,nX] at J;obtain⟨j,o,J⟩:=(hL v).1 J;rcases F J with⟨_,_,rfl⟩|⟨S,_⟩
    ·exact .inr (T2 b x)
    ·exact .inr (T1 b (C S x))
  ·exact I.elim
  ·exact I.elim
 ·rcases bP hl with⟨rfl,rfl⟩|⟨_,rfl,rfl⟩|⟨_,_,rfl,rfl⟩<;>rcases bP hl' with⟨rfl,rfl⟩|⟨_,rfl,rfl⟩|⟨_,_,rfl,rfl⟩<;>first|exact Q rfl|exact I.elim|exact hf'.elim
end
section
variable {Γ:Z7} {P:Program}
theorem E5.jF {ts:Ts} {os:Os} (id:Nat) {sz:Nat} {ls:List (List AV)} {ob:Obj} (B:lk os id=some ob) (W:∀(c:Ctx) (w:World) (v:Value) (g:Os),Q5 c w g->lk g id=some ob->Rd c w v (.aK id)->Rd (c.fz g) w v (.sl sz ls)) {a:Act} {w:World} (E:E5 Γ ts os a w):E5 Γ (kZ id sz ls ts) ((id,.aF)::jB id sz ls os) a w:=by
 obtain⟨e,⟨M,N,O,z,Q⟩,R⟩:=E;have f:∀i o,lk [(id,ob)] i=some o->lk os i=some o:=fun i o hl=>by
  rw[l8] at hl;split at hl
  ·rename_i e1;subst e1;cases hl;exact B
  ·cases hl
 have m:=z.sub f;have J:=aS.freeze m;have l:Q5 (e.fz [(id,ob)]) w (I7 [(id,ob)]++os):=z.frame f J (fun _ h=>(by cases h)) (fun _ _ _ _ _ h=>(by cases h));have I:∀v a,Rd e w v a->Rd (e.fz [(id,ob)]) w v a:=fun v a E=>Rd.mono (c:=e) (c':=e.fz [(id,ob)]) (fun _ _=>rfl) (fun _ h=>MF h) (fun _ _=>⟨rfl,rfl⟩) E;have H:∀v,Rd e w v (.aK id)->Rd (e.fz [(id,ob)]) w v (.sl sz ls):=fun v T=>W e w v _ m (j5 _ _ _) T;have j:∀i o,lk ((id,Obj.aF)::jB id sz ls os) i=some o->∃k,lk (I7 [(id,ob)]++os) i=some k/\(∀b,aW (e.fz [(id,ob)]) i o b↔aW (e.fz [(id,ob)]) i k b)/\dH (e.fz [(id,ob)]) w i o:=fun i o hl=>by
  have S:=hl;rw[l8] at hl;split at hl
  ·rename_i e1;subst e1;cases hl;exact⟨.aF,by simp[I7,j5],fun _=>Iff.rfl,trivial⟩
  ·rename_i e1;rw[yY] at hl;obtain⟨k,r,rfl⟩:=MM.1 hl;have q:lk (I7 [(id,ob)]++os) i=some k:=by simp only[I7,List.cons_append,List.nil_append];rw[E8 _ _ e1];exact r
   have s:=l.rep i k q;refine⟨k,q,fun b=>?_,?_⟩
   ·cases k<;>exact Iff.rfl
   ·cases k with
    |box L e2 =>
     obtain⟨us,F,G⟩:=z.rep i _ r;exact⟨us,F,w9.cW I H L G⟩
    |_=>exact s
 refine⟨e.fz [(id,ob)],⟨M,N,fun t x hl=>?_,⟨fun i o hl=>?_,fun i o b hl p=>?_,fun i K o k b D hl C p A=>?_,l.aq⟩,?_⟩,R⟩
 ·rw[wj] at hl;obtain⟨y,V,rfl⟩:=MM.1 hl;obtain⟨v,F,G⟩:=O t y V;exact⟨v,F,Rd.kc I H y G⟩
 ·obtain⟨_,_,_,h⟩:=j i o hl;exact h
 ·obtain⟨u,g1,n,_⟩:=j i o hl;exact l.lt i u b g1 ((n b).1 p)
 ·obtain⟨u,g1,n,_⟩:=j i o hl;obtain⟨Z,X,Y,_⟩:=j K k C;exact l.sep i K u Z b D g1 X ((n b).1 p) ((Y b).1 A)
 ·have d:Inv Γ (e.fz [(id,ob)]) w (I7 [(id,ob)]++os):=Q.post z f J (fun _ h=>(by cases h)) (fun _ _ _ _ x U=>(by cases U));exact⟨d.cX,d.tape,d.output,d.size,d.aq,d.ak,d.ab,fun i o b hl p=>by
   obtain⟨u,g1,n,_⟩:=j i o hl;exact d.az i u b g1 ((n b).1 p)⟩
theorem j6.ay {c:Code} {ts:Ts} {os:Os} {Q:Qt} (id:Nat) {sz e sh:Nat} {b:bz} {l:List (List AV)} (d:lk os id=some (.deep sz e b l [] sh)) (h:j6 P Γ c (kZ id sz l ts) ((id,.aF)::jB id sz l os) Q):j6 P Γ c ts os Q :=
 ⟨fun a w f=>h.run a w (f.jF id d fun _ _ _ _ aO g f=>vV aO g f)⟩
theorem X6.ay {ts:Ts} {os:Os} {Q:Qt} (id:Nat) {sz e sh:Nat} {b:bz} {l:List (List AV)} (c:lk os id=some (.deep sz e b l [] sh)) (h:X6 Γ (kZ id sz l ts) ((id,.aF)::jB id sz l os) Q):X6 Γ ts os Q :=
 ⟨fun a w d=>h.run a w (d.jF id c fun _ _ _ _ aO f d=>vV aO f d)⟩
theorem Gh.oa {ts:Ts} {os:Os} (id sh:Nat) (a:bz) {sz e:Nat} (n:lk os id=some (.row sz [] e)) (d:AT id sh=false) (l:F5 [sh] ts=true) (m:F4 [sh] [(id,.deep sz e a [] [] sh),(sh,.aF)] os=true) :
  Gh Γ ts os (fun _:Unit=>ts) (fun _=>(id,.deep sz e a [] [] sh)::(sh,.aF)::os):=by
 have d:=H7 d;refine Gh.of (need:=[(id,.row sz [] e)]) (upd:=fun _=>[(id,.deep sz e a [] [] sh),(sh,.aF)]) (ex:=fun _=>[]) (news:=[sh]) ⟨n,trivial⟩ l (fun _=>m) (fun _=>?_) fun c w aO _=>?_
 ·simp only[List.all_cons,List.all_nil,Bool.and_true];rw[E8 _ _ d,j5];rfl
 obtain⟨css,G,H,L⟩:=aO.rep id _ (j5 _ _ _);have g:css=[]:=Mk (by simpa using H);subst g;have z:(c.aN sh (.tuple #[])).hd id=c.hd id:=by simp[Ctx.aN,d]
 have A:(c.aN sh (.tuple #[])).hd sh=.tuple #[]:=by simp[Ctx.aN]
 have s:∀{i off v},¬bN [] a [] i off v:=fun {i off v} ⟨us,p,h,_⟩=>by simp at h
 refine⟨(),c.aN sh (.tuple #[]),aS.mk' aO rfl rfl rfl rfl (It _) (fun _ _ _=>rfl) (fun k E=>⟨rfl,by have:k≠sh:=(by rintro rfl;simp at E);simp[Ctx.aN,this]⟩) (fun k o hl=>?_) (fun k o b hl f=>?_) (fun k J o K b r hl q f j=>?_),fun t y h=>by cases h⟩
 ·rcases cg hl with⟨rfl,rfl⟩|⟨_,rfl,rfl⟩
  ·refine⟨[],by rw[z];exact G,⟨rfl,fun i us D h=>by simp at h,fun i us D off isz ie u h=>by simp at h,fun i off x us u F=>(by cases F),fun i off v I C M b h=>(s h).elim⟩,fun v=>by rw[A];exact⟨fun h=>by simp[eZ] at h,fun⟨i,off,h⟩=>(s h).elim⟩,fun i off v b h=>(s h).elim⟩
  ·trivial
 ·rcases cg hl with⟨rfl,rfl⟩|⟨_,rfl,rfl⟩
  ·rcases f with f|⟨v,B,_⟩
   ·rw[z] at f;exact .inr ⟨k,_,j5 _ _ _,by rw[j5];rfl,f⟩
   ·rw[A] at B;simp[eZ] at B
  ·exact f.elim
 ·rcases cg hl with⟨rfl,rfl⟩|⟨_,rfl,rfl⟩<;>rcases cg q with⟨rfl,rfl⟩|⟨_,rfl,rfl⟩<;>first|exact r rfl|exact f.elim|exact j.elim
end
theorem Gh.tt {Γ:Z7} {ts:Ts} {os:Os} (b off j g m:Nat) {p:List AV} {q sz e sh:Nat} {f:bz} {l:List (List AV)} (Z:lk os b=some (.box p q)) (ad:p[off]?=some (.aK j)) (hj:lk os j=some (.deep sz e f l [] sh)) (hi:(AV.au p).all (fun i=>!Nat.beq i g && !Nat.beq i m)=true)
  (s:AT b j=false) (D:AT b g=false) (E:AT j g=false) (F:AT b m=false) (G:AT j m=false) (z:AT g m=false)
  (K:F5 [g,m] ts=true) (L:F4 [g,m] [(b,.box (p.set off (.aK g)) q),(g,.deep sz e f l [] m),(m,.aF),(j,.aF)] os=true) :
  Gh Γ ts os (fun _:Unit=>ts) (fun _=>(b,.box (p.set off (.aK g)) q)::(g,.deep sz e f l [] m)::(m,.aF)::(j,.aF)::os):=by
 have s:=H7 s;have D:=H7 D;have E:=H7 E;have F:=H7 F;have G:=H7 G;have z:=H7 z;refine Gh.of (need:=[(b,.box p q),(j,.deep sz e f l [] sh)]) (upd:=fun _=>[(b,.box (p.set off (.aK g)) q),(g,.deep sz e f l [] m),(m,.aF),(j,.aF)]) (ex:=fun _=>[]) (news:=[g,m]) ⟨Z,hj,trivial⟩ K (fun _=>L) (fun _=>?_) fun c w aO _=>?_
 ·simp only[List.all_cons,List.all_nil,Bool.and_true,IT];exact⟨by rw[E8 _ _ D,j5];rfl,by rw[E8 _ _ F,E8 _ _ z,j5];rfl⟩
 have R:lk [(b,Obj.box p q),(j,.deep sz e f l [] sh)] b=some (.box p q):=j5 _ _ _;have S:lk [(b,Obj.box p q),(j,.deep sz e f l [] sh)] j=some (.deep sz e f l [] sh):=by rw[E8 _ _ s,j5]
 obtain⟨us,u1,V⟩:=aO.rep b _ R;obtain⟨css,p1,I,p3,p4⟩:=aO.rep j _ S;have e1:((c.aN g (c.hd j)).aN m (c.hd sh)).hd g=c.hd j:=sN z;have T:((c.aN g (c.hd j)).aN m (c.hd sh)).hd m=c.hd sh:=vH;have r:∀{k o},lk [(b,Obj.box (p.set off (.aK g)) q),(g,.deep sz e f l [] m),(m,.aF),(j,.aF)] k=some o->(k=b/\o=.box (p.set off (.aK g)) q)\/(k=g/\o=.deep sz e f l [] m)\/o=.aF:=fun {k o} h=>by
  rw[l8] at h;split at h
  ·rename_i e;subst e;cases h;exact .inl ⟨rfl,rfl⟩
  rw[l8] at h;split at h
  ·rename_i e;subst e;cases h;exact .inr (.inl ⟨rfl,rfl⟩)
  rw[l8] at h;split at h
  ·cases h;exact .inr (.inr rfl)
  rw[l8] at h;split at h
  ·cases h;exact .inr (.inr rfl)
  ·cases h
 have W:∀d,aW c b (.box p q) d->Touch c [(b,.box p q),(j,.deep sz e f l [] sh)] [(b,.box (p.set off (.aK g)) q),(g,.deep sz e f l [] m),(m,.aF),(j,.aF)] d:=fun d hd=>⟨b,_,R,by rw[j5];rfl,hd⟩;have X:∀d,aW c j (.deep sz e f l [] sh) d->Touch c [(b,.box p q),(j,.deep sz e f l [] sh)] [(b,.box (p.set off (.aK g)) q),(g,.deep sz e f l [] m),(m,.aF),(j,.aF)] d:=fun d hd=>⟨j,_,S,by rw[E8 _ _ s,E8 _ _ (Ne.symm E),E8 _ _ (Ne.symm G),j5];rfl,hd⟩;have J:∀d,aW ((c.aN g (c.hd j)).aN m (c.hd sh)) g (.deep sz e f l [] m) d->aW c j (.deep sz e f l [] sh) d:=fun d hd=>by
  rcases hd with hd|⟨v,H,O⟩
  ·rw[e1] at hd;exact .inl hd
  ·rw[T] at H;exact .inr ⟨v,H,O⟩
 refine⟨(),(c.aN g (c.hd j)).aN m (c.hd sh),aS.mk' aO rfl rfl rfl rfl (It _) (fun _ _ _=>rfl) (fun k U=>⟨rfl,nb (by rintro rfl;simp at U) (by rintro rfl;simp at U)⟩) (fun k o hl=>?_) (fun k o d hl B=>?_) (fun k k' o o' d N hl M B C=>?_),fun t y h=>by cases h⟩
 ·rcases r hl with⟨rfl,rfl⟩|⟨rfl,rfl⟩|rfl
  ·refine⟨us,u1,?_⟩;obtain⟨v,v1,v2⟩:=V.get ad;have i1:(AV.au p).all (fun i=>!Nat.beq i g)=true:=by
    rw[MR] at hi⊢;intro x Q;have:=hi x Q;simp only[IT] at this;exact this.1
   have i2:(AV.au p).all (fun i=>!Nat.beq i m)=true:=by
    rw[MR] at hi⊢;intro x Q;have:=hi x Q;simp only[IT] at this;exact this.2
   have u3:=(V.aN (v:=c.hd j) i1).aN (v:=c.hd sh) i2;obtain⟨A,n,cap,q1,q2,q3,q4⟩:=v2.bF;have:=u3.set off (v:=v) (a:=.aK g) (by rw[q1];exact .aK (by rw[e1,q2]) q3 q4)
   rwa [cL v1] at this
  ·refine⟨css,by rw[e1];exact p1,⟨I.len,I.cell,I.inner,fun i off x us u hm=>(by cases hm),I.apart⟩,fun v=>by rw[T];exact p3 v,fun i off v d H hd=>p4 i off v d H (by rwa [e1] at hd)⟩
  ·trivial
 ·rcases r hl with⟨rfl,rfl⟩|⟨rfl,rfl⟩|rfl
  ·exact .inr (W d B)
  ·exact .inr (X d (J d B))
  ·exact B.elim
 ·have apart:∀d,aW c j (.deep sz e f l [] sh) d->d=c.μ b->False:=fun d h Y=>aO.sep j b _ _ d (Ne.symm s) S R h Y;rcases r hl with⟨rfl,rfl⟩|⟨rfl,rfl⟩|rfl<;>rcases r M with⟨rfl,rfl⟩|⟨rfl,rfl⟩|rfl<;>first|exact N rfl|exact B.elim|exact C.elim|exact apart d (J d B) C|exact apart d (J d C) B
theorem Gh.zJ {Γ:Z7} {ts:Ts} {os:Os} (id a:Nat) {sz e sh:Nat} {b:bz} {l:List (List AV)} (r:lk os id=some (.deep sz e b l [] sh)) (f:AT id a=false) (p:F5 [a] ts=true) (q:F4 [a] [(id,.deep sz e b l [] a),(a,.aF)] os=true) :
  Gh Γ ts os (fun _:Unit=>ts) (fun _=>(id,.deep sz e b l [] a)::(a,.aF)::os):=by
 have f:=H7 f;refine Gh.of (need:=[(id,.deep sz e b l [] sh)]) (upd:=fun _=>[(id,.deep sz e b l [] a),(a,.aF)]) (ex:=fun _=>[]) (news:=[a]) ⟨r,trivial⟩ p (fun _=>q) (fun _=>?_) fun c w aO _=>?_
 ·simp only[List.all_cons,List.all_nil,Bool.and_true];rw[E8 _ _ f,j5];rfl
 have g1:lk [(id,Obj.deep sz e b l [] sh)] id=some (.deep sz e b l [] sh):=j5 _ _ _;obtain⟨css,F,m,G,H⟩:=aO.rep id _ g1;have e1:(c.aN a (c.hd sh)).hd id=c.hd id:=by simp[Ctx.aN,f]
 have B:(c.aN a (c.hd sh)).hd a=c.hd sh:=by simp[Ctx.aN]
 have C:∀d,aW (c.aN a (c.hd sh)) id (.deep sz e b l [] a) d->aW c id (.deep sz e b l [] sh) d:=fun d hd=>by
  rcases hd with hd|⟨v,j,A⟩
  ·rw[e1] at hd;exact .inl hd
  ·rw[B] at j;exact .inr ⟨v,j,A⟩
 refine⟨(),c.aN a (c.hd sh),aS.mk' aO rfl rfl rfl rfl (It _) (fun _ _ _=>rfl) (fun k D=>⟨rfl,by have:k≠a:=(by rintro rfl;simp at D);simp[Ctx.aN,this]⟩) (fun k o hl=>?_) (fun k o d hl g=>?_) (fun k I o J d z hl s g n=>?_),fun t y h=>by cases h⟩
 ·rcases cg hl with⟨rfl,rfl⟩|⟨_,rfl,rfl⟩
  ·exact⟨css,by rw[e1];exact F,⟨m.len,m.cell,m.inner,fun i off x us u E=>(by cases E),m.apart⟩,fun v=>by rw[B];exact G v,fun i off v d j hd=>H i off v d j (by rwa [e1] at hd)⟩
  ·trivial
 ·rcases cg hl with⟨rfl,rfl⟩|⟨_,rfl,rfl⟩
  ·exact .inr ⟨k,_,g1,by rw[j5];rfl,C d g⟩
  ·exact g.elim
 ·rcases cg hl with⟨rfl,rfl⟩|⟨_,rfl,rfl⟩<;>rcases cg s with⟨rfl,rfl⟩|⟨_,rfl,rfl⟩<;>first|exact z rfl|exact g.elim|exact n.elim
section
variable {α:Type} {enc:α->List AV}
def ET {l:List α} {i:Nat} {x:α} (h:l[i]?=some x):i<(l.map enc).length:=by
 rw[MW];exact(ME.1 h).1
def uI {l:List α} {i:Nat} {x:α} (h:l[i]?=some x):(l.map enc)[i]?=some (enc x):=by rw[Mj,h];rfl
def Lo {l:List α} {i:Int} {x:α} (h:j4 l i=some x) {X Y K:Prop} (a:X) (b:Y) (H:K):X/\Y/\0<=i/\i<((l.map enc).length:Int)/\K :=
 ⟨a,b,bT h H⟩
def d11 {l:List α} {i:Nat} {x:α} (h:l[i]?=some x) {A B C D K:Prop} (a:A) (b:B) (c:C) (d:D) (H:K):A/\B/\i<(l.map enc).length/\C/\D/\K:=⟨a,b,ET h,c,d,H⟩
def Kp {l:List α} {i:Nat} {x:α} (h:l[i]?=some x) {A B D K:Prop} (a:A) (b:B) (d:D) (H:K):A/\B/\i<(l.map enc).length/\D/\K:=⟨a,b,ET h,d,H⟩
def Lu {l:List α} {i:Nat} {x:α} (h:l[i]?=some x) {A B C:Prop} (a:A) (b:B) (c:C) {K:List AV->Prop} (H:K (enc x)):A/\B/\C/\i<(l.map enc).length/\∀d,(l.map enc)[i]?=some d->K d :=
 ⟨a,b,c,V8 h H⟩
def EG {l:List α} {i:Nat} {b:α} {a:List AV} (h:a=enc b):(l.set i b).map enc=(l.map enc).set i a:=by rw[h,List.map_set]
def JR {l:List α} {i:Nat} {x:α} (h:l[i]?=some x) {a:List AV} (b:a=enc x):l.map enc=(l.map enc).set i a:=by
 rw[b];exact(cL (uI h)).symm
def setAt {l:List α} {i:Nat} {x y:α} (h:l[i]?=some x):(l.set i y)[i]?=some y:=List.getElem?_set_self (ME.1 h).1
def Hr {h l2:List α} {B:Nat} (k:IN ((h.length+l2.length)*B) 140737488355328=true) {a b c d e f g:Prop} (j:a) (i:b) (l:c) (hd:d) (m:e) (n:f) (o:g) {K:List (List AV)->Prop} (H:K ((h++l2).map enc)) :
  a/\b/\c/\d/\e/\f/\g/\((h.map enc).length+(l2.map enc).length)*B<=140737488355328/\∀q,q=h.map enc++l2.map enc->K q :=
 ⟨j,i,l,hd,m,n,o,by rw[MW,MW];exact MZ k,fun q e=>by rw[e,<-List.map_append];exact H⟩
end
def EF {α a:Type} {o:Option α} {A:Option a} {B:α->Option a} {r:a} (h:o.elim A B=some r):(o=none/\A=some r)\/∃x,o=some x/\B x=some r:=by
 cases o with
 |none=>exact .inl ⟨rfl,h⟩
 |some x=>exact .inr ⟨x,rfl,h⟩
def d42 {e:Nat} (l:List V):qK (.row 2 (l.map eV) e):=fun a h=>by
 obtain⟨x,_,rfl⟩:=MU.1 h;rfl
def LD {e g:Nat} {f:Hs} {sh:Nat} (l:List Ob):qK (.deep 2 e [(1,(2,g))] (l.map hF) f sh):=fun i h off a b=>by
 obtain⟨x,_,rfl⟩:=MU.1 h;cases off with
 |zero=>simp only[hF,My] at b;cases b;rfl
 |succ off =>
  cases off with
  |zero =>
   simp only[hF,Mw,My] at b;cases b;exact⟨2,_,rfl,fun c d=>by obtain⟨y,_,rfl⟩:=MU.1 d;rfl⟩
  |succ off=>simp[hF] at b
theorem Spec.drop1 {P:Program} {f:Nat} {need upd:Os} {av:AV} {news:List Nat} {α:Type} {enc:α->List AV} {l:List α} {n sz:Nat} (h:Spec P f need [.sl sz (MJ enc (l.drop n))] av upd news):Spec P f need [.sl sz ((MJ enc l).drop n)] av upd news:=by
 rw[<-List.map_drop];exact h
theorem Gh.drop {Γ:Z7} {ts:Ts} {os:Os} (id:Nat) {o:Obj} (d:lk os id=some o):Gh Γ ts os (fun _:Unit=>ts) (fun _=>(id,.aF)::os) :=
 Gh.of (need:=[(id,o)]) (upd:=fun _=>[(id,.aF)]) (ex:=fun _=>[]) (news:=[]) ⟨d,trivial⟩ rfl (fun _=>rfl) (fun _=>rfl) fun c w aO _ =>
  ⟨(),c,aS.mk' aO rfl rfl rfl rfl (It _) (fun _ _ _=>rfl) (fun k _=>⟨rfl,rfl⟩) (fun k e hl=>by
   obtain⟨_,rfl⟩:=eS hl;trivial) (fun k e b hl a=>by
   obtain⟨_,rfl⟩:=eS hl;exact a.elim) (fun k j e l b i hl g a f=>by
   obtain⟨_,rfl⟩:=eS hl;exact a.elim),fun t y h=>by cases h⟩
def oJ (k:IntKind) (n:Int):List AV:=[.ik k n]
structure P8 where
  aR:V
  name:ByteArray
  args:(List V)
  deriving DecidableEq,Inhabited
def kN (x:P8):List AV:=[.int x.aR.k,.int x.aR.n,.str x.name,.sl 2 (MJ eV x.args)]
structure cu where
  kind:Int
  name:ByteArray
  aI:Int
  aG:Int
  aL:Me
  call:P8
  deriving DecidableEq,Inhabited
def tF (x:cu):List AV:=[.int x.kind,.str x.name,.int x.aI,.int x.aG,.str x.aL.name,.int x.aL.args,.int x.aL.a8,.int x.aL.aV,.sl 5 (MJ bd x.aL.code),.int x.call.aR.k,.int x.call.aR.n,.str x.call.name,.sl 2 (MJ eV x.call.args)]
structure U8 where
  world:Wd
  cells:(List Ce)
  aX:(List Tl)
  saved:(List Int)
  deriving DecidableEq,Inhabited
def Y7 (x:U8):List AV:=[.sl 4 (MJ fI x.world.a7),.sl 2 (MJ hF x.world.heap),.int x.world.aC,.sl 6 (MJ hC x.cells),.sl 4 (MJ hJ x.aX),.sl 1 (MJ (oJ .u8) x.saved)]
structure fZ where
  err:Int
  n:Int
  value:V
  deriving DecidableEq,Inhabited
def nf (x:fZ):List AV:=[.int x.err,.int x.n,.int x.value.k,.int x.value.n]
structure cr where
  err:Int
  aH:Int
  deriving DecidableEq,Inhabited
def vY (x:cr):List AV:=[.int x.err,.int x.aH]
structure D8 where
  s:ByteArray
  gW:Bool
  deriving DecidableEq,Inhabited
def W9 (x:D8):List AV:=[.str x.s,.bool x.gW]
structure dZ where
  l:(List ByteArray)
  gW:Bool
  deriving DecidableEq,Inhabited
structure dw where
  value:V
  err:Int
  sends:Int
  deriving DecidableEq,Inhabited
def lj (x:dw):List AV:=[.int x.value.k,.int x.value.n,.int x.err,.int x.sends]
structure C9 where
  world:Wd
  ew:dw
  cells:(List Ce)
  aX:(List Tl)
  hO:Int
  not:Int
  deriving DecidableEq,Inhabited
def eF (x:C9):List AV:=[.sl 4 (MJ fI x.world.a7),.sl 2 (MJ hF x.world.heap),.int x.world.aC,.int x.ew.value.k,.int x.ew.value.n,.int x.ew.err,.int x.ew.sends,.sl 6 (MJ hC x.cells),.sl 4 (MJ hJ x.aX),.int x.hO,.int x.not]
structure dp where
  f0:Int
  f1:Int
  deriving DecidableEq,Inhabited
def vJ (x:dp):List AV:=[.int x.f0,.int x.f1]
structure j3 where
  aI:Int
  aL:Int
  aY:Bool
  code:(List Ins)
  aR:V
  args:(List V)
  a8:(List V)
  aA:(List V)
  aH:Int
  deriving DecidableEq,Inhabited
def vW (x:j3):List AV:=[.int x.aI,.int x.aL,.bool x.aY,.sl 5 (MJ bd x.code),.int x.aR.k,.int x.aR.n,.sl 2 (MJ eV x.args),.sl 2 (MJ eV x.a8),.sl 2 (MJ eV x.aA),.int x.aH]
structure D5 where
  w:Wd
  fuel:Int
  sends:Int
  turns:Int
  aE:(List j3)
  back:V
  err:Int
  deriving DecidableEq,Inhabited
structure fV where
  w:Wd
  m:Me
  out:(List Ins)
  a8:Int
  aH:(List Int)
  fix:(List Int)
  deriving DecidableEq,Inhabited
abbrev d81 (l:List Cl) (h:Hs) (n:Nat):Obj:=.deep 4 81 [(3,(5,27))] (l.map fI) h n
abbrev Q8 (l:List Ob) (h:Hs) (n:Nat):Obj:=.deep 2 92 [(1,(2,29))] (l.map hF) h n
abbrev D9 (l:List j3) (h:Hs) (n:Nat):Obj:=.deep 10 288 [(7,(2,29)),(8,(2,29))] (l.map vW) h n
abbrev mB (a:D5) (l q:AV) (x f:Nat):Obj:=.box [.ptr x 0,l,q,.int a.fuel,.int a.sends,.int a.turns,.aK f,.int a.back.k,.int a.back.n,.int a.err] 251
abbrev s3 (l:List Int):AV:=.sl 1 (l.map cE)
abbrev s5 (l:List Int):AV:=.sl 1 (l.map (oJ .u8))
abbrev Lt (l:List Me):AV:=.sl 5 (l.map G9)
abbrev zK (l:List V):AV:=.sl 2 (l.map eV)
abbrev EX (l:List cu):AV:=.sl 13 (l.map tF)
abbrev oW (l:List Ins):AV:=.sl 5 (l.map bd)
abbrev N8 (l:List Cl):AV:=.sl 4 (l.map fI)
abbrev jO (l:List Ob):AV:=.sl 2 (l.map hF)
abbrev kY (l:List Ce):AV:=.sl 6 (l.map hC)
abbrev jC (l:List Tl):AV:=.sl 4 (l.map hJ)
abbrev EN (l:List Ln):AV:=.sl 2 (l.map V7)
abbrev EL (l:List Fs):AV:=.sl 5 (l.map eb)
abbrev w3 (l:List Int):Obj:=.row 1 (l.map cE) 3
abbrev w5 (l:List Int):Obj:=.row 1 (l.map (oJ .u8)) 5
abbrev km (l:List Me):Obj:=.row 5 (l.map G9) 27
abbrev iZ (l:List V):Obj:=.row 2 (l.map eV) 29
abbrev zP (l:List fZ):Obj:=.row 4 (l.map nf) 51
abbrev cQ (l:List Ins):Obj:=.row 5 (l.map bd) 55
abbrev oc (l:List Cl):Obj:=.row 4 (l.map fI) 81
abbrev EY (l:List Ob):Obj:=.row 2 (l.map hF) 92
abbrev d60 (l:List Ce):Obj:=.row 6 (l.map hC) 159
abbrev yr (l:List Tl):Obj:=.row 4 (l.map hJ) 162
abbrev d49 (l:List dp):Obj:=.row 2 (l.map vJ) 184
abbrev oB (l:List Fs):Obj:=.row 5 (l.map eb) 213
section
open Go.ChangeShapes Go.WideShapes Go.ChangeAt Go.RowKit Go.Deep
def yJ (a:Ins):Prop:=gV a.op/\gV a.a/\gV a.b/\gV a.c/\tn a.name
def lb (a:Ins):Nat:=gO a.op+gO a.a+gO a.b+gO a.c+pr a.name+1
def d76 (a:Ins):1<=lb a:=by unfold lb;omega
def EK (a:Me):Prop:=tn a.name/\gV a.args/\gV a.a8/\gV a.aV/\(oT yJ) a.code
def d61 (a:Me):Nat:=pr a.name+gO a.args+gO a.a8+gO a.aV+(eN lb) a.code+1
def vv (a:V):Prop:=gV a.k/\gV a.n
def sZ (a:V):Nat:=gO a.k+gO a.n+1
def DH (a:P8):Prop:=vv a.aR/\tn a.name/\(oT vv) a.args
def wv (a:P8):Nat:=sZ a.aR+pr a.name+(eN sZ) a.args+1
def yX (a:cu):Prop:=gV a.kind/\tn a.name/\gV a.aI/\gV a.aG/\EK a.aL/\DH a.call
def kJ (a:cu):Nat:=gO a.kind+pr a.name+gO a.aI+gO a.aG+d61 a.aL+wv a.call+1
end
end Go.Proofs.YtibjcppjfkamhaaGreatDoor
namespace Go.Proofs
open Go.Shelf
def Tryz.eR : Go.Shelf.Ren := ⟨fun | 171 => 50 | 243 => 82 | 246 => 111 | 283 => 147 | 284 => 148 | 285 => 149 | 286 => 150 | 129 => 144 | 317 => 184 | 318 => 185 | 319 => 186 | 320 => 187 | 337 => 212 | 338 => 213 | n => n, fun | 3 => 3 | 9 => 9 | 2 => 2 | 4 => 4 | 171 => 230 | 0 => 0 | 53 => 227 | 37 => 43 | 5 => 5 | 173 => 232 | 212 => 273 | 51 => 225 | 20 => 20 | 213 => 274 | 46 => 179 | 232 => 316 | 233 => 317 | n => n, fun | 17 => 0 | 18 => 4 | 19 => 5 | n => n⟩
theorem Tryz.jI : Go.Proofs.LaysM.n171 Tryz.prog Tryz.eR := {
  mixed := by kernel_rfl
  f129 := Tryz.func144.trans (congrArg some (by kernel_rfl))
  f171 := Tryz.func50.trans (congrArg some (by kernel_rfl))
  f243 := Tryz.func82.trans (congrArg some (by kernel_rfl))
  f246 := Tryz.func111.trans (congrArg some (by kernel_rfl))
  f283 := Tryz.func147.trans (congrArg some (by kernel_rfl))
  f284 := Tryz.func148.trans (congrArg some (by kernel_rfl))
  f285 := Tryz.func149.trans (congrArg some (by kernel_rfl))
  f286 := Tryz.func150.trans (congrArg some (by kernel_rfl))
  f317 := Tryz.func184.trans (congrArg some (by kernel_rfl))
  f318 := Tryz.func185.trans (congrArg some (by kernel_rfl))
  f319 := Tryz.func186.trans (congrArg some (by kernel_rfl))
  f320 := Tryz.func187.trans (congrArg some (by kernel_rfl))
  f337 := Tryz.func212.trans (congrArg some (by kernel_rfl))
  f338 := Tryz.func213.trans (congrArg some (by kernel_rfl))
  t0 := Tryz.underlying0
  a0 := Tryz.isAgg0
  z0 := Tryz.sizeOf0
  v0 := Tryz.zeroValue0
  t2 := Tryz.underlying2
  a2 := Tryz.isAgg2
  z2 := Tryz.sizeOf2
  v2 := Tryz.zeroValue2
  t3 := Tryz.underlying3
  a3 := Tryz.isAgg3
  z3 := Tryz.sizeOf3
  v3 := Tryz.zeroValue3
  t4 := Tryz.underlying4
  a4 := Tryz.isAgg4
  z4 := Tryz.sizeOf4
  v4 := Tryz.zeroValue4
  t5 := Tryz.underlying5
  a5 := Tryz.isAgg5
  z5 := Tryz.sizeOf5
  v5 := Tryz.zeroValue5
  t9 := Tryz.underlying9
  a9 := Tryz.isAgg9
  z9 := Tryz.sizeOf9
  v9 := Tryz.zeroValue9
  t20 := Tryz.underlying20
  a20 := Tryz.isAgg20
  z20 := Tryz.sizeOf20
  v20 := Tryz.zeroValue20
  t37 := Tryz.underlying43
  a37 := Tryz.isAgg43
  z37 := Tryz.sizeOf43
  v37 := Tryz.zeroValue43
  t46 := Tryz.underlying179
  a46 := Tryz.isAgg179
  z46 := Tryz.sizeOf179
  v46 := Tryz.zeroValue179
  t51 := Tryz.underlying225
  a51 := Tryz.isAgg225
  z51 := Tryz.sizeOf225
  v51 := Tryz.zeroValue225
  t53 := Tryz.underlying227
  a53 := Tryz.isAgg227
  z53 := Tryz.sizeOf227
  v53 := Tryz.zeroValue227
  t171 := Tryz.underlying230
  a171 := Tryz.isAgg230
  z171 := Tryz.sizeOf230
  v171 := Tryz.zeroValue230
  t173 := Tryz.underlying232
  a173 := Tryz.isAgg232
  z173 := Tryz.sizeOf232
  v173 := Tryz.zeroValue232
  t212 := Tryz.underlying273
  a212 := Tryz.isAgg273
  z212 := Tryz.sizeOf273
  v212 := Tryz.zeroValue273
  t213 := Tryz.underlying274
  a213 := Tryz.isAgg274
  z213 := Tryz.sizeOf274
  t232 := Tryz.underlying316
  a232 := Tryz.isAgg316
  z232 := Tryz.sizeOf316
  v232 := Tryz.zeroValue316
  t233 := Tryz.underlying317
  a233 := Tryz.isAgg317
  z233 := Tryz.sizeOf317
  v233 := Tryz.zeroValue317
  g17 := by kernel_rfl
  g18 := by kernel_rfl
  g19 := by kernel_rfl
  i0 := by kernel_rfl
  i2 := by kernel_rfl
  i3 := by kernel_rfl
  i4 := by kernel_rfl
  i5 := by kernel_rfl
  i9 := by kernel_rfl
  i20 := by kernel_rfl
  i37 := by kernel_rfl
  i46 := by kernel_rfl
  i51 := by kernel_rfl
  i53 := by kernel_rfl
  i171 := by kernel_rfl
  i173 := by kernel_rfl
  i212 := by kernel_rfl
  i232 := by kernel_rfl
  i233 := by kernel_rfl
  m17 := by kernel_rfl
  m18 := by kernel_rfl
  m19 := by kernel_rfl }
open Go.RowKit Go.Sort Go.Lib in
theorem Tryz.strconv_Itoa (n : Int) (h0 : -9223372036854775808 ≤ n) (h1 : n ≤ 9223372036854775807) (w : World) (htab : Lib.TabIs Tryz.prog w "internal/strconv.uint64pow10" .u64 Lib.pow10Tab) :
    Calls Tryz.prog 50 #[.int .i64 n] w fun e w' => e = .returned (.string ⟨(Lib.itoa n).toArray⟩) ∧ ∃ k os, w' = grow (w.drewN k) os := Any.strconv_Itoa Tryz.jI n h0 h1 w htab
def Tryz.eQ : Go.Shelf.Ren := ⟨fun | 172 => 87 | 244 => 113 | 245 => 114 | 247 => 152 | 279 => 153 | 280 => 154 | 281 => 155 | 282 => 156 | 287 => 189 | 316 => 190 | 171 => 50 | 205 => 191 | 321 => 218 | 322 => 219 | 243 => 82 | 246 => 111 | 283 => 147 | 284 => 148 | 285 => 149 | 286 => 150 | 129 => 144 | 317 => 184 | 318 => 185 | 319 => 186 | 320 => 187 | 337 => 212 | 338 => 213 | n => n, fun | 9 => 9 | 3 => 3 | 75 => 143 | 76 => 144 | 4 => 4 | 5 => 5 | 167 => 234 | 37 => 43 | 0 => 0 | 85 => 235 | 2 => 2 | 168 => 237 | 53 => 227 | 175 => 276 | 46 => 179 | 210 => 280 | 127 => 147 | 145 => 308 | 143 => 306 | 21 => 21 | 171 => 230 | 173 => 232 | 212 => 273 | 51 => 225 | 20 => 20 | 213 => 274 | 232 => 316 | 233 => 317 | 80 => 103 | n => n, fun | 15 => 1 | 16 => 2 | 17 => 0 | 18 => 4 | 19 => 5 | n => n⟩
theorem Tryz.dN : Go.Proofs.LaysC.n172 Tryz.prog Tryz.eQ := {
  mixed := by kernel_rfl
  f129 := Tryz.func144.trans (congrArg some (by kernel_rfl))
  f171 := Tryz.func50.trans (congrArg some (by kernel_rfl))
  f172 := Tryz.func87.trans (congrArg some (by kernel_rfl))
  f205 := Tryz.func191.trans (congrArg some (by kernel_rfl))
  f243 := Tryz.func82.trans (congrArg some (by kernel_rfl))
  f244 := Tryz.func113.trans (congrArg some (by kernel_rfl))
  f245 := Tryz.func114.trans (congrArg some (by kernel_rfl))
  f246 := Tryz.func111.trans (congrArg some (by kernel_rfl))
  f247 := Tryz.func152.trans (congrArg some (by kernel_rfl))
  f279 := Tryz.func153.trans (congrArg some (by kernel_rfl))
  f280 := Tryz.func154.trans (congrArg some (by kernel_rfl))
  f281 := Tryz.func155.trans (congrArg some (by kernel_rfl))
  f282 := Tryz.func156.trans (congrArg some (by kernel_rfl))
  f283 := Tryz.func147.trans (congrArg some (by kernel_rfl))
  f284 := Tryz.func148.trans (congrArg some (by kernel_rfl))
  f285 := Tryz.func149.trans (congrArg some (by kernel_rfl))
  f286 := Tryz.func150.trans (congrArg some (by kernel_rfl))
  f287 := Tryz.func189.trans (congrArg some (by kernel_rfl))
  f316 := Tryz.func190.trans (congrArg some (by kernel_rfl))
  f317 := Tryz.func184.trans (congrArg some (by kernel_rfl))
  f318 := Tryz.func185.trans (congrArg some (by kernel_rfl))
  f319 := Tryz.func186.trans (congrArg some (by kernel_rfl))
  f320 := Tryz.func187.trans (congrArg some (by kernel_rfl))
  f321 := Tryz.func218.trans (congrArg some (by kernel_rfl))
  f322 := Tryz.func219.trans (congrArg some (by kernel_rfl))
  f337 := Tryz.func212.trans (congrArg some (by kernel_rfl))
  f338 := Tryz.func213.trans (congrArg some (by kernel_rfl))
  t0 := Tryz.underlying0
  a0 := Tryz.isAgg0
  z0 := Tryz.sizeOf0
  v0 := Tryz.zeroValue0
  t2 := Tryz.underlying2
  a2 := Tryz.isAgg2
  z2 := Tryz.sizeOf2
  v2 := Tryz.zeroValue2
  t3 := Tryz.underlying3
  a3 := Tryz.isAgg3
  z3 := Tryz.sizeOf3
  v3 := Tryz.zeroValue3
  t4 := Tryz.underlying4
  a4 := Tryz.isAgg4
  z4 := Tryz.sizeOf4
  v4 := Tryz.zeroValue4
  t5 := Tryz.underlying5
  a5 := Tryz.isAgg5
  z5 := Tryz.sizeOf5
  v5 := Tryz.zeroValue5
  t9 := Tryz.underlying9
  a9 := Tryz.isAgg9
  z9 := Tryz.sizeOf9
  v9 := Tryz.zeroValue9
  t20 := Tryz.underlying20
  a20 := Tryz.isAgg20
  z20 := Tryz.sizeOf20
  v20 := Tryz.zeroValue20
  t21 := Tryz.underlying21
  a21 := Tryz.isAgg21
  z21 := Tryz.sizeOf21
  v21 := Tryz.zeroValue21
  t37 := Tryz.underlying43
  a37 := Tryz.isAgg43
  z37 := Tryz.sizeOf43
  v37 := Tryz.zeroValue43
  t46 := Tryz.underlying179
  a46 := Tryz.isAgg179
  z46 := Tryz.sizeOf179
  v46 := Tryz.zeroValue179
  t51 := Tryz.underlying225
  a51 := Tryz.isAgg225
  z51 := Tryz.sizeOf225
  v51 := Tryz.zeroValue225
  t53 := Tryz.underlying227
  a53 := Tryz.isAgg227
  z53 := Tryz.sizeOf227
  v53 := Tryz.zeroValue227
  t75 := Tryz.underlying143
  a75 := Tryz.isAgg143
  z75 := Tryz.sizeOf143
  v75 := Tryz.zeroValue143
  t76 := Tryz.underlying144
  a76 := Tryz.isAgg144
  z76 := Tryz.sizeOf144
  v76 := Tryz.zeroValue144
  t85 := Tryz.underlying235
  a85 := Tryz.isAgg235
  z85 := Tryz.sizeOf235
  v85 := Tryz.zeroValue235
  t127 := Tryz.underlying147
  a127 := Tryz.isAgg147
  z127 := Tryz.sizeOf147
  v127 := Tryz.zeroValue147
  t143 := Tryz.underlying306
  a143 := Tryz.isAgg306
  z143 := Tryz.sizeOf306
  v143 := Tryz.zeroValue306
  t145 := Tryz.underlying308
  a145 := Tryz.isAgg308
  z145 := Tryz.sizeOf308
  v145 := Tryz.zeroValue308
  t167 := Tryz.underlying234
  a167 := Tryz.isAgg234
  z167 := Tryz.sizeOf234
  v167 := Tryz.zeroValue234
  t168 := Tryz.underlying237
  a168 := Tryz.isAgg237
  z168 := Tryz.sizeOf237
  v168 := Tryz.zeroValue237
  t171 := Tryz.underlying230
  a171 := Tryz.isAgg230
  z171 := Tryz.sizeOf230
  v171 := Tryz.zeroValue230
  t173 := Tryz.underlying232
  a173 := Tryz.isAgg232
  z173 := Tryz.sizeOf232
  v173 := Tryz.zeroValue232
  t175 := Tryz.underlying276
  a175 := Tryz.isAgg276
  z175 := Tryz.sizeOf276
  v175 := Tryz.zeroValue276
  t210 := Tryz.underlying280
  a210 := Tryz.isAgg280
  z210 := Tryz.sizeOf280
  v210 := Tryz.zeroValue280
  t212 := Tryz.underlying273
  a212 := Tryz.isAgg273
  z212 := Tryz.sizeOf273
  v212 := Tryz.zeroValue273
  t213 := Tryz.underlying274
  a213 := Tryz.isAgg274
  z213 := Tryz.sizeOf274
  t232 := Tryz.underlying316
  a232 := Tryz.isAgg316
  z232 := Tryz.sizeOf316
  v232 := Tryz.zeroValue316
  t233 := Tryz.underlying317
  a233 := Tryz.isAgg317
  z233 := Tryz.sizeOf317
  v233 := Tryz.zeroValue317
  g15 := by kernel_rfl
  g16 := by kernel_rfl
  g17 := by kernel_rfl
  g18 := by kernel_rfl
  g19 := by kernel_rfl
  t80 := Tryz.underlying103
  a80 := Tryz.isAgg103
  z80 := Tryz.sizeOf103
  v80 := Tryz.zeroValue103
  i0 := by kernel_rfl
  i2 := by kernel_rfl
  i3 := by kernel_rfl
  i4 := by kernel_rfl
  i5 := by kernel_rfl
  i9 := by kernel_rfl
  i20 := by kernel_rfl
  i21 := by kernel_rfl
  i37 := by kernel_rfl
  i46 := by kernel_rfl
  i51 := by kernel_rfl
  i53 := by kernel_rfl
  i75 := by kernel_rfl
  i76 := by kernel_rfl
  i80 := by kernel_rfl
  i85 := by kernel_rfl
  i127 := by kernel_rfl
  i143 := by kernel_rfl
  i145 := by kernel_rfl
  i167 := by kernel_rfl
  i168 := by kernel_rfl
  i171 := by kernel_rfl
  i173 := by kernel_rfl
  i175 := by kernel_rfl
  i210 := by kernel_rfl
  i212 := by kernel_rfl
  i232 := by kernel_rfl
  i233 := by kernel_rfl
  m15 := by kernel_rfl
  m16 := by kernel_rfl
  m17 := by kernel_rfl
  m18 := by kernel_rfl
  m19 := by kernel_rfl
  c0 := by kernel_rfl
  c2 := by kernel_rfl
  c3 := by kernel_rfl
  c4 := by kernel_rfl
  c5 := by kernel_rfl
  c9 := by kernel_rfl
  c20 := by kernel_rfl
  c21 := by kernel_rfl
  c37 := by kernel_rfl
  c46 := by kernel_rfl
  c51 := by kernel_rfl
  c53 := by kernel_rfl
  c75 := by kernel_rfl
  c76 := by kernel_rfl
  c80 := by kernel_rfl
  c85 := by kernel_rfl
  c127 := by kernel_rfl
  c143 := by kernel_rfl
  c145 := by kernel_rfl
  c167 := by kernel_rfl
  c168 := by kernel_rfl
  c171 := by kernel_rfl
  c173 := by kernel_rfl
  c175 := by kernel_rfl
  c210 := by kernel_rfl
  c212 := by kernel_rfl
  c213 := by kernel_rfl
  c232 := by kernel_rfl
  c233 := by kernel_rfl }
open Go.RowKit in
theorem Tryz.strconv_Atoi_ok (s : ByteArray) (hmax : s.size ≤ 9223372036854775806) (v : Int) (h : Lib.atoiAll s.data.toList = .ok v) (w : World) :
    Calls Tryz.prog 87 #[.string s] w fun e w' => e = .returned (.tuple #[.int .i64 v, .nilIface]) ∧ (w' = w ∨ ∃ t, w' = Lib.bytesWorld w 5 t) := Any.strconv_Atoi_ok Tryz.dN s hmax v h w
open Go.RowKit in
theorem Tryz.strconv_Atoi_syntax (s : ByteArray) (hlim : s.size ≤ 281474976710656) (h : Lib.atoiAll s.data.toList = Lib.NumEnd.syntax) (ev : Value) (w : World) (hv : w.cell? ⟨1, 0, none⟩ = some ev) (hev : ev = .nilIface ∨ ∃ te pe, ev = .iface te pe) :
    Calls Tryz.prog 87 #[.string s] w fun e w' => ∃ N, e = .returned (.tuple #[.int .i64 (0), .iface 237 (.pointer (some ⟨N, 0, none⟩))]) ∧ w.heap.size ≤ N ∧ w'.heap[N]? = some (.cells #[.string ⟨#[65, 116, 111, 105]⟩, .string s, ev] 280 (0, 0)) ∧ Below w.heap.size w w' := Any.strconv_Atoi_syntax Tryz.dN s hlim h ev w hv hev
open Go.RowKit in
theorem Tryz.strconv_Atoi_range (s : ByteArray) (hlim : s.size ≤ 281474976710656) (h : Lib.atoiAll s.data.toList = .range) (ev : Value) (w : World) (hv : w.cell? ⟨2, 0, none⟩ = some ev) (hev : ev = .nilIface ∨ ∃ te pe, ev = .iface te pe) :
    Calls Tryz.prog 87 #[.string s] w fun e w' => ∃ N, e = .returned (.tuple #[.int .i64 (Lib.atoiSat s.data.toList), .iface 237 (.pointer (some ⟨N, 0, none⟩))]) ∧ w.heap.size ≤ N ∧ w'.heap[N]? = some (.cells #[.string ⟨#[65, 116, 111, 105]⟩, .string s, ev] 280 (0, 0)) ∧ Below w.heap.size w w' := Any.strconv_Atoi_range Tryz.dN s hlim h ev w hv hev
def Tryz.ek : Go.Shelf.Ren := ⟨fun | 145 => 112 | 220 => 151 | 219 => 188 | 217 => 214 | 225 => 215 | 224 => 216 | 267 => 217 | 266 => 233 | 314 => 234 | n => n, fun | 9 => 9 | 4 => 4 | 59 => 190 | 3 => 3 | 5 => 5 | 46 => 179 | 146 => 318 | 51 => 225 | n => n, fun | 1 => 3 | n => n⟩
theorem Tryz.kg : Go.Proofs.Lays.n145 Tryz.prog Tryz.ek := {
  mixed := by kernel_rfl
  f145 := Tryz.func112.trans (congrArg some (by kernel_rfl))
  f217 := Tryz.func214.trans (congrArg some (by kernel_rfl))
  f219 := Tryz.func188.trans (congrArg some (by kernel_rfl))
  f220 := Tryz.func151.trans (congrArg some (by kernel_rfl))
  f224 := Tryz.func216.trans (congrArg some (by kernel_rfl))
  f225 := Tryz.func215.trans (congrArg some (by kernel_rfl))
  f266 := Tryz.func233.trans (congrArg some (by kernel_rfl))
  f267 := Tryz.func217.trans (congrArg some (by kernel_rfl))
  f314 := Tryz.func234.trans (congrArg some (by kernel_rfl))
  t3 := Tryz.underlying3
  a3 := Tryz.isAgg3
  z3 := Tryz.sizeOf3
  v3 := Tryz.zeroValue3
  t4 := Tryz.underlying4
  a4 := Tryz.isAgg4
  z4 := Tryz.sizeOf4
  v4 := Tryz.zeroValue4
  t5 := Tryz.underlying5
  a5 := Tryz.isAgg5
  z5 := Tryz.sizeOf5
  v5 := Tryz.zeroValue5
  t9 := Tryz.underlying9
  a9 := Tryz.isAgg9
  z9 := Tryz.sizeOf9
  v9 := Tryz.zeroValue9
  t46 := Tryz.underlying179
  a46 := Tryz.isAgg179
  z46 := Tryz.sizeOf179
  v46 := Tryz.zeroValue179
  t51 := Tryz.underlying225
  a51 := Tryz.isAgg225
  z51 := Tryz.sizeOf225
  v51 := Tryz.zeroValue225
  t59 := Tryz.underlying190
  a59 := Tryz.isAgg190
  z59 := Tryz.sizeOf190
  v59 := Tryz.zeroValue190
  t146 := Tryz.underlying318
  a146 := Tryz.isAgg318
  z146 := Tryz.sizeOf318
  v146 := Tryz.zeroValue318
  g1 := by kernel_rfl }
open Go.RowKit Go.Lib in
theorem Tryz.strings_Cut (s sep : ByteArray) (m : Int) (w : World) (hs : s.size < 4294967281) (hm : w.cell? ⟨3, 0, none⟩ = some (.int .i64 m)) :
    Calls Tryz.prog 112 #[.string s, .string sep] w fun e w' => e = .returned (.tuple #[.string ⟨(Lib.cut s.data.toList sep.data.toList).1.toArray⟩, .string ⟨(Lib.cut s.data.toList sep.data.toList).2.1.toArray⟩, .bool (Lib.cut s.data.toList sep.data.toList).2.2]) ∧ ∃ n, w' = w.drewN n := Any.strings_Cut Tryz.kg s sep m w hs hm
end Go.Proofs
namespace Go.Proofs.YtibjcppjfkamhaaGreatDoor
open Go.RowKit Go.Proofs.Tryz
open _root_.And renaming intro->AN
open _root_.Bool renaming and_eq_true->IT
open _root_.ByteArray renaming empty->BY
open _root_.Int renaming toNat_natCast->Mg
open _root_.List renaming getElem?_eq_getElem->IS,getElem?_eq_some_iff->ME,mem_cons->MG,replicate->MI,map->MJ,length_append->MK,length_cons->ML,all_eq_true->MR,map_cons->MS,mem_append->MT,mem_map->MU,append_assoc->MV,length_map->MW,getElem?_set->MY,getElem?_append_right->Ma,length_set->Mc,getElem?_eq_none->Md,mem_singleton->Mh,getElem?_map->Mj,eq_nil_of_length_eq_zero->Mk,getElem?_drop->Mm,ext_getElem?->Mn,getElem?_append_left->Mp,length_take->Mq,mem_cons_of_mem->Mr,length_nil->Ms,getElem?_take->Mu,getElem?_cons_succ->Mw,getElem?_cons_zero->My
open _root_.Nat renaming beq->AT,ble->IN,le_refl->It,blt->MX,le_of_ble_eq_true->MZ,zero_add->Mi,add_assoc->Mo
open _root_.Option renaming bind_some->A0,map_eq_some_iff->MM,map_some->Mf
open _root_.Or renaming inl->MF
def xZ : List ByteArray:=[⟨#[42]⟩,⟨#[43]⟩,⟨#[45]⟩,⟨#[60]⟩,⟨#[61]⟩]
def U0 : List Me:=[⟨⟨#[42]⟩,1,0,3,[]⟩,⟨⟨#[43]⟩,1,0,1,[]⟩,⟨⟨#[45]⟩,1,0,2,[]⟩,⟨⟨#[60]⟩,1,0,4,[]⟩,⟨⟨#[61]⟩,1,0,5,[]⟩]
def N9 : Wd:=⟨[⟨⟨#[79,98,106,101,99,116]⟩,-1,0,[]⟩,⟨⟨#[78,105,108]⟩,0,0,[]⟩,⟨⟨#[66,111,111,108]⟩,0,0,[]⟩,⟨⟨#[73,110,116]⟩,0,0,U0⟩],[],0⟩
def s8 (N:Nat):Option Wd:=some N9
def uQ (N:Nat):Option Wd:=some N9
def rC (N:Nat) (a:List Me) (b:Int) (c:List Me):Option (List Me) :=
 match c with
 |[x]=>bif (decide (0<=b) && decide (b<=(a.length:Int)) && IN ((a.length+1)*64) 140737488355328) then some (a.take b.toNat++x::a.drop b.toNat) else none
 |_=>none
def strconv_Itoa (N:Nat) (n:Int):Option ByteArray:=some ⟨(Lib.itoa n).toArray⟩
def strconv_Atoi (N:Nat) (s:ByteArray):Option (Int×Bool):=bif decide (s.size<=281474976710656) then some (match Lib.atoiAll s.data.toList with
 |.ok v=>(v,true)
 |.range=>(Lib.atoiSat s.data.toList,false)
 |_=>(0,false)) else none
def strings_Cut (N:Nat) (s sep:ByteArray):Option (ByteArray×ByteArray×Bool):=bif decide (s.size<4294967281) then some (⟨(Lib.cut s.data.toList sep.data.toList).1.toArray⟩,⟨(Lib.cut s.data.toList sep.data.toList).2.1.toArray⟩,(Lib.cut s.data.toList sep.data.toList).2.2) else none
structure jz (w:World):Prop where
 tab : Lib.TabIs prog w "internal/strconv.uint64pow10" .u64 Lib.pow10Tab
 Lv:∃ev,w.cell? ⟨1,0,none⟩=some ev/\(ev=.nilIface\/∃te pe,ev=.iface te pe)
 cK:∃ev,w.cell? ⟨2,0,none⟩=some ev/\(ev=.nilIface\/∃te pe,ev=.iface te pe)
 mx:∃m,w.cell? ⟨3,0,none⟩=some (.int .i64 m)
def kn : List Nat:=[0,1,2,3]
def GL : Obj:=.tX kn jz
theorem GL.at {c:Ctx} {w:World} {id:Nat} (h:dH c w id GL):jz w:=by
 obtain ⟨_,f,⟨t,⟨s,s1,n⟩,⟨r,k,l⟩,⟨m,j⟩⟩,e⟩:=h;have cell:∀b∈kn,∀v,f.cell? ⟨b,0,none⟩=some v->w.cell? ⟨b,0,none⟩=some v:=fun b d v i=>(World.cell?_of_block (w:=f) (a:=⟨b,0,none⟩) (e b d)).trans i;refine ⟨?_,⟨s,cell _ (by simp [kn]) s s1,n⟩,⟨r,cell _ (by simp [kn]) r k,l⟩,⟨m,cell _ (by simp [kn]) _ j⟩⟩;have g : prog.globalNamed "internal/strconv.uint64pow10" = some 0 := C8;unfold Lib.TabIs World.var? at t ⊢;simp only [g,A0] at t ⊢;rw [e _ (by simp [kn])];exact t
theorem aS.cJ {c:Ctx} {w w':World} {need:Os} (h:Below w.heap.size w w') (a:∀b,c.Φ b->b<w.heap.size):aS c w c w' need [] [] :=
 ⟨h.os,h.tape,h.output,h.size,fun _ h=>h,fun _ h=>.inl h,fun b d _=>h.block b d,fun _ _=>⟨rfl,rfl⟩,⟨fun _ _ h=>(by cases h),fun _ _ _ h=>(by cases h),fun _ _ _ _ _ _ h=>(by cases h),fun b d=>Nat.lt_of_lt_of_le (a b d) h.size⟩,fun _ _ _ h=>(by cases h)⟩
def vi {c:Ctx} {w:World} {args:Array Value} {a:AV} (h:w9 c w args.toList [a]):∃v,args=#[v]/\Rd c w v a:=by
 obtain⟨l⟩:=args;have h:w9 c w l [a]:=h;cases h with|cons b t=>cases t;exact⟨_,rfl,b⟩
def LV {c:Ctx} {w:World} {args:Array Value} {a b:AV} (h:w9 c w args.toList [a,b]):∃u v,args=#[u,v]/\Rd c w u a/\Rd c w v b:=by
 obtain⟨l⟩:=args;have h:w9 c w l [a,b]:=h;cases h with|cons d t=>cases t with|cons k t=>cases t;exact⟨_,_,rfl,d,k⟩
def d46 (n:Int) (a:I5 n):(Lib.itoa n).length<=21:=by
 unfold I5 at a;exact Lib.itoa_length_le n a.1 a.2
def zj (N:Nat) (n:Int) (r:ByteArray) (h:strconv_Itoa N n=some r):Spec prog 50 [(2000,GL)] [.int n] (.str r) [] []:=by
 obtain rfl:=Option.some.inj h;refine⟨C8,fun _ h=>(by cases h),fun c w args aO f=>?_⟩;obtain⟨v,rfl,g⟩:=vi f;obtain⟨rfl,a⟩:=g.ah;refine(Tryz.strconv_Itoa n a.1 a.2 w (GL.at (aO.rep 2000 GL rfl)).tab).mono ?_;rintro e w' ⟨rfl,k,os,rfl⟩;refine⟨_,c,rfl,aS.cJ ⟨rfl,rfl,rfl,by simp[Go.Sort.grow],fun b d=>?_⟩ aO.aq,.fz (.str ?_)⟩
 ·show(w.heap++os)[b]?=_;rw[Array.getElem?_append_left d]
 ·have:=d46 n a;show(Lib.itoa n).toArray.size<=_;simp only[List.size_toArray,maxLen];omega
def bytesWorld_below (w:World) (e:TypeId) (s:ByteArray):Below w.heap.size w (Lib.bytesWorld w e s):=⟨rfl,rfl,rfl,by rw[Lib.bytesWorld_size];omega,fun b a=>Lib.bytesWorld_at_old w e s b a⟩
def strconv_Atoi_ok (N:Nat) (s:ByteArray) (r:Int×Bool) (h:strconv_Atoi N s=some r):Spec prog 87 [(2000,GL)] [.str s] (.aZ [.int r.1,.dj r.2]) [] []:=by
 unfold strconv_Atoi at h;obtain⟨i,h⟩:=j7 h;have hl:=of_decide_eq_true i;have h:=Option.some.inj h;refine⟨C8,fun _ h=>(by cases h),fun c w args aO j=>?_⟩;obtain⟨v,rfl,k⟩:=vi j;obtain⟨rfl,m⟩:=k.bY;have G:=GL.at (aO.rep 2000 GL rfl);cases a:Lib.atoiAll s.data.toList with
 |ok x =>
  rw[a] at h;subst h;refine(Tryz.strconv_Atoi_ok s d9 x a w).mono ?_;rintro e w' ⟨rfl,l⟩;have d:=Lib.atoiAll_bounds a;refine⟨_,c,rfl,aS.cJ ?_ aO.aq,.fz (Rf.aZ (us:=[_,_]) (.cons (.int ⟨d9,d9⟩) (.cons .eO .nil)))⟩;rcases l with rfl|⟨t,rfl⟩
  ·exact Below.refl _ _
  ·exact bytesWorld_below w _ t
 |range =>
  rw[a] at h;subst h;obtain⟨ev,f,g⟩:=G.cK;refine(Tryz.strconv_Atoi_range s hl a ev w f g).mono ?_;rintro e w' ⟨M,rfl,_,_,d⟩;have b:I5 (Lib.atoiSat s.data.toList):=by unfold Lib.atoiSat I5;split<;>omega
  exact⟨_,c,rfl,aS.cJ d aO.aq,.fz (Rf.aZ (us:=[_,_]) (.cons (.int b) (.cons (.ei _ _) .nil)))⟩
 |_ =>
  rw[a] at h;subst h;obtain⟨ev,f,g⟩:=G.Lv;refine(Tryz.strconv_Atoi_syntax s hl a ev w f g).mono ?_;rintro e w' ⟨M,rfl,_,_,d⟩;exact⟨_,c,rfl,aS.cJ d aO.aq,.fz (Rf.aZ (us:=[_,_]) (.cons (.int ⟨G8,G8⟩) (.cons (.ei _ _) .nil)))⟩
def KN (s sep:List UInt8):(Lib.cut s sep).1.length<=s.length/\(Lib.cut s sep).2.1.length<=s.length:=by
 unfold Lib.cut;split<;>simp<;>omega
def Ga (N:Nat) (s sep:ByteArray) (r:ByteArray×ByteArray×Bool) (h:strings_Cut N s sep=some r):Spec prog 112 [(2000,GL)] [.str s,.str sep] (.aZ [.str r.1,.str r.2.1,.bool r.2.2]) [] []:=by
 unfold strings_Cut at h;obtain⟨a,h⟩:=j7 h;have hl:=of_decide_eq_true a;obtain rfl:=Option.some.inj h;refine⟨C8,fun _ h=>(by cases h),fun c w args aO d=>?_⟩;obtain⟨u,v,rfl,g,i⟩:=LV d;obtain⟨rfl,n⟩:=g.bY;obtain⟨rfl,_⟩:=i.bY;obtain⟨m,b⟩:=(GL.at (aO.rep 2000 GL rfl)).mx;refine(Tryz.strings_Cut s sep m w hl b).mono ?_;rintro e w' ⟨rfl,k,rfl⟩;obtain⟨j,l⟩:=KN s.data.toList sep.data.toList;have f:s.data.toList.length=s.size:=by rw[Array.length_toList];rfl
 refine⟨_,c,rfl,aS.cJ ⟨rfl,rfl,rfl,It _,fun _ _=>rfl⟩ aO.aq,.fz (Rf.aZ (us:=[_,_,_]) (.cons (.str ?_) (.cons (.str ?_) (.cons (.bool _) .nil))))⟩
 ·show(Lib.cut s.data.toList sep.data.toList).1.toArray.size<=_;rw[List.size_toArray];omega
 ·show(Lib.cut s.data.toList sep.data.toList).2.1.toArray.size<=_;rw[List.size_toArray];omega
def CX : ∃j,prog.info? 97=some j/\j.size=2:=MM.1 (show(prog.info? 97).map (·.size)=some 2 by kernel_rfl)
def Ie : liesAt prog prog.depth 99 (2 / prog.cellsOf 99) 0 97 1=true:=C8
set_option maxHeartbeats 1000000 in
set_option maxRecDepth 100000 in
def Gb (b:Nat) (w:World) (c:w.cell? ⟨b,0,none⟩=some (.pointer (some ⟨b,0,none⟩))) :
  Calls prog 110 #[.pointer (some ⟨b,0,none⟩)] w fun e w'=>e=.returned (.tuple #[])/\w'=w:=by
 obtain⟨j,a,_⟩:=CX
 go_enter func110,ntmps110
 go_wp2
 rw[Lib.run_neq_ptr_same w _ underlying95 a]
 go_wp2
 go_end0
 exact⟨rfl,rfl⟩
set_option maxHeartbeats 1000000 in
set_option maxRecDepth 100000 in
def GF (b:Nat) (w:World) (g:w.cell? ⟨b,0,none⟩=some (.pointer none)) (a:w.shape? b=some (99,2)) (f:w.frozen? ⟨b,0,none⟩=false) :
  Calls prog 110 #[.pointer (some ⟨b,0,none⟩)] w fun e w'=>e=.returned (.tuple #[])/\w'=w.setCell ⟨b,0,none⟩ (.pointer (some ⟨b,0,none⟩)):=by
 obtain⟨j,d,c⟩:=CX
 go_enter func110,ntmps110
 go_wp2
 rw[Lib.run_to_unsafe w ⟨b,0,none⟩ underlying95 underlying228 d (by rw[c];decide) a (Nat.zero_lt_succ 1)];simp only[Result.andThen];rw[Oper.upon_value]
 go_wp2
 rw[run_callFunc_extern func146 C8 C8 C8 (e:=Extern.AbiNoEscape.same) C8];rw[Lib.run_noEscape];simp only[Result.andThen];rw[Oper.upon_value]
 go_wp2
 rw[Lib.run_from_unsafe w ⟨b,0,none⟩ underlying228 underlying95 d a Ie];simp only[Result.andThen];rw[Oper.upon_value]
 go_wp2
 go_end0
 exact⟨rfl,rfl⟩
def BA (id j:Nat):Spec prog 110 [(id,.box [.np id,.aK j] 99)] [.ptr id 0] (.aZ []) [(id,.box [.np id,.aK j] 99)] []:=by
 refine⟨C8,fun _ h=>(by cases h),fun c w args aO u=>?_⟩;obtain⟨v,rfl,y⟩:=vi u;obtain rfl:=y.cm;obtain⟨us,a,x⟩:=aO.rep id _ (j5 _ _ _);have s:=(Array.getElem?_eq_some_iff.1 a).1;cases x with|cons n t=>cases t with|cons o t=>cases t with|nil =>
 rename_i p q;have b:w.cell? ⟨c.μ id,0,none⟩=some p:=by rw[Lib.cell_of_heap a];rfl
 have key:∀w':World,w'.heap[c.μ id]?=some (.cells [.pointer (some ⟨c.μ id,0,none⟩),q].toArray 99)->(∀k,k≠c.μ id->w'.heap[k]?=w.heap[k]?)->w'.heap.size=w.heap.size->w'.os=w.os->w'.tape=w.tape->w'.output=w.output ->
   ∃v c',Ending.returned (Value.tuple #[])=.returned v/\aS c w c' w' [(id,.box [.np id,.aK j] 99)] [(id,.box [.np id,.aK j] 99)] []/\Rd c' w' v (.aZ []):=fun w' d f g i l m =>
  ⟨_,c,rfl,aS.write (us':=[_,q]) aO d (.cons (.qh rfl) (.cons o .nil)) f g i l m,.aZ .nil⟩
 rcases n.EV with rfl|rfl
 ·refine(GF (c.μ id) w b (by simp[World.shape?,a]) (Lib.frozen_of_heap a 0)).mono ?_;rintro e w' ⟨rfl,rfl⟩;refine key _ ?_ (fun k r=>Below.heap_setCell w _ _ k r) ?_ rfl rfl rfl
  ·simp[World.setCell,Array.getElem?_modify,a]
  ·simp[World.setCell]
 ·refine(Gb (c.μ id) w b).mono ?_;rintro e w' ⟨rfl,rfl⟩;exact key _ a (fun _ _=>rfl) rfl rfl rfl rfl
theorem B5 {P:Program} (w:World):∀(l:List Int) (a:Addr) (b:ByteArray),(∀j x,l[j]?=some x->w.cell? (a.add j)=some (.int .u8 x))->(loadBytes a b l.length).run P w=.ok ⟨b.data++(l.map fun n=>UInt8.ofNat n.toNat).toArray⟩ w
 |[],a,b,_=>by simp[loadBytes]
 |x::l,a,b,h=>by
  have d:w.cell? a=some (.int .u8 x):=by simpa[Addr.add] using h 0 x rfl
  have ih:=B5 (P:=P) w l (a.add 1) (b.push (UInt8.ofNat x.toNat)) (fun j y f=>by
   have:=h (j+1) y (by simpa using f);have e:(a.add 1).add j=a.add (j+1):=by
    unfold Addr.add;by_cases c:j=0
    ·subst c;simp
    ·simp[c];omega
   rw[e];exact this)
  simp only[ML,loadBytes,Sem.run_bind,run_load,d,Result.andThen];rw[show x.toNat.toUInt8=UInt8.ofNat x.toNat from rfl,ih];congr 1;apply ByteArray.ext;simp[ByteArray.push]
def Ha {P:Program} {e:TypeId} (a:P.cellsOf e=1) (count off n:Nat) (b:off+n<=count):liesAt P P.depth e count off e n=true:=by
 have hd:P.depth=(2*(P.types.size+Made.depth)+1)+1:=rfl;rw[hd];simp only[liesAt,Bool.or_eq_true];left;rw[hd];simp[rowAt,a,b,sameLayout,Nat.mod_one]
def FW {P:Program} (w:World) (k q r e:TypeId) (z:P.underlying k=some (.pointer e)) (p:P.cellsOf e=1) (g x cells:Nat) (o:w.shape? g=some (e,cells)) (l:List Int) (t:l.length≠0) (v:x+l.length<=cells) (u:l.length<=9223372036854775807)
  (a:∀j y,l[j]?=some y->w.cell? ((⟨g,x,none⟩:Addr).add j)=some (.int .u8 y)) :
  (Builtin.unsafeString_ #[k,q] r #[.pointer (some ⟨g,x,none⟩),.int .i64 l.length]).run P w=.ok (.string (strOfNums l)) (w.freeze ⟨g,x,none⟩ l.length):=by
 have f:=B5 (P:=P) w l ⟨g,x,none⟩ .empty a;have b:=Ha (P:=P) p (cells / P.cellsOf e) x l.length (by rw[p];simpa using v);have c:¬(9223372036854775807:Int)<(l.length:Int):=d9;have d:Builtin.unsafeString_ #[k,q] r #[.pointer (some ⟨g,x,none⟩),.int .i64 l.length] =
   (do
    let n <-asInt (.int .i64 l.length)
    if n < 0 then runtimePanic (.error "unsafe.String: len out of range")
    if n > IntKind.i64.max then unsupported (.unsafePointer "String: a length above the largest int")
    if n=0 then pure (.string .empty)
    else if<-variablesAt ⟨g,x,none⟩ (<-elemOf k) n.toNat then do
     let s <-loadBytes ⟨g,x,none⟩ .empty n.toNat
     freeze ⟨g,x,none⟩ n.toNat
     pure (.string s)
    else unsupported (.unsafePointer "String: not so many bytes at ptr")) := rfl
 rw[d];have h:IntKind.i64.max=9223372036854775807:=rfl;have i:¬(l.length:Int)<0:=d9;have e0:(⟨ByteArray.empty.data++(l.map fun n=>UInt8.ofNat n.toNat).toArray⟩:ByteArray)=strOfNums l:=by
  have m:ByteArray.empty.data=#[]:=rfl;rw[m];simp[strOfNums]
 rw[e0] at f;simp[asInt,asIntOf,h,c,i,t,variablesAt,o,elemOf,run_underlying z,b,f]
set_option maxHeartbeats 1000000 in
set_option maxRecDepth 100000 in
def Fk (b g x cap:Nat) (p:Value) (a:Array Value) (l:List Int) (w:World) (d:w.heap[b]?=some (.cells #[p,.slice (some ⟨g,x,none⟩) l.length cap] 99)) (i:l.length≠0) (h:l.length<=cap) (o:l.length<=9223372036854775807)
  (n:w.heap[g]?=some (.cells a 5)) (q:x+l.length<=a.size) (c:∀j y,l[j]?=some y->w.cell? ((⟨g,x,none⟩:Addr).add j)=some (.int .u8 y)) :
  Calls prog 48 #[.pointer (some ⟨b,0,none⟩)] w fun e w'=>e=.returned (.string (strOfNums l))/\w'=w.drew.freeze ⟨g,x,none⟩ l.length:=by
 have r:w.drew.cell? ⟨b,1,none⟩=some (.slice (some ⟨g,x,none⟩) l.length cap):=by
  have:w.drew.heap[b]?=some (.cells #[p,.slice (some ⟨g,x,none⟩) l.length cap] 99 (0,0)):=d;rw[Lib.cell_of_heap this];rfl
 have k:(Builtin.unsafeSliceData_ #[43] 147 #[.slice (some ⟨g,x,none⟩) l.length cap]).run prog w.drew=.ok (.pointer (some ⟨g,x,none⟩)) w.drew :=
  Lib.run_unsafeSliceData_row _ _ _ _ _ _ d9
 have m:(Builtin.unsafeString_ #[147,3] 9 #[.pointer (some ⟨g,x,none⟩),.int .i64 l.length]).run prog w.drew=.ok (.string (strOfNums l)) (w.drew.freeze ⟨g,x,none⟩ l.length) :=
  FW w.drew 147 3 9 5 underlying147 C8 g x a.size (by have f:w.drew.heap[g]?=some (.cells a 5 (0,0)):=n;simp[World.shape?,f]) l i q o c
 have mixed:prog.follows .mixedOrders=true:=C8
 go_enter func48,ntmps48
 go_wp2
 go_region_o
 all_goals (go_wp2;go_ret;exact⟨rfl,rfl⟩)
def Fw (l:List Int) (id j:Nat) (hl:(!l.isEmpty)=true) (a:AT id j=false:=by rfl):Spec prog 48 [(id,.box [.np id,.aK j] 99),(j,.row 1 (l.map fun n=>[AV.ik .u8 n]) 5)] [.ptr id 0] (.str (strOfNums l)) [(id,.aF),(j,.aF)] []:=by
 have a:=H7 a;have T:l.length≠0:=by cases l<;>simp_all
 refine⟨C8,fun _ h=>(by cases h),fun c w args aO W=>?_⟩;obtain⟨v,rfl,C⟩:=vi W;obtain rfl:=C.cm;have O:lk [(id,Obj.box [.np id,.aK j] 99),(j,.row 1 (l.map fun n=>[AV.ik .u8 n]) 5)] j=some (.row 1 (l.map fun n=>[AV.ik .u8 n]) 5):=by rw[E8 _ _ a,j5]
 obtain⟨us,M,X⟩:=aO.rep id _ (j5 _ _ _);obtain⟨css,P,Q,q3⟩:=aO.rep j _ O;rw[MW] at Q;cases X with|cons Y t=>cases t with|cons J t=>cases t with|nil =>
 rename_i p q;obtain⟨A,n,cap,rfl,B,e3,R⟩:=J.bF;have S:∀i y,l[i]?=some y->css[i]?=some [Value.int .u8 y]:=fun i y D=>by
  have hi:=(ME.1 D).1;have N:css[i]?=some css[i]:=IS d9;have:=q3 i css[i] [AV.ik .u8 y] N (by simp[D]);rw[N];generalize css[i]=u at this;cases this with|cons h t=>cases t with|nil=>cases h with|ik=>rfl
 rcases P.bV with⟨_,hn⟩|⟨g,x,pp,K,E,C,U,a1,a2,a3,Z,a4⟩
 ·omega
 ·have hxp:=Z d9;rw[B] at C;injection C with v1 v2 v3
  subst v1 v2 v3;have d:∀i y,l[i]?=some y->w.cell? ((⟨g,x,none⟩:Addr).add i)=some (.int .u8 y):=fun i y D=>by
   obtain⟨g',x',L,s,V,G⟩:=P.cells (S i y D);rw[B] at s;injection s with z _ _
   injection z with z
   injection z with z w2 _
   subst z w2;have:=G 0 _ rfl;rw[fv];simpa using this
  rw[Q] at M B;refine(Fk (c.μ id) g x cap p E l w M T d9 (by simp only[maxLen] at R;omega) U d9 d).mono ?_;rintro e w' ⟨rfl,rfl⟩;have H:aW c j (.row 1 (l.map fun n=>[AV.ik .u8 n]) 5) g:=by show(c.hd j).ownBlock=some g;rw[B];rfl
  have r:∀m,(w.drew.freeze ⟨g,x,none⟩ m).heap.size=w.heap.size:=fun m=>by unfold World.freeze;split<;>first|rfl|simp
  refine⟨_,c,rfl,⟨?_,?_,?_,by rw[r];exact It _,fun _ h=>h,fun _ h=>.inl h,fun b f I=>?_,fun _ _=>⟨rfl,rfl⟩,⟨fun i o hl=>?_,fun i o b hl k=>?_,fun i i' o o' b _ hl _ k=>?_,fun b f=>by rw[r];exact aO.aq b f⟩,fun i o b hl k=>?_⟩,.fz (.str ?_)⟩
  ·unfold World.freeze;split<;>rfl
  ·unfold World.freeze;split<;>rfl
  ·unfold World.freeze;split<;>rfl
  ·have F:b≠g:=fun e=>I ⟨j,_,O,by rw[E8 _ _ a,j5];rfl,e▸H⟩;unfold World.freeze;split
   ·rfl
   ·simp only[Array.getElem?_modify];rw[N1 (fun e=>F e.symm)];rfl
  ·rcases cg hl with⟨rfl,rfl⟩|⟨_,rfl,rfl⟩<;>trivial
  ·rcases cg hl with⟨rfl,rfl⟩|⟨_,rfl,rfl⟩<;>exact k.elim
  ·rcases cg hl with⟨rfl,rfl⟩|⟨_,rfl,rfl⟩<;>exact k.elim
  ·rcases cg hl with⟨rfl,rfl⟩|⟨_,rfl,rfl⟩<;>exact k.elim
  ·rw[strOfNums_size];omega
section
open Go.ChangeShapes Go.WideShapes Go.ChangeAt Go.RowKit Go.Deep
theorem U7.u8 {P:Program} {t:TypeId} (a:P.underlying t=some (.int .u8)):U7 P t 1 (fun n:Int=>[AV.ik .u8 n]) gV gO:=⟨fun h=>by
 obtain⟨n,rfl,rfl,b⟩:=DataW.trod_int a h;have d:IntKind.u8.min<=n/\n<=IntKind.u8.max:=by simpa[Lit.wf] using b
 have e1:IntKind.u8.min=0:=rfl;have c:IntKind.u8.max=255:=rfl;exact⟨n,.cons (.ik _ n) .nil,rfl,by simp[Value.oneCell'],⟨d9,d9⟩,It _⟩⟩
theorem jz.lt {W:World} (h:jz W):∀b∈kn,b<W.heap.size:=by
 have c : prog.globalNamed "internal/strconv.uint64pow10" = some 0 := C8;obtain ⟨t,⟨s,s1,_⟩,⟨r,e,_⟩,⟨m,d⟩⟩:=h;have f:=t.cell c 0 G8;intro b a;simp only [kn,MG,List.not_mem_nil,or_false] at a;rcases a with rfl|rfl|rfl|rfl
 ·exact sU f
 ·exact sU s1
 ·exact sU e
 ·exact sU d
theorem Spec.zI {P:Program} {f:Nat} {ins:List AV} (hS:Spec P f [(2000,GL)] ins (.bool true) [(2000,GL)] []) {W:World} (i:jz W) {args:Array Value} (h:w9 (tM W) W args.toList ins) :
  Calls P f args W fun e g=>e=.returned (.bool true)/\Below W.heap.size W g:=by
 have one:∀(id:Nat) (o:Obj),lk [(2000,GL)] id=some o->o=GL:=fun id o h=>by
  simp only[lk] at h;cases a:AT 2000 id<;>rw[a] at h
  ·cases h
  ·exact(Option.some.inj h).symm
 refine(hS.2.2 (tM W) W args ⟨fun id o h=>?_,fun id o b h c=>?_,fun id m o n b _ h _ c=>?_,fun b a=>a⟩ h).mono ?_
 ·obtain rfl:=one id o h;exact⟨fun b a=>i.lt b a,W,i,fun _ _=>rfl⟩
 ·obtain rfl:=one id o h;exact c.elim
 ·obtain rfl:=one id o h;exact c.elim
 rintro e g ⟨v,c',rfl,d,l⟩;exact⟨by rw[l.bL],d.cX,d.tape,d.output,d.size,fun k j=>d.ab k j fun⟨id,o,h,_,c⟩=>by
  obtain rfl:=one id o h;exact c.elim⟩
def star : "*" ++ "errors.errorString" = "*errors.errorString" := G8
def Dn (u : TypeId) (h : prog.typeName? 3 u = some "*errors.errorString") : u = 306 :=
 typeName_ptr_named (nm := "errors.errorString") (by rw [star]; kernel_rfl) C8 G8 u (by rw [star]; exact h)
theorem jz.oS {W : World} {x y : String × DataW Unit} (h : laidMetH prog [x, y, ("internal/strconv.uint64pow10", Rows.laid_internal_strconv_uint64pow10), ("strconv.ErrRange", Rows.laid_strconv_ErrRange), ("strconv.ErrSyntax", Rows.laid_strconv_ErrSyntax)] W)
  (c:x.2.handleName?.isNone=true) (d:y.2.handleName?.isNone=true) (b:W.ShapedOpen prog):jz W:=by
 rw [MakeChecks.laidMetH_plain _ _ _ (by simp only [List.all_cons,c,d,Bool.true_and]; kernel_rfl)] at h;have a : laidMet prog (("internal/strconv.uint64pow10", Lib.tabData .u64 Lib.pow10Tab) :: [("strconv.ErrRange", Rows.laid_strconv_ErrRange), ("strconv.ErrSyntax", Rows.laid_strconv_ErrSyntax)]) W := h.tail.tail;obtain ⟨i,s1,e,_⟩:=laid_sentinel (g:=2) (ti:=143) (tp:=306) (te:=308) (ts:=9) h.tail.tail.tail C8 C8 underlying143 Dn underlying306 underlying308 rfl rfl underlying9 C8 C8;obtain ⟨j,k,f,_⟩:=laid_sentinel (g:=1) (ti:=143) (tp:=306) (te:=308) (ts:=9) h.tail.tail.tail.tail C8 C8 underlying143 Dn underlying306 underlying308 rfl rfl underlying9 C8 C8;refine ⟨Lib.tabIs_of_head (g := 0) C8 C8 underlying273 underlying227 C8 C8 a, ⟨_, by simpa using World.var?_cell (show prog.globalNamed "strconv.ErrSyntax" = some 1 by kernel_rfl) f 0, .inr ⟨_, _, rfl⟩⟩, ⟨_, by simpa using World.var?_cell (show prog.globalNamed "strconv.ErrRange" = some 2 by kernel_rfl) e 0, .inr ⟨_, _, rfl⟩⟩, ?_⟩;exact cell_of_shapedOpen_int (zero:=#[.int .i64 0]) (t:=3) b (of_decide_eq_true C8) C8 rfl C8 C8 underlying3
end
section
open Go.ChangeShapes Go.WideShapes Go.ChangeAt Go.RowKit Go.Deep
set_option maxRecDepth 100000 in
def Ke : U7 prog 55 5 bd yJ lb:=⟨fun {H d w g a fuel p x} h=>by
  obtain⟨q,n,_,E,f,j,e⟩:=DataW.trod_struct underlying55 h;have C:p.length=5:=f.trans C8;have D:q.length=5:=j;have c:prog.cellsOf 3=1:=C8;have i:prog.cellsOf 9=1:=C8
  match p,C,q,D with
  |[k,l,m,c3,o],_,[V,W,X,Y,Z],_ =>
    have f0:DataW.trod d prog w 0 g a n 3 [k]=some V:=(by simpa[c] using e 0 _ rfl);obtain⟨r,Q,l0,L,F,b0⟩:=(U7.int underlying3).out f0;have f1:DataW.trod d prog w 0 g a n 3 [l]=some W:=by simpa[c] using e 1 _ rfl
    obtain⟨s,R,l1,M,G,b1⟩:=(U7.int underlying3).out f1;have z:DataW.trod d prog w 0 g a n 3 [m]=some X:=by simpa[c] using e 2 _ rfl
    obtain⟨t,S,l2,N,I,b2⟩:=(U7.int underlying3).out z;have A:DataW.trod d prog w 0 g a n 3 [c3]=some Y:=by simpa[c] using e 3 _ rfl
    obtain⟨v,T,l3,O,J,b3⟩:=(U7.int underlying3).out A;have B:DataW.trod d prog w 0 g a n 9 [o]=some Z:=by simpa[i] using e 4 _ rfl
    obtain⟨y,U,l4,P,K,b4⟩:=(U7.str underlying9).out B;refine⟨⟨r,s,t,v,y⟩,(Q.append (R.append (S.append (T.append U)))),rfl,fun u b=>?_,⟨F,G,I,J,K⟩,?_⟩
    · have b:u∈[k]++[l]++[m]++[c3]++[o]:=b
      simp only[MT] at b;rcases b with(((b|b)|b)|b)|b
      · exact L u b
      · exact M u b
      · exact N u b
      · exact O u b
      · exact P u b
    · subst E
      simp only[MS,List.map_nil,Rows.uptoBulk,Rows.uptoBulkAll,lb];omega⟩
def Jc : U7 prog 25 1 (fun l:(List Ins)=>[AV.sl 5 (l.map bd)]) (oT yJ) (eN lb):=U7.slice underlying25 C8 G8 Ke
set_option maxRecDepth 100000 in
def KS : U7 prog 27 5 G9 EK d61:=⟨fun {H e w i a fuel q x} h=>by
  obtain⟨r,n,_,F,g,k,f⟩:=DataW.trod_struct underlying27 h;have D:q.length=5:=g.trans C8;have E:r.length=5:=k;have c:prog.cellsOf 3=1:=C8;have j:prog.cellsOf 9=1:=C8;have d:prog.cellsOf 25=1:=C8
  match q,D,r,E with
  |[l,m,o,c3,p],_,[W,X,Y,Z,y4],_ =>
    have f0:DataW.trod e prog w 0 i a n 9 [l]=some W:=(by simpa[j] using f 0 _ rfl);obtain⟨s,R,l0,M,G,b0⟩:=(U7.str underlying9).out f0;have f1:DataW.trod e prog w 0 i a n 3 [m]=some X:=by simpa[c] using f 1 _ rfl
    obtain⟨t,S,l1,N,I,b1⟩:=(U7.int underlying3).out f1;have A:DataW.trod e prog w 0 i a n 3 [o]=some Y:=by simpa[c] using f 2 _ rfl
    obtain⟨v,T,l2,O,J,b2⟩:=(U7.int underlying3).out A;have B:DataW.trod e prog w 0 i a n 3 [c3]=some Z:=by simpa[c] using f 3 _ rfl
    obtain⟨y,U,l3,P,K,b3⟩:=(U7.int underlying3).out B;have C:DataW.trod e prog w 0 i a n 25 [p]=some y4:=by simpa[d] using f 4 _ rfl
    obtain⟨z,V,l4,Q,L,b4⟩:=Jc.out C;refine⟨⟨s,t,v,y,z⟩,(R.append (S.append (T.append (U.append V)))),rfl,fun u b=>?_,⟨G,I,J,K,L⟩,?_⟩
    · have b:u∈[l]++[m]++[o]++[c3]++[p]:=b
      simp only[MT] at b;rcases b with(((b|b)|b)|b)|b
      · exact M u b
      · exact N u b
      · exact O u b
      · exact P u b
      · exact Q u b
    · subst F
      simp only[MS,List.map_nil,Rows.uptoBulk,Rows.uptoBulkAll,d61];omega⟩
set_option maxRecDepth 100000 in
def DX : U7 prog 29 2 eV vv sZ:=⟨fun {H j w l a fuel i x} h=>by
  obtain⟨m,n,_,s,d,e,k⟩:=DataW.trod_struct underlying29 h;have q:i.length=2:=d.trans C8;have r:m.length=2:=e;have c:prog.cellsOf 3=1:=C8
  match i,q,m,r with
  |[f,g],_,[C,D],_ =>
    have f0:DataW.trod j prog w 0 l a n 3 [f]=some C:=(by simpa[c] using k 0 _ rfl);obtain⟨o,A,G,y,t,E⟩:=(U7.int underlying3).out f0;have f1:DataW.trod j prog w 0 l a n 3 [g]=some D:=by simpa[c] using k 1 _ rfl
    obtain⟨p,B,I,z,v,F⟩:=(U7.int underlying3).out f1;refine⟨⟨o,p⟩,(A.append B),rfl,fun u b=>?_,⟨t,v⟩,?_⟩
    · have b:u∈[f]++[g]:=b
      simp only[MT] at b;rcases b with b|b
      · exact y u b
      · exact z u b
    · subst s
      simp only[MS,List.map_nil,Rows.uptoBulk,Rows.uptoBulkAll,sZ];omega⟩
def KE : U7 prog 30 1 (fun l:(List V)=>[AV.sl 2 (l.map eV)]) (oT vv) (eN sZ):=U7.slice underlying30 C8 G8 DX
set_option maxRecDepth 100000 in
def KU : U7 prog 32 4 kN DH wv:=⟨fun {H g w k a fuel p x} h=>by
  obtain⟨q,n,_,A,e,j,i⟩:=DataW.trod_struct underlying32 h;have y:p.length=4:=e.trans C8;have z:q.length=3:=j;have f:prog.cellsOf 9=1:=C8;have c:prog.cellsOf 29=2:=C8;have d:prog.cellsOf 30=1:=C8
  match p,y,q,z with
  |[l,m,o,c3],_,[L,M,N],_ =>
    have f0:DataW.trod g prog w 0 k a n 29 [l,m]=some L:=(by simpa[c] using i 0 _ rfl);obtain⟨r,I,R,E,B,O⟩:=DX.out f0;have f1:DataW.trod g prog w 0 k a n 9 [o]=some M:=by simpa[f] using i 1 _ rfl
    obtain⟨s,J,S,F,C,P⟩:=(U7.str underlying9).out f1;have v:DataW.trod g prog w 0 k a n 30 [c3]=some N:=by simpa[d] using i 2 _ rfl
    obtain⟨t,K,l2,G,D,Q⟩:=KE.out v;refine⟨⟨r,s,t⟩,(I.append (J.append K)),rfl,fun u b=>?_,⟨B,C,D⟩,?_⟩
    · have b:u∈[l,m]++[o]++[c3]:=b
      simp only[MT] at b;rcases b with(b|b)|b
      · exact E u b
      · exact F u b
      · exact G u b
    · subst A
      simp only[MS,List.map_nil,Rows.uptoBulk,Rows.uptoBulkAll,wv];omega⟩
set_option maxRecDepth 100000 in
def Kc : U7 prog 34 13 tF yX kJ:=⟨fun {H d w f a fuel C x} h=>by
  obtain⟨D,n,_,R,m,p,e⟩:=DataW.trod_struct underlying34 h;have P:C.length=13:=m.trans C8;have Q:D.length=6:=p;have c:prog.cellsOf 3=1:=C8;have o:prog.cellsOf 9=1:=C8;have k:prog.cellsOf 27=5:=C8;have l:prog.cellsOf 32=4:=C8
  match C,P,D,Q with
  |[q,r,s,c3,t,v,y,z,A,B,g,i,j],_,[y0,y1,y2,y3,y4,y5],_ =>
    have f0:DataW.trod d prog w 0 f a n 3 [q]=some y0:=(by simpa[c] using e 0 _ rfl);obtain⟨E,r0,l0,Y,S,b0⟩:=(U7.int underlying3).out f0;have f1:DataW.trod d prog w 0 f a n 9 [r]=some y1:=by simpa[o] using e 1 _ rfl
    obtain⟨F,r1,l1,Z,T,b1⟩:=(U7.str underlying9).out f1;have L:DataW.trod d prog w 0 f a n 3 [s]=some y2:=by simpa[c] using e 2 _ rfl
    obtain⟨G,r2,l2,o2,U,b2⟩:=(U7.int underlying3).out L;have M:DataW.trod d prog w 0 f a n 3 [c3]=some y3:=by simpa[c] using e 3 _ rfl
    obtain⟨I,r3,l3,o3,V,b3⟩:=(U7.int underlying3).out M;have N:DataW.trod d prog w 0 f a n 27 [t,v,y,z,A]=some y4:=by simpa[k] using e 4 _ rfl
    obtain⟨J,r4,l4,o4,W,b4⟩:=KS.out N;have O:DataW.trod d prog w 0 f a n 32 [B,g,i,j]=some y5:=by simpa[l] using e 5 _ rfl
    obtain⟨K,r5,l5,o5,X,b5⟩:=KU.out O;refine⟨⟨E,F,G,I,J,K⟩,(r0.append (r1.append (r2.append (r3.append (r4.append r5))))),rfl,fun u b=>?_,⟨S,T,U,V,W,X⟩,?_⟩
    · have b:u∈[q]++[r]++[s]++[c3]++[t,v,y,z,A]++[B,g,i,j]:=b
      simp only[MT] at b;rcases b with((((b|b)|b)|b)|b)|b
      · exact Y u b
      · exact Z u b
      · exact o2 u b
      · exact o3 u b
      · exact o4 u b
      · exact o5 u b
    · subst R
      simp only[MS,List.map_nil,Rows.uptoBulk,Rows.uptoBulkAll,kJ];omega⟩
def Jf : U7 prog 23 1 (fun l:(List cu)=>[AV.sl 13 (l.map tF)]) (oT yX) (eN kJ):=U7.slice underlying23 C8 G8 Kc
end
def pH (N:Nat):Option U8 :=
  (uQ N).bind fun a=>some ⟨a,[],[],[]⟩
def mr (N:Nat) (a:List V):Option (List V):=
  bif IN (a.length*16) 140737488355328 then some a else none
def lN (N:Nat):List Ob->Nat->(List Ob)->Option ((List Ob))
  |[],c,b=>some b
  |x10::rest7,c,b=>(mr N x10.aG).bind fun a=>bif IN ((b.length+[(⟨x10.cls,a⟩:Ob)].length)*32) 140737488355328 then lN N rest7 (c+1) (b++[⟨x10.cls,a⟩])else none
def lU (N:Nat) (a:(List Ob)):Option (List Ob) :=
  (lN N a 0 []).bind fun b=>some b
def u9 (N:Nat) (a:List Ins):Option (List Ins):=
  bif IN (a.length*48) 140737488355328 then some a else none
def lJ (N:Nat) (a:Me):Option Me :=
  (u9 N a.code).bind fun b=>some ⟨a.name,a.args,a.a8,a.aV,b⟩
def lO (N:Nat):List Me->Nat->(List Me)->Option ((List Me))
  |[],b,a=>some a
  |x24::rest21,b,a=>(lJ N x24).bind fun c=>bif IN ((a.length+[c].length)*64) 140737488355328 then lO N rest21 (b+1) (a++[c])else none
def lM (N:Nat):List Cl->Nat->(List Cl)->Option ((List Cl))
  |[],c,b=>some b
  |x12::rest9,c,b=>(lO N x12.aB 0 []).bind fun a=>bif IN ((b.length+[(⟨x12.name,x12.aQ,x12.aG,a⟩:Cl)].length)*56) 140737488355328 then lM N rest9 (c+1) (b++[⟨x12.name,x12.aQ,x12.aG,a⟩])else none
def gd (N:Nat) (a:Wd):Option Wd :=
  (lU N a.heap).bind fun b=>(lM N a.a7 0 []).bind fun c=>some ⟨c,b,a.aC⟩
def X7 (N:Nat) (a:List Ln):Option (List Ln):=
  bif IN (a.length*16) 140737488355328 then some a else none
def lK (N:Nat):List Ce->Nat->(List Ce)->Option ((List Ce))
  |[],c,b=>some b
  |x10::rest7,c,b=>(X7 N x10.lines).bind fun a=>bif IN ((b.length+[(⟨x10.site,x10.aC,x10.many,a⟩:Ce)].length)*72) 140737488355328 then lK N rest7 (c+1) (b++[⟨x10.site,x10.aC,x10.many,a⟩])else none
def lV (N:Nat) (a:(List Ce)):Option (List Ce) :=
  (lK N a 0 []).bind fun b=>some b
def lP (N:Nat):List Tl->Nat->(List Tl)->Option ((List Tl))
  |[],c,b=>some b
  |x10::rest7,c,b=>(X7 N x10.a7).bind fun a=>bif IN ((b.length+[(⟨x10.site,a⟩:Tl)].length)*56) 140737488355328 then lP N rest7 (c+1) (b++[⟨x10.site,a⟩])else none
def pX (N:Nat) (a:(List Tl)):Option (List Tl) :=
  (lP N a 0 []).bind fun b=>some b
def wQ (N:Nat) (a:List Int):Option (List Int):=
  bif IN (a.length*1) 140737488355328 then some a else none
def pI (N:Nat) (a:U8):Option U8 :=
  (gd N a.world).bind fun b=>(lV N a.cells).bind fun c=>(pX N a.aX).bind fun d=>(wQ N a.saved).bind fun e=>some ⟨b,c,d,e⟩
def nF (N:Nat) (b:ByteArray):Nat->Nat->Option (H9 Bool Unit)
  |0,a=>some (.next ())
  |c+1,a=>((mA b (a:Int)).bind fun d=>bif(d.toNat:Int)<=32 then some true else(mA b (a:Int)).bind fun e=>some (126<(e.toNat:Int)):Option Bool).bind fun f=>bif f then some (.ret false)else nF N b c (a+1)
def kE (N:Nat) (a:ByteArray):Option Bool :=
  (bif(a.size:Int)<1 then some true else some (decide (12<(a.size:Int)))).bind fun b=>bif b then some false else(nF N a ((a.size:Int)-((0:Nat):Int)).toNat 0).bind fun o=>match o with|.ret r=>some r|.next ()=>some true
def E9 (N:Nat) (g1:(Cl->Option Bool)):List Cl->Nat->Option (H9 Int Unit)
  |[],a=>some (.next ())
  |x7::rest4,a=>(g1 x7).bind fun b=>bif b then some (.ret (a:Int))else E9 N g1 rest4 (a+1)
def U1 (N:Nat) (a:(List Cl)) (g1:Cl->Option Bool):Option Int :=
  (E9 N g1 a 0).bind fun o=>match o with|.ret r=>some r|.next ()=>some (-1)
def J6 (N:Nat) (a:(List Cl)) (g1:Cl->Option Bool):Option Bool :=
  (U1 N a g1).bind fun b=>some (0<=b)
def p7 (N:Nat) (a:Cl) (b:ByteArray):Option Bool :=
  some (a.name=b)
def ow (N:Nat) (a:Wd):Nat->Int->Int->Int->Option (Int)
  |0,_,_,_=>none
  |c+1,b,g,h=>(bif 0<=b then bif b<(a.a7.length:Int)then some (decide (h<=(a.a7.length:Int)))else some false else some false).bind fun d=>bif d then(j4 a.a7 b).bind fun e=>(j4 a.a7 b).bind fun f=>ow N a c f.aQ (wr (g+e.aG)) (wr (h+1))else some g
def iI (N:Nat) (a:Wd) (b:Int):Option Int :=
  (ow N a N b 0 0).bind fun c=>some c
def kz (N:Nat):List Me->Nat->(List Me)->Option ((List Me))
  |[],b,a=>some a
  |x24::rest21,b,a=>(lJ N x24).bind fun c=>bif IN ((a.length+[c].length)*64) 140737488355328 then kz N rest21 (b+1) (a++[c])else none
def lB (N:Nat):List Cl->Nat->(List Cl)->Option ((List Cl))
  |[],c,b=>some b
  |x12::rest9,c,b=>(kz N x12.aB 0 []).bind fun a=>bif IN ((b.length+[(⟨x12.name,x12.aQ,x12.aG,a⟩:Cl)].length)*56) 140737488355328 then lB N rest9 (c+1) (b++[⟨x12.name,x12.aQ,x12.aG,a⟩])else none
def rX (N:Nat) (a:Wd):Option Wd :=
  (lU N a.heap).bind fun b=>(lB N a.a7 0 []).bind fun c=>some ⟨c,b,a.aC⟩
def sA (N:Nat) (c:Wd) (d:ByteArray) (b:Int) (e:Int):Option (Wd×Int×Int) :=
  ((kE N d).bind fun i=>bif !i then some true else(J6 N c.a7 fun h=>p7 N h d).bind fun j=>some j:Option Bool).bind fun k=>bif k then some (⟨[],[],0⟩,0,7)else(bif b<0 then some true else some (decide ((c.a7.length:Int)<=b))).bind fun l=>bif l then some (⟨[],[],0⟩,0,6)else(bif e<0 then some true else(iI N c b).bind fun f=>bif wr (6-f)<e then some true else bif !b=0 then some (decide (b<4))else some false).bind fun g=>bif g then some (⟨[],[],0⟩,0,3)else bif 12<=(c.a7.length:Int)then some (⟨[],[],0⟩,0,5)else(rX N c).bind fun a=>bif IN ((a.a7.length+[(⟨d,b,e,[]⟩:Cl)].length)*56) 140737488355328 then some (⟨a.a7++[⟨d,b,e,[]⟩],a.heap,a.aC⟩,(c.a7.length:Int),0)else none
def kB (N:Nat) (a:Int) (b:Int):Option Bool :=
  (bif 0<=a then some (decide (a<b))else some false).bind fun c=>some c
def rR (N:Nat) (y:Wd) (z:Int) (e:Me) (d:Ins):Option Int :=
  ((bif d.op=1 then some (decide (d.op=1))else(bif d.op=6 then some (decide (d.op=6))else(bif d.op=7 then some (decide (d.op=7))else(bif d.op=8 then some (decide (d.op=8))else(bif d.op=9 then some (decide (d.op=9))else(bif d.op=10 then some (decide (d.op=10))else some (decide (d.op=17))).bind fun q=>some q).bind fun p=>some p).bind fun n=>some n).bind fun m=>some m).bind fun B=>some B).bind fun A=>(bif A then some (.next (d.a=0,false))else(bif d.op=2 then(kB N d.a e.args).bind fun f=>some (.next (f,false))else(bif d.op=3 then some (decide (d.op=3))else some (decide (d.op=11))).bind fun s=>(bif s then(kB N d.a e.a8).bind fun g=>some (.next (g,false))else(bif d.op=4 then some (decide (d.op=4))else some (decide (d.op=12))).bind fun t=>(bif t then(iI N y z).bind fun h=>(kB N d.a h).bind fun i=>some (.next (i,false))else(bif d.op=5 then(bif -1073741824<=d.a then some (decide (d.a<=1073741824))else some false).bind fun u=>some (.next (u,false))else(bif d.op=13 then(bif d.a=0 then some true else bif 4<=d.a then some (decide (d.a<(y.a7.length:Int)))else some false).bind fun v=>some (.next (v,false))else(bif d.op=14 then(kB N d.a 5).bind fun j=>some (.next (j,true))else(bif d.op=15 then some (decide (d.op=15))else some (decide (d.op=16))).bind fun w=>bif w then(kB N d.a (e.code.length:Int)).bind fun k=>some (.next (k,false))else some (.ret 1):Option (H9 Int (Bool×Bool))).bind fun o=>match o with|.ret r=>some (.ret r)|.next (v68,v69)=>some (.next (v68,v69)):Option (H9 Int (Bool×Bool))).bind fun o=>match o with|.ret r=>some (.ret r)|.next (v59,v60)=>some (.next (v59,v60)):Option (H9 Int (Bool×Bool))).bind fun o=>match o with|.ret r=>some (.ret r)|.next (v52,v53)=>some (.next (v52,v53)):Option (H9 Int (Bool×Bool))).bind fun o=>match o with|.ret r=>some (.ret r)|.next (v44,v45)=>some (.next (v44,v45)):Option (H9 Int (Bool×Bool))).bind fun o=>match o with|.ret r=>some (.ret r)|.next (v35,v36)=>some (.next (v35,v36)):Option (H9 Int (Bool×Bool))).bind fun o=>match o with|.ret r=>some (.ret r)|.next (v26,v27)=>some (.next (v26,v27)):Option (H9 Int (Bool×Bool))).bind fun o=>match o with|.ret r=>some (.ret r)|.next (v22,v23)=>some (.next (v22,v23)):Option (H9 Int (Bool×Bool))).bind fun o=>match o with|.ret r=>some r|.next (v1,v2)=>bif !v1 then some 3 else(bif v2 then(kE N d.name).bind fun l=>bif !l then some true else bif !v2 then bif !d.name=⟨#[]⟩then some true else bif !d.b=0 then some true else some (!d.c=0)else bif !d.b=0 then some true else some (!d.c=0)else bif !v2 then bif !d.name=⟨#[]⟩then some true else bif !d.b=0 then some true else some (!d.c=0)else bif !d.b=0 then some true else some (!d.c=0)).bind fun x=>bif x then some 2 else some 0
def rZ (N:Nat) (b:Ins):Option (Int×Int) :=
  (bif b.op=9 then some (decide (b.op=9))else(bif b.op=11 then some (decide (b.op=11))else(bif b.op=12 then some (decide (b.op=12))else(bif b.op=16 then some (decide (b.op=16))else some (decide (b.op=17))).bind fun c=>some c).bind fun f=>some f).bind fun e=>some e).bind fun d=>bif d then some (1,0)else bif b.op=10 then some (1,2)else bif b.op=14 then some (wr (b.a+1),1)else bif b.op=15 then some (0,0)else some (0,1)
def ky (N:Nat):Nat->Nat->(List Int)->Option ((List Int))
  |0,a,b=>some b
  |c+1,a,b=>(j4 b (a:Int)).bind fun d=>ky N c (a+1) (b.set (a:Int).toNat (-1))
def mo (N:Nat) (i:Me):Nat->(List Int)->(List dp)->Option (H9 ((List Int)×cr) (List Int))
  |0,_,_=>none
  |j+1,g,e=>bif 0<(e.length:Int)then((j4 e 0).bind fun b=>(j4 e 0).bind fun d=>bif 0<=(1:Int)&&1<=(e.length:Int)then(bif b.f0<0 then some true else some (decide ((i.code.length:Int)<=b.f0))).bind fun k=>bif k then some (.ret ([],⟨9,(i.code.length:Int)⟩))else(j4 g b.f0).bind fun q=>bif 0<=q then(j4 g b.f0).bind fun s=>bif !s=d.f1 then some (.ret ([],⟨8,b.f0⟩))else some (.next (g,e.drop (1:Int).toNat))else(j4 g b.f0).bind fun t=>(j4 i.code b.f0).bind fun f=>(rZ N f).bind fun c=>(bif d.f1<c.1 then some true else bif f.op=17 then some (!d.f1=1)else some false).bind fun l=>bif l then some (.ret ([],⟨8,b.f0⟩))else bif 12<wr (d.f1+wr (c.2-c.1))then some (.ret ([],⟨4,b.f0⟩))else(bif !f.op=15 then some (!f.op=17)else some false).bind fun m=>(bif m then bif IN (((e.drop (1:Int).toNat).length+[(⟨wr (b.f0+1),wr (d.f1+wr (c.2-c.1))⟩:dp)].length)*16) 140737488355328 then some (e.drop (1:Int).toNat++[⟨wr (b.f0+1),wr (d.f1+wr (c.2-c.1))⟩])else none else some (e.drop (1:Int).toNat)).bind fun h=>(bif f.op=15 then some true else some (decide (f.op=16))).bind fun n=>(bif n then bif IN ((h.length+[(⟨f.a,wr (d.f1+wr (c.2-c.1))⟩:dp)].length)*16) 140737488355328 then some (h++[⟨f.a,wr (d.f1+wr (c.2-c.1))⟩])else none else some h).bind fun p=>some (.next (g.set b.f0.toNat d.f1,p))else none:Option (H9 ((List Int)×cr) ((List Int)×(List dp)))).bind fun o=>match o with|.ret r=>some (.ret r)|.next (v29,v30)=>mo N i j v29 v30 else some (.next g)
def rS (N:Nat) (a:Me):Option ((List Int)×cr) :=
  bif 0<=(a.code.length:Int)&&(a.code.length:Int)<=140737488355328&&(a.code.length:Int)*8<=140737488355328 then(ky N (((MI (a.code.length:Int).toNat (0:Int)).length:Int)-((0:Nat):Int)).toNat 0 (MI (a.code.length:Int).toNat 0)).bind fun b=>(mo N a N b [⟨0,0⟩]).bind fun o=>match o with|.ret r=>some r|.next v22=>some (v22,⟨0,0⟩)else none
def nC (N:Nat) (c:Wd) (d:Int) (e:Me):List Ins->Nat->Option (H9 cr Unit)
  |[],a=>some (.next ())
  |x28::rest25,a=>(rR N c d e x28).bind fun b=>bif !b=0 then some (.ret ⟨b,(a:Int)⟩)else nC N c d e rest25 (a+1)
def pU (N:Nat) (e:Wd) (b:Int) (a:Me):Option cr :=
  (bif b<0 then some true else some (decide ((e.a7.length:Int)<=b))).bind fun g=>bif g then some ⟨6,0⟩else(kE N a.name).bind fun f=>bif !f then some ⟨7,0⟩else(bif a.args<0 then some true else bif 4<a.args then some true else bif a.a8<0 then some true else some (decide (6<a.a8))).bind fun h=>bif h then some ⟨3,0⟩else bif !a.aV=0 then some ⟨1,0⟩else(bif(a.code.length:Int)<1 then some true else some (decide (60<(a.code.length:Int)))).bind fun d=>bif d then some ⟨5,0⟩else(nC N e b a a.code 0).bind fun o=>match o with|.ret r=>some r|.next ()=>(rS N a).bind fun c=>some c.2
def u6 (N:Nat) (j:(List Me)) (k:ByteArray) (l:(Me->ByteArray->Option Int)):Nat->Int->Int->Option (Int)
  |0,_,_=>none
  |c+1,a,b=>bif a<b then(bif 0<=wr (a+b)then bif I5 (wr (a+b)/2)then(j4 j (wr (a+b)/2)).bind fun i=>(l i k).bind fun d=>(bif d<0 then some (wr (wr (a+b)/2+1),b)else some (a,wr (a+b)/2)).bind fun(g,h)=>some (g,h)else none else none).bind fun(e,f)=>u6 N j k l c e f else some a
def y7 (N:Nat) (a:(List Me)) (f:ByteArray) (g:Me->ByteArray->Option Int):Option (Int×Bool) :=
  (u6 N a f g N 0 (a.length:Int)).bind fun d=>(bif d<(a.length:Int)then(j4 a d).bind fun e=>(g e f).bind fun b=>some (decide (b=0))else some false).bind fun c=>some (d,c)
def cmp_isNaN_string (N:Nat) (a:ByteArray):Option Bool :=
  some (!a=a)
def uG (N:Nat) (a:ByteArray) (b:ByteArray):Option Int :=
  (cmp_isNaN_string N a).bind fun d=>(cmp_isNaN_string N b).bind fun c=>bif d then bif c then some 0 else some (-1)else bif c then some 1 else bif Y4 a b then some (-1)else bif !(Y4 a b||a=b)then some 1 else some 0
def jY (N:Nat) (a:Me) (b:ByteArray):Option Int :=
  (uG N a.name b).bind fun c=>some c
def lA (N:Nat):List Me->Nat->(List Me)->Option ((List Me))
  |[],b,a=>some a
  |x24::rest21,b,a=>(lJ N x24).bind fun c=>bif IN ((a.length+[c].length)*64) 140737488355328 then lA N rest21 (b+1) (a++[c])else none
def lC (N:Nat):List Cl->Nat->(List Cl)->Option ((List Cl))
  |[],c,b=>some b
  |x12::rest9,c,b=>(lA N x12.aB 0 []).bind fun a=>bif IN ((b.length+[(⟨x12.name,x12.aQ,x12.aG,a⟩:Cl)].length)*56) 140737488355328 then lC N rest9 (c+1) (b++[⟨x12.name,x12.aQ,x12.aG,a⟩])else none
def rb (N:Nat) (a:Wd):Option Wd :=
  (lU N a.heap).bind fun b=>(lC N a.a7 0 []).bind fun c=>some ⟨c,b,a.aC⟩
def qq (N:Nat) (g:Wd) (d:Int) (n:Me):Option (Wd×Int) :=
  (bif d<0 then some true else some (decide ((g.a7.length:Int)<=d))).bind fun o=>bif o then some (⟨[],[],0⟩,6)else(j4 g.a7 d).bind fun q=>(y7 N q.aB n.name fun k m=>jY N k m).bind fun e=>(bif !e.2 then(j4 g.a7 d).bind fun l=>some (decide (8<=(l.aB.length:Int)))else some false).bind fun j=>bif j then some (⟨[],[],0⟩,5)else(rb N g).bind fun a=>(j4 a.a7 d).bind fun c=>(bif !e.2 then(rC N c.aB e.1 [⟨BY,0,0,0,[]⟩]).bind fun h=>some (a.a7.set d.toNat ⟨c.name,c.aQ,c.aG,h⟩)else some a.a7).bind fun f=>f[d.toNat]?.bind fun b=>(lJ N n).bind fun i=>(j4 b.aB e.1).bind fun p=>some (⟨f.set d.toNat ⟨b.name,b.aQ,b.aG,b.aB.set e.1.toNat i⟩,a.heap,wr (a.aC+1)⟩,0)
def uc (N:Nat) (a:U8) (d:Int) (e:Me):Option (fZ×U8) :=
  (pU N a.world d e).bind fun b=>bif !b.err=0 then some (⟨b.err,b.aH,⟨0,0⟩⟩,a)else(qq N a.world d e).bind fun c=>(bif c.2=0 then some {a with world:=c.1}else some a).bind fun f=>some (⟨c.2,0,⟨0,0⟩⟩,f)
def ja (N:Nat) (b:(List Ob)) (c:Int) (a:Int):Option ((List Ob)×V×Int) :=
  bif 60<=(b.length:Int)then some ([],⟨0,0⟩,15)else(lU N b).bind fun d=>bif 0<=max a 0&&max a 0<=140737488355328&&max a 0*16<=140737488355328 then bif IN ((d.length+[(⟨c,MI (max a 0).toNat ⟨0,0⟩⟩:Ob)].length)*32) 140737488355328 then some (d++[⟨c,MI (max a 0).toNat ⟨0,0⟩⟩],⟨4,(b.length:Int)⟩,0)else none else none
def uk (N:Nat) (a:U8) (b:Int):Option (fZ×U8) :=
  (bif !b=0 then bif b<4 then some true else some (decide ((a.world.a7.length:Int)<=b))else some false).bind fun e=>bif e then some (⟨6,0,⟨0,0⟩⟩,a)else(iI N a.world b).bind fun d=>(ja N a.world.heap b d).bind fun c=>bif !c.2.2=0 then some (⟨c.2.2,0,⟨0,0⟩⟩,a)else some (⟨0,c.2.1.n,c.2.1⟩,{a with world:=⟨a.world.a7,c.1,a.world.aC⟩})
def pD (N:Nat) (a:V) (d:Int):Option Int :=
  ((bif a.k=0 then some (decide (a.k=0))else(bif a.k=1 then some (decide (a.k=1))else some (decide (a.k=2))).bind fun f=>some f).bind fun e=>(bif e then bif !a.n=0 then some (.ret 2)else some (.next ())else(bif a.k=3 then(bif a.n< -1073741824 then some true else some (decide (1073741824<a.n))).bind fun b=>bif b then some (.ret 3)else some (.next ())else bif a.k=4 then(bif a.n<0 then some true else some (decide (d<=a.n))).bind fun c=>bif c then some (.ret 6)else some (.next ())else some (.ret 1):Option (H9 Int Unit)).bind fun o=>match o with|.ret r=>some (.ret r)|.next ()=>some (.next ()):Option (H9 Int Unit)).bind fun o=>match o with|.ret r=>some (.ret r)|.next ()=>some (.next ()):Option (H9 Int Unit)).bind fun o=>match o with|.ret r=>some r|.next ()=>some 0
def nG (N:Nat) (e:Wd) (c:P8):List V->Nat->Option (H9 Int Unit)
  |[],a=>some (.next ())
  |x17::rest14,a=>(j4 ([c.aR]++c.args) (a:Int)).bind fun d=>(pD N d (e.heap.length:Int)).bind fun b=>bif !b=0 then some (.ret b)else nG N e c rest14 (a+1)
def pb (N:Nat) (c:Wd) (a:P8) (b:Int):Option Int :=
  (kE N a.name).bind fun d=>bif !d then some 7 else bif 4<(a.args.length:Int)then some 5 else(bif b<0 then some true else some (decide (400<b))).bind fun e=>bif e then some 3 else bif IN (([a.aR].length+a.args.length)*16) 140737488355328 then(nG N c a ([a.aR]++a.args) 0).bind fun o=>match o with|.ret r=>some r|.next ()=>some 0 else none
def kC (N:Nat) (c:(List Ob)) (a:V):Option Int :=
  bif a.k=0 then some 1 else(bif a.k=1 then some (decide (a.k=1))else some (decide (a.k=2))).bind fun d=>bif d then some 2 else bif a.k=3 then some 3 else(bif a.k=4 then bif 0<=a.n then some (decide (a.n<(c.length:Int)))else some false else some false).bind fun e=>bif e then(j4 c a.n).bind fun b=>some b.cls else some 0
def n9 (N:Nat) (a:Wd) (i:ByteArray):Nat->Int->Int->Option (H9 (Int×Int) Unit)
  |0,_,_=>none
  |k+1,c,j=>(bif 0<=c then bif c<(a.a7.length:Int)then some (decide (j<=(a.a7.length:Int)))else some false else some false).bind fun d=>bif d then(j4 a.a7 c).bind fun f=>(y7 N f.aB i fun e g=>jY N e g).bind fun b=>bif b.2 then some (.ret (c,b.1))else(j4 a.a7 c).bind fun h=>n9 N a i k h.aQ (wr (j+1))else some (.next ())
def fR (N:Nat) (a:Wd) (b:Int) (c:ByteArray):Option (Int×Int) :=
  (n9 N a c N b 0).bind fun o=>match o with|.ret r=>some r|.next ()=>some (-1,-1)
def I1 (N:Nat) (a:D5) (b:Int):Option D5 :=
  (bif a.err=0 then some b else some a.err).bind fun c=>some {a with w:=⟨a.w.a7,a.w.heap,a.w.aC⟩,err:=c}
def kp (N:Nat) (a:D5) (e:Bool):Option (Bool×D5) :=
  ((bif a.fuel<=a.sends then(I1 N {a with w:=⟨a.w.a7,a.w.heap,a.w.aC⟩} 13).bind fun b=>some (.next (b.fuel,b.sends,b.turns,b.back.k,b.back.n,b.err))else(bif e then some (decide (20<=(a.aE.length:Int)))else some false).bind fun d=>bif d then(I1 N {a with w:=⟨a.w.a7,a.w.heap,a.w.aC⟩} 14).bind fun c=>some (.next (c.fuel,c.sends,c.turns,c.back.k,c.back.n,c.err))else some (.ret (true,{a with w:=⟨a.w.a7,a.w.heap,a.w.aC⟩,sends:=wr (a.sends+1)})):Option (H9 (Bool×D5) (Int×Int×Int×Int×Int×Int))).bind fun o=>match o with|.ret r=>some (.ret r)|.next (v8,v9,v10,v11,v12,v13)=>some (.next (v8,v9,v10,v11,v12,v13)):Option (H9 (Bool×D5) (Int×Int×Int×Int×Int×Int))).bind fun o=>match o with|.ret r=>some r|.next (v1,v2,v3,v4,v5,v6)=>some (false,⟨⟨a.w.a7,a.w.heap,a.w.aC⟩,v1,v2,v3,a.aE,⟨v4,v5⟩,v6⟩)
def nJ (N:Nat) (a:Int):Option V :=
  some ⟨3,a.tmod 1073741825⟩
def pT (N:Nat) (a:Bool):Option V :=
  bif a then some ⟨2,0⟩else some ⟨1,0⟩
def rr (N:Nat) (c:Int) (a:V) (b:V):Option (V×Int) :=
  (bif !a.k=3 then some true else some (!b.k=3)).bind fun i=>bif i then some (⟨0,0⟩,12)else bif c=1 then(nJ N (wr (a.n+b.n))).bind fun g=>some (g,0)else bif c=2 then(nJ N (wr (a.n-b.n))).bind fun h=>some (h,0)else bif c=3 then(nJ N (wr (a.n*b.n))).bind fun d=>some (d,0)else bif c=4 then(pT N (a.n<b.n)).bind fun e=>some (e,0)else bif c=5 then(pT N (a.n=b.n)).bind fun f=>some (f,0)else some (⟨0,0⟩,1)
def kr (N:Nat) (a:D5) (b:V):Option D5 :=
  bif(a.aE.length:Int)=0 then some {a with w:=⟨a.w.a7,a.w.heap,a.w.aC⟩,back:=b}else(j4 a.aE (wr ((a.aE.length:Int)-1))).bind fun c=>bif IN ((c.aA.length+[b].length)*16) 140737488355328 then some {a with w:=⟨a.w.a7,a.w.heap,a.w.aC⟩,aE:=a.aE.set (wr ((a.aE.length:Int)-1)).toNat {c with aA:=c.aA++[b]}}else none
def O3 (N:Nat) (a:D5) (gq:Int->Int->Option (Fs×Bool)) (k:Int) (l:Int) (m:V) (n:(List V)):Option D5 :=
  (j4 a.w.a7 k).bind fun s=>(j4 s.aB l).bind fun d=>bif !d.args=(n.length:Int)then(I1 N {a with w:=⟨a.w.a7,a.w.heap,a.w.aC⟩} 8).bind fun r=>some {r with w:=⟨a.w.a7,a.w.heap,a.w.aC⟩,aE:=a.aE}else bif !d.aV=0 then(kp N {a with w:=⟨a.w.a7,a.w.heap,a.w.aC⟩} false).bind fun c=>bif !c.1 then some {c.2 with w:=⟨a.w.a7,a.w.heap,a.w.aC⟩,aE:=a.aE}else(j4 n 0).bind fun q=>(rr N d.aV m q).bind fun e=>bif !e.2=0 then(I1 N {c.2 with w:=⟨a.w.a7,a.w.heap,a.w.aC⟩,aE:=a.aE} e.2).bind fun o=>some {o with w:=⟨a.w.a7,a.w.heap,a.w.aC⟩,aE:=a.aE}else(kr N {c.2 with w:=⟨a.w.a7,a.w.heap,a.w.aC⟩,aE:=a.aE} e.1).bind fun p=>some {p with w:=⟨a.w.a7,a.w.heap,a.w.aC⟩}else(kp N {a with w:=⟨a.w.a7,a.w.heap,a.w.aC⟩} true).bind fun f=>bif !f.1 then some {f.2 with w:=⟨a.w.a7,a.w.heap,a.w.aC⟩,aE:=a.aE}else(mr N n).bind fun g=>bif 0<=d.a8&&d.a8<=140737488355328&&d.a8*16<=140737488355328 then(gq k l).bind fun b=>(bif b.2 then bif 0<=b.1.a8&&b.1.a8<=140737488355328&&b.1.a8*16<=140737488355328 then some (true,b.1.code,MI b.1.a8.toNat ⟨0,0⟩)else none else some (false,d.code,MI d.a8.toNat ⟨0,0⟩)).bind fun(h,i,j)=>bif IN ((a.aE.length+[(⟨k,l,h,i,m,g,j,[],0⟩:j3)].length)*144) 140737488355328 then some {f.2 with w:=⟨a.w.a7,a.w.heap,a.w.aC⟩,aE:=a.aE++[⟨k,l,h,i,m,g,j,[],0⟩]}else none else none
def mi (N:Nat) (b:D5) (gl:St->Int->ByteArray->Option (Int×Int)) (gq:Int->Int->Option (Fs×Bool)) (l:Nat) (e:Ins) (n:Int):Option D5 :=
  b.aE[l]?.bind fun d=>bif 0<=wr ((d.aA.length:Int)-e.a)&&wr ((d.aA.length:Int)-e.a)<=(d.aA.length:Int)then(mr N (d.aA.drop (wr ((d.aA.length:Int)-e.a)).toNat)).bind fun o=>(j4 d.aA (wr (wr ((d.aA.length:Int)-e.a)-1))).bind fun m=>(j4 b.w.a7 d.aI).bind fun p=>(j4 p.aB d.aL).bind fun k=>(bif d.aY then some e.c else some n).bind fun j=>(kC N b.w.heap m).bind fun g=>(gl ⟨d.aI,k.name,j⟩ g e.name).bind fun f=>bif f.2<0 then(I1 N {b with w:=⟨b.w.a7,b.w.heap,b.w.aC⟩} 10).bind fun h=>some {h with w:=⟨b.w.a7,b.w.heap,b.w.aC⟩,aE:=b.aE}else bif 0<=wr (wr ((d.aA.length:Int)-e.a)-1)&&wr (wr ((d.aA.length:Int)-e.a)-1)<=(d.aA.length:Int)then(O3 N {b with w:=⟨b.w.a7,b.w.heap,b.w.aC⟩,aE:=b.aE.set l {d with aA:=d.aA.take (wr (wr ((d.aA.length:Int)-e.a)-1)).toNat}} gq f.1 f.2 m o).bind fun i=>some {i with w:=⟨b.w.a7,b.w.heap,b.w.aC⟩}else none else none
def kt (N:Nat) (a:D5) (i:Nat) (j:Int):Option D5 :=
  a.aE[i]?.bind fun l=>(bif j<l.aH then(bif 300<wr (a.turns+1)then(I1 N {a with w:=⟨a.w.a7,a.w.heap,a.w.aC⟩,turns:=wr (a.turns+1)} 16).bind fun b=>some (b.fuel,b.sends,b.turns,b.back.k,b.back.n,b.err)else some (a.fuel,a.sends,wr (a.turns+1),a.back.k,a.back.n,a.err)).bind fun(c,d,e,f,g,h)=>some (c,d,e,f,g,h)else some (a.fuel,a.sends,a.turns,a.back.k,a.back.n,a.err)).bind fun(m,o,p,q,r,s)=>some ⟨⟨a.w.a7,a.w.heap,a.w.aC⟩,m,o,p,a.aE.set i {l with aH:=j},⟨q,r⟩,s⟩
def Y9 (N:Nat) (fr:(List j3)) (b:Nat):Option (V×(List j3)) :=
  fr[b]?.bind fun a=>(j4 a.aA (wr ((a.aA.length:Int)-1))).bind fun c=>bif 0<=wr ((a.aA.length:Int)-1)&&wr ((a.aA.length:Int)-1)<=(a.aA.length:Int)then some (c,fr.set b {a with aA:=a.aA.take (wr ((a.aA.length:Int)-1)).toNat})else none
def oj (N:Nat) (e:D5) (g:Nat) (h:Ins):Option D5 :=
  e.aE[g]?.bind fun f=>(j4 f.aA (wr (wr ((f.aA.length:Int)-1)-h.b))).bind fun j=>(kC N e.w.heap j).bind fun i=>bif i=h.a then some {e with w:=⟨e.w.a7,e.w.heap,e.w.aC⟩}else(j4 e.w.a7 f.aI).bind fun k=>(j4 k.aB f.aL).bind fun d=>bif 0<=d.a8&&d.a8<=(f.a8.length:Int)then some {e with w:=⟨e.w.a7,e.w.heap,e.w.aC⟩,aE:=(((e.aE.set g {f with aY:=false}).set g {f with aY:=false,code:=d.code}).set g {f with aY:=false,code:=d.code,aH:=h.c}).set g {f with aY:=false,code:=d.code,a8:=f.a8.take d.a8.toNat,aH:=h.c}}else none
def O6 (N:Nat) (b:V) (fr:(List j3)) (c:Nat):Option (List j3) :=
  fr[c]?.bind fun a=>bif IN ((a.aA.length+[b].length)*16) 140737488355328 then some (fr.set c {a with aA:=a.aA++[b]})else none
def oh (N:Nat) (b:V) (fr:(List j3)) (c:Nat):Option (List j3) :=
  fr[c]?.bind fun a=>bif IN ((a.aA.length+[b].length)*16) 140737488355328 then some (fr.set c {a with aA:=a.aA++[b]})else none
def pO (N:Nat) (b:(List Ob)) (a:V) (c:Int):Option V :=
  (bif !a.k=4 then some true else bif a.n<0 then some true else bif(b.length:Int)<=a.n then some true else bif c<0 then some true else(j4 b a.n).bind fun g=>some (decide ((g.aG.length:Int)<=c))).bind fun f=>bif f then some ⟨0,0⟩else(j4 b a.n).bind fun d=>(j4 d.aG c).bind fun e=>some e
def qx (N:Nat) (a:V) (b:(List V)) (fr:(List j3)) (c:Nat):Option (List V) :=
  fr[c]?.bind fun d=>bif IN ((b.length+[a].length)*16) 140737488355328 then some (b++[a])else none
def ot (N:Nat) (fr:(List j3)) (b:Nat):Option (V×(List j3)) :=
  fr[b]?.bind fun a=>(j4 a.aA (wr ((a.aA.length:Int)-1))).bind fun c=>bif 0<=wr ((a.aA.length:Int)-1)&&wr ((a.aA.length:Int)-1)<=(a.aA.length:Int)then some (c,fr.set b {a with aA:=a.aA.take (wr ((a.aA.length:Int)-1)).toNat})else none
def oo (N:Nat) (a:D5) (b:V) (d:Int) (f:V):Option D5 :=
  (a.w.heap[b.n.toNat]?.elim (bif b.k=4 then bif b.n<(a.w.heap.length:Int)then none else some false else some false) fun l=>bif b.k=4 then bif b.n<(a.w.heap.length:Int)then(j4 a.w.heap b.n).bind fun h=>some (d<(l.aG.length:Int))else some false else some false:Option Bool).bind fun g=>(bif g then a.w.heap[b.n.toNat]?.elim none fun c=>(j4 a.w.heap b.n).bind fun i=>(j4 c.aG d).bind fun j=>some (a.w.heap.set b.n.toNat ⟨c.cls,c.aG.set d.toNat f⟩)else some a.w.heap).bind fun e=>some {a with w:=⟨a.w.a7,e,a.w.aC⟩}
def om (N:Nat) (c:D5) (d:Nat) (e:Ins):Option D5 :=
  ((bif e.op=1 then c.aE[d]?.bind fun U=>(O6 N U.aR c.aE d).bind fun M=>some (.next (c.w.heap,c.fuel,c.sends,c.turns,M,c.back.k,c.back.n,c.err))else(bif e.op=2 then c.aE[d]?.bind fun V=>(j4 V.args e.a).bind fun W=>(O6 N W c.aE d).bind fun O=>some (.next (c.w.heap,c.fuel,c.sends,c.turns,O,c.back.k,c.back.n,c.err))else(bif e.op=3 then c.aE[d]?.bind fun L=>(j4 L.a8 e.a).bind fun X=>(oh N X c.aE d).bind fun D=>D[d]?.bind fun Y=>some (.next (c.w.heap,c.fuel,c.sends,c.turns,D.set d {Y with a8:=L.a8},c.back.k,c.back.n,c.err))else(bif e.op=4 then c.aE[d]?.bind fun Z=>(pO N c.w.heap Z.aR e.a).bind fun P=>(O6 N P c.aE d).bind fun Q=>some (.next (c.w.heap,c.fuel,c.sends,c.turns,Q,c.back.k,c.back.n,c.err))else(bif e.op=5 then(O6 N ⟨3,e.a⟩ c.aE d).bind fun R=>some (.next (c.w.heap,c.fuel,c.sends,c.turns,R,c.back.k,c.back.n,c.err))else(bif e.op=6 then(O6 N ⟨0,0⟩ c.aE d).bind fun S=>some (.next (c.w.heap,c.fuel,c.sends,c.turns,S,c.back.k,c.back.n,c.err))else(bif e.op=7 then some (decide (e.op=7))else some (decide (e.op=8))).bind fun T=>(bif T then(pT N (e.op=8)).bind fun u=>(O6 N u c.aE d).bind fun v=>some (.next (c.w.heap,c.fuel,c.sends,c.turns,v,c.back.k,c.back.n,c.err))else(bif e.op=9 then(Y9 N c.aE d).bind fun x=>some (.next (c.w.heap,c.fuel,c.sends,c.turns,x.2,c.back.k,c.back.n,c.err))else(bif e.op=10 then c.aE[d]?.bind fun l=>(j4 l.aA (wr ((l.aA.length:Int)-1))).bind fun E=>(qx N E l.aA c.aE d).bind fun y=>some (.next (c.w.heap,c.fuel,c.sends,c.turns,c.aE.set d {l with aA:=y},c.back.k,c.back.n,c.err))else(bif e.op=11 then c.aE[d]?.bind fun q=>(ot N c.aE d).bind fun m=>m.2[d]?.bind fun F=>(j4 q.a8 e.a).bind fun x160=>some (.next (c.w.heap,c.fuel,c.sends,c.turns,m.2.set d {F with a8:=q.a8.set e.a.toNat m.1},c.back.k,c.back.n,c.err))else(bif e.op=12 then c.aE[d]?.bind fun G=>(Y9 N c.aE d).bind fun h=>h.2[d]?.bind fun x176=>(oo N {c with w:=⟨c.w.a7,c.w.heap,c.w.aC⟩,aE:=h.2} G.aR e.a h.1).bind fun f=>some (.next (f.w.heap,f.fuel,f.sends,f.turns,h.2,f.back.k,f.back.n,f.err))else(bif e.op=19 then c.aE[d]?.bind fun s=>(j4 s.a8 e.a).bind fun H=>(pO N c.w.heap H e.b).bind fun z=>(oh N z c.aE d).bind fun p=>p[d]?.bind fun I=>some (.next (c.w.heap,c.fuel,c.sends,c.turns,p.set d {I with a8:=s.a8},c.back.k,c.back.n,c.err))else(bif e.op=20 then c.aE[d]?.bind fun t=>(j4 t.a8 e.a).bind fun J=>(ot N c.aE d).bind fun i=>i.2[d]?.bind fun K=>(oo N {c with w:=⟨c.w.a7,c.w.heap,c.w.aC⟩,aE:=i.2} J e.b i.1).bind fun g=>some (.next (g.w.heap,g.fuel,g.sends,g.turns,i.2.set d {K with a8:=t.a8},g.back.k,g.back.n,g.err))else(bif e.op=13 then(iI N ⟨c.w.a7,c.w.heap,c.w.aC⟩ e.a).bind fun A=>(ja N c.w.heap e.a A).bind fun j=>bif !j.2.2=0 then(I1 N {c with w:=⟨c.w.a7,c.w.heap,c.w.aC⟩} j.2.2).bind fun B=>some (.ret {B with w:=⟨c.w.a7,c.w.heap,c.w.aC⟩,aE:=c.aE})else(O6 N j.2.1 c.aE d).bind fun C=>some (.next (j.1,C))else some (.next (c.w.heap,c.aE)):Option (H9 D5 ((List Ob)×(List j3)))).bind fun o=>match o with|.ret r=>some (.ret r)|.next (v220,v221)=>some (.next (v220,c.fuel,c.sends,c.turns,v221,c.back.k,c.back.n,c.err)):Option (H9 D5 ((List Ob)×Int×Int×Int×(List j3)×Int×Int×Int))).bind fun o=>match o with|.ret r=>some (.ret r)|.next (v200,v201,v202,v203,v204,v205,v206,v207)=>some (.next (v200,v201,v202,v203,v204,v205,v206,v207)):Option (H9 D5 ((List Ob)×Int×Int×Int×(List j3)×Int×Int×Int))).bind fun o=>match o with|.ret r=>some (.ret r)|.next (v180,v181,v182,v183,v184,v185,v186,v187)=>some (.next (v180,v181,v182,v183,v184,v185,v186,v187)):Option (H9 D5 ((List Ob)×Int×Int×Int×(List j3)×Int×Int×Int))).bind fun o=>match o with|.ret r=>some (.ret r)|.next (v162,v163,v164,v165,v166,v167,v168,v169)=>some (.next (v162,v163,v164,v165,v166,v167,v168,v169)):Option (H9 D5 ((List Ob)×Int×Int×Int×(List j3)×Int×Int×Int))).bind fun o=>match o with|.ret r=>some (.ret r)|.next (v144,v145,v146,v147,v148,v149,v150,v151)=>some (.next (v144,v145,v146,v147,v148,v149,v150,v151)):Option (H9 D5 ((List Ob)×Int×Int×Int×(List j3)×Int×Int×Int))).bind fun o=>match o with|.ret r=>some (.ret r)|.next (v127,v128,v129,v130,v131,v132,v133,v134)=>some (.next (v127,v128,v129,v130,v131,v132,v133,v134)):Option (H9 D5 ((List Ob)×Int×Int×Int×(List j3)×Int×Int×Int))).bind fun o=>match o with|.ret r=>some (.ret r)|.next (v115,v116,v117,v118,v119,v120,v121,v122)=>some (.next (v115,v116,v117,v118,v119,v120,v121,v122)):Option (H9 D5 ((List Ob)×Int×Int×Int×(List j3)×Int×Int×Int))).bind fun o=>match o with|.ret r=>some (.ret r)|.next (v101,v102,v103,v104,v105,v106,v107,v108)=>some (.next (v101,v102,v103,v104,v105,v106,v107,v108)):Option (H9 D5 ((List Ob)×Int×Int×Int×(List j3)×Int×Int×Int))).bind fun o=>match o with|.ret r=>some (.ret r)|.next (v86,v87,v88,v89,v90,v91,v92,v93)=>some (.next (v86,v87,v88,v89,v90,v91,v92,v93)):Option (H9 D5 ((List Ob)×Int×Int×Int×(List j3)×Int×Int×Int))).bind fun o=>match o with|.ret r=>some (.ret r)|.next (v74,v75,v76,v77,v78,v79,v80,v81)=>some (.next (v74,v75,v76,v77,v78,v79,v80,v81)):Option (H9 D5 ((List Ob)×Int×Int×Int×(List j3)×Int×Int×Int))).bind fun o=>match o with|.ret r=>some (.ret r)|.next (v58,v59,v60,v61,v62,v63,v64,v65)=>some (.next (v58,v59,v60,v61,v62,v63,v64,v65)):Option (H9 D5 ((List Ob)×Int×Int×Int×(List j3)×Int×Int×Int))).bind fun o=>match o with|.ret r=>some (.ret r)|.next (v40,v41,v42,v43,v44,v45,v46,v47)=>some (.next (v40,v41,v42,v43,v44,v45,v46,v47)):Option (H9 D5 ((List Ob)×Int×Int×Int×(List j3)×Int×Int×Int))).bind fun o=>match o with|.ret r=>some (.ret r)|.next (v24,v25,v26,v27,v28,v29,v30,v31)=>some (.next (v24,v25,v26,v27,v28,v29,v30,v31)):Option (H9 D5 ((List Ob)×Int×Int×Int×(List j3)×Int×Int×Int))).bind fun o=>match o with|.ret r=>some (.ret r)|.next (v10,v11,v12,v13,v14,v15,v16,v17)=>some (.next (v10,v11,v12,v13,v14,v15,v16,v17)):Option (H9 D5 ((List Ob)×Int×Int×Int×(List j3)×Int×Int×Int))).bind fun o=>match o with|.ret r=>some r|.next (v1,v2,v3,v4,v5,v6,v7,v8)=>some ⟨⟨c.w.a7,v1,c.w.aC⟩,v2,v3,v4,v5,⟨v6,v7⟩,v8⟩
def mj (N:Nat) (b:D5) (gl:St->Int->ByteArray->Option (Int×Int)) (gq:Int->Int->Option (Fs×Bool)):Option D5 :=
  (j4 b.aE (wr ((b.aE.length:Int)-1))).bind fun h=>(j4 h.code h.aH).bind fun p=>((bif p.op=14 then(mi N {b with w:=⟨b.w.a7,b.w.heap,b.w.aC⟩,aE:=b.aE.set (wr ((b.aE.length:Int)-1)).toNat {h with aH:=wr (h.aH+1)}} gl gq (wr ((b.aE.length:Int)-1)).toNat p h.aH).bind fun i=>some (b.w.a7,b.w.heap,b.w.aC,i.fuel,i.sends,i.turns,i.aE,i.back.k,i.back.n,i.err)else(bif p.op=15 then(kt N {b with w:=⟨b.w.a7,b.w.heap,b.w.aC⟩,aE:=b.aE.set (wr ((b.aE.length:Int)-1)).toNat {h with aH:=wr (h.aH+1)}} (wr ((b.aE.length:Int)-1)).toNat p.a).bind fun j=>some (b.w.a7,b.w.heap,b.w.aC,j.fuel,j.sends,j.turns,j.aE,j.back.k,j.back.n,j.err)else(bif p.op=16 then(Y9 N (b.aE.set (wr ((b.aE.length:Int)-1)).toNat {h with aH:=wr (h.aH+1)}) (wr ((b.aE.length:Int)-1)).toNat).bind fun o=>((bif o.1.k=1 then(kt N {b with w:=⟨b.w.a7,b.w.heap,b.w.aC⟩,aE:=o.2} (wr ((b.aE.length:Int)-1)).toNat p.a).bind fun l=>some (l.fuel,l.sends,l.turns,l.aE,l.back.k,l.back.n,l.err)else(bif o.1.k=2 then some (b.fuel,b.sends,b.turns,b.back.k,b.back.n,b.err)else(I1 N {b with w:=⟨b.w.a7,b.w.heap,b.w.aC⟩,aE:=o.2} 11).bind fun m=>some (m.fuel,m.sends,m.turns,m.back.k,m.back.n,m.err)).bind fun(v78,v79,v80,v81,v82,v83)=>some (v78,v79,v80,o.2,v81,v82,v83)).bind fun(v67,v68,v69,v70,v71,v72,v73)=>some (v67,v68,v69,v70,v71,v72,v73):Option (Int×Int×Int×(List j3)×Int×Int×Int)).bind fun(v59,v60,v61,v62,v63,v64,v65)=>some (b.w.a7,b.w.heap,b.w.aC,v59,v60,v61,v62,v63,v64,v65)else(bif p.op=17 then(Y9 N (b.aE.set (wr ((b.aE.length:Int)-1)).toNat {h with aH:=wr (h.aH+1)}) (wr ((b.aE.length:Int)-1)).toNat).bind fun f=>bif 0<=wr ((f.2.length:Int)-1)&&wr ((f.2.length:Int)-1)<=(f.2.length:Int)then(kr N {b with w:=⟨b.w.a7,b.w.heap,b.w.aC⟩,aE:=f.2.take (wr ((f.2.length:Int)-1)).toNat} f.1).bind fun d=>some (b.w.a7,b.w.heap,b.w.aC,d.fuel,d.sends,d.turns,d.aE,d.back.k,d.back.n,d.err)else none else(bif p.op=18 then(oj N {b with w:=⟨b.w.a7,b.w.heap,b.w.aC⟩,aE:=b.aE.set (wr ((b.aE.length:Int)-1)).toNat {h with aH:=wr (h.aH+1)}} (wr ((b.aE.length:Int)-1)).toNat p).bind fun e=>some (b.w.a7,b.w.heap,b.w.aC,e.fuel,e.sends,e.turns,e.aE,e.back.k,e.back.n,e.err)else(bif p.op=21 then(kp N {b with w:=⟨b.w.a7,b.w.heap,b.w.aC⟩,aE:=b.aE.set (wr ((b.aE.length:Int)-1)).toNat {h with aH:=wr (h.aH+1)}} true).bind fun g=>some (b.w.a7,b.w.heap,b.w.aC,g.2.fuel,g.2.sends,g.2.turns,b.aE.set (wr ((b.aE.length:Int)-1)).toNat {h with aH:=wr (h.aH+1)},g.2.back.k,g.2.back.n,g.2.err)else(om N {b with w:=⟨b.w.a7,b.w.heap,b.w.aC⟩,aE:=b.aE.set (wr ((b.aE.length:Int)-1)).toNat {h with aH:=wr (h.aH+1)}} (wr ((b.aE.length:Int)-1)).toNat p).bind fun c=>some (c.w.a7,c.w.heap,c.w.aC,c.fuel,c.sends,c.turns,c.aE,c.back.k,c.back.n,c.err)).bind fun(B,C,D,E,F,G,H,I,J,K)=>some (B,C,D,E,F,G,H,I,J,K)).bind fun(q,r,s,t,u,v,x,y,z,A)=>some (q,r,s,t,u,v,x,y,z,A)).bind fun(v88,v89,v90,v91,v92,v93,v94,v95,v96,v97)=>some (v88,v89,v90,v91,v92,v93,v94,v95,v96,v97)).bind fun(v45,v46,v47,v48,v49,v50,v51,v52,v53,v54)=>some (v45,v46,v47,v48,v49,v50,v51,v52,v53,v54)).bind fun(v31,v32,v33,v34,v35,v36,v37,v38,v39,v40)=>some (v31,v32,v33,v34,v35,v36,v37,v38,v39,v40)).bind fun(S,T,U,V,W,X,Y,Z,v25,v26)=>some (S,T,U,V,W,X,Y,Z,v25,v26):Option ((List Cl)×(List Ob)×Int×Int×Int×Int×(List j3)×Int×Int×Int)).bind fun(v6,v7,v8,v9,L,M,O,P,Q,R)=>some ⟨⟨v6,v7,v8⟩,v9,L,M,O,⟨P,Q⟩,R⟩
def kD (N:Nat) (p:(St->Int->ByteArray->Option (Int×Int))) (q:(Int->Int->Option (Fs×Bool))):Nat->(List Cl)->(List Ob)->Int->Int->Int->Int->(List j3)->Int->Int->Int->Option (((List Cl)×(List Ob)×Int×Int×Int×Int×(List j3)×Int×Int×Int))
  |0,_,_,_,_,_,_,_,_,_,_=>none
  |m+1,d,e,f,g,h,i,b,j,l,c=>(bif c=0 then some (decide (0<(b.length:Int)))else some false).bind fun o=>bif o then(mj N ⟨⟨d,e,f⟩,g,h,i,b,⟨j,l⟩,c⟩ p q).bind fun a=>kD N p q m a.w.a7 a.w.heap a.w.aC a.fuel a.sends a.turns a.aE a.back.k a.back.n a.err else some (d,e,f,g,h,i,b,j,l,c)
def iK (N:Nat) (h:Wd) (e:P8) (i:Int) (A:St->Int->ByteArray->Option (Int×Int)) (y:Int->Int->Option (Fs×Bool)):Option (Wd×dw) :=
  (pb N h e i).bind fun z=>bif !z=0 then(gd N h).bind fun B=>some (B,⟨⟨0,0⟩,z,0⟩)else(gd N h).bind fun c=>(kC N c.heap e.aR).bind fun C=>(fR N ⟨c.a7,c.heap,c.aC⟩ C e.name).bind fun d=>(bif d.2<0 then(I1 N ⟨⟨c.a7,c.heap,c.aC⟩,i,0,0,[],⟨0,0⟩,0⟩ 10).bind fun b=>some (b.fuel,b.sends,b.turns,[],b.back.k,b.back.n,b.err)else(O3 N ⟨⟨c.a7,c.heap,c.aC⟩,i,0,0,[],⟨0,0⟩,0⟩ y d.1 d.2 e.aR e.args).bind fun a=>some (a.fuel,a.sends,a.turns,a.aE,a.back.k,a.back.n,a.err)).bind fun(l,m,o,p,q,r,s)=>(kD N A y N c.a7 c.heap c.aC l m o p q r s).bind fun(t,u,v,D,f,E,F,w,x,g)=>bif !g=0 then(gd N h).bind fun j=>some (j,⟨⟨0,0⟩,g,f⟩)else some (⟨t,u,v⟩,⟨⟨w,x⟩,0,f⟩)
def pK (N:Nat) (e:St) (b:Int) (c:ByteArray) (d:Wd):Option (Int×Int) :=
  (fR N d b c).bind fun a=>some (a.1,a.2)
def ph (N:Nat) (a:Int) (b:Int):Option (Fs×Bool) :=
  some (⟨0,BY,0,0,[]⟩,false)
def sK (N:Nat) (d:Wd) (f:P8) (g:Int):Option (Wd×dw) :=
  (iK N d f g (fun a b c=>pK N a b c d) fun a b=>ph N a b).bind fun e=>some (e.1,e.2)
def r7 (N:Nat) (b:D5) (gl:St->Int->ByteArray->C9->Option (Int×Int×C9)) (gq:Int->Int->Option (Fs×Bool)) (sb:C9) (l:Nat) (f:Ins) (n:Int):Option (C9×D5) :=
  b.aE[l]?.bind fun d=>bif 0<=wr ((d.aA.length:Int)-f.a)&&wr ((d.aA.length:Int)-f.a)<=(d.aA.length:Int)then(mr N (d.aA.drop (wr ((d.aA.length:Int)-f.a)).toNat)).bind fun o=>(j4 d.aA (wr (wr ((d.aA.length:Int)-f.a)-1))).bind fun m=>(j4 b.w.a7 d.aI).bind fun p=>(j4 p.aB d.aL).bind fun k=>(bif d.aY then some f.c else some n).bind fun j=>(kC N b.w.heap m).bind fun g=>(gl ⟨d.aI,k.name,j⟩ g f.name sb).bind fun e=>bif e.2.1<0 then(I1 N {b with w:=⟨b.w.a7,b.w.heap,b.w.aC⟩} 10).bind fun h=>some (e.2.2,{h with w:=⟨b.w.a7,b.w.heap,b.w.aC⟩,aE:=b.aE})else bif 0<=wr (wr ((d.aA.length:Int)-f.a)-1)&&wr (wr ((d.aA.length:Int)-f.a)-1)<=(d.aA.length:Int)then(O3 N {b with w:=⟨b.w.a7,b.w.heap,b.w.aC⟩,aE:=b.aE.set l {d with aA:=d.aA.take (wr (wr ((d.aA.length:Int)-f.a)-1)).toNat}} gq e.1 e.2.1 m o).bind fun i=>some (e.2.2,{i with w:=⟨b.w.a7,b.w.heap,b.w.aC⟩})else none else none
def r6 (N:Nat) (b:D5) (gl:St->Int->ByteArray->C9->Option (Int×Int×C9)) (gq:Int->Int->Option (Fs×Bool)) (sb:C9):Option (C9×D5) :=
  (j4 b.aE (wr ((b.aE.length:Int)-1))).bind fun h=>(j4 h.code h.aH).bind fun p=>((bif p.op=14 then(r7 N {b with w:=⟨b.w.a7,b.w.heap,b.w.aC⟩,aE:=b.aE.set (wr ((b.aE.length:Int)-1)).toNat {h with aH:=wr (h.aH+1)}} gl gq sb (wr ((b.aE.length:Int)-1)).toNat p h.aH).bind fun i=>some (b.w.a7,b.w.heap,b.w.aC,i.1,i.2.fuel,i.2.sends,i.2.turns,i.2.aE,i.2.back.k,i.2.back.n,i.2.err)else(bif p.op=15 then(kt N {b with w:=⟨b.w.a7,b.w.heap,b.w.aC⟩,aE:=b.aE.set (wr ((b.aE.length:Int)-1)).toNat {h with aH:=wr (h.aH+1)}} (wr ((b.aE.length:Int)-1)).toNat p.a).bind fun j=>some (b.w.a7,b.w.heap,b.w.aC,j.fuel,j.sends,j.turns,j.aE,j.back.k,j.back.n,j.err)else(bif p.op=16 then(Y9 N (b.aE.set (wr ((b.aE.length:Int)-1)).toNat {h with aH:=wr (h.aH+1)}) (wr ((b.aE.length:Int)-1)).toNat).bind fun o=>((bif o.1.k=1 then(kt N {b with w:=⟨b.w.a7,b.w.heap,b.w.aC⟩,aE:=o.2} (wr ((b.aE.length:Int)-1)).toNat p.a).bind fun l=>some (l.fuel,l.sends,l.turns,l.aE,l.back.k,l.back.n,l.err)else(bif o.1.k=2 then some (b.fuel,b.sends,b.turns,b.back.k,b.back.n,b.err)else(I1 N {b with w:=⟨b.w.a7,b.w.heap,b.w.aC⟩,aE:=o.2} 11).bind fun m=>some (m.fuel,m.sends,m.turns,m.back.k,m.back.n,m.err)).bind fun(v80,v81,v82,v83,v84,v85)=>some (v80,v81,v82,o.2,v83,v84,v85)).bind fun(v69,v70,v71,v72,v73,v74,v75)=>some (v69,v70,v71,v72,v73,v74,v75):Option (Int×Int×Int×(List j3)×Int×Int×Int)).bind fun(v61,v62,v63,v64,v65,v66,v67)=>some (b.w.a7,b.w.heap,b.w.aC,v61,v62,v63,v64,v65,v66,v67)else(bif p.op=17 then(Y9 N (b.aE.set (wr ((b.aE.length:Int)-1)).toNat {h with aH:=wr (h.aH+1)}) (wr ((b.aE.length:Int)-1)).toNat).bind fun f=>bif 0<=wr ((f.2.length:Int)-1)&&wr ((f.2.length:Int)-1)<=(f.2.length:Int)then(kr N {b with w:=⟨b.w.a7,b.w.heap,b.w.aC⟩,aE:=f.2.take (wr ((f.2.length:Int)-1)).toNat} f.1).bind fun d=>some (b.w.a7,b.w.heap,b.w.aC,d.fuel,d.sends,d.turns,d.aE,d.back.k,d.back.n,d.err)else none else(bif p.op=18 then(oj N {b with w:=⟨b.w.a7,b.w.heap,b.w.aC⟩,aE:=b.aE.set (wr ((b.aE.length:Int)-1)).toNat {h with aH:=wr (h.aH+1)}} (wr ((b.aE.length:Int)-1)).toNat p).bind fun e=>some (b.w.a7,b.w.heap,b.w.aC,e.fuel,e.sends,e.turns,e.aE,e.back.k,e.back.n,e.err)else(bif p.op=21 then(kp N {b with w:=⟨b.w.a7,b.w.heap,b.w.aC⟩,aE:=b.aE.set (wr ((b.aE.length:Int)-1)).toNat {h with aH:=wr (h.aH+1)}} true).bind fun g=>some (b.w.a7,b.w.heap,b.w.aC,g.2.fuel,g.2.sends,g.2.turns,b.aE.set (wr ((b.aE.length:Int)-1)).toNat {h with aH:=wr (h.aH+1)},g.2.back.k,g.2.back.n,g.2.err)else(om N {b with w:=⟨b.w.a7,b.w.heap,b.w.aC⟩,aE:=b.aE.set (wr ((b.aE.length:Int)-1)).toNat {h with aH:=wr (h.aH+1)}} (wr ((b.aE.length:Int)-1)).toNat p).bind fun c=>some (c.w.a7,c.w.heap,c.w.aC,c.fuel,c.sends,c.turns,c.aE,c.back.k,c.back.n,c.err)).bind fun(B,C,D,E,F,G,H,I,J,K)=>some (B,C,D,E,F,G,H,I,J,K)).bind fun(q,r,s,t,u,v,x,y,z,A)=>some (q,r,s,t,u,v,x,y,z,A)).bind fun(v90,v91,v92,v93,v94,v95,v96,v97,v98,v99)=>some (v90,v91,v92,v93,v94,v95,v96,v97,v98,v99)).bind fun(v47,v48,v49,v50,v51,v52,v53,v54,v55,v56)=>some (v47,v48,v49,v50,v51,v52,v53,v54,v55,v56)).bind fun(v33,v34,v35,v36,v37,v38,v39,v40,v41,v42)=>some (v33,v34,v35,sb,v36,v37,v38,v39,v40,v41,v42)).bind fun(T,U,V,W,X,Y,Z,v25,v26,v27,v28)=>some (T,U,V,W,X,Y,Z,v25,v26,v27,v28):Option ((List Cl)×(List Ob)×Int×C9×Int×Int×Int×(List j3)×Int×Int×Int)).bind fun(v6,v7,v8,v9,L,M,O,P,Q,R,S)=>some (v9,⟨⟨v6,v7,v8⟩,L,M,O,P,⟨Q,R⟩,S⟩)
def n4 (N:Nat) (q:(St->Int->ByteArray->C9->Option (Int×Int×C9))) (r:(Int->Int->Option (Fs×Bool))):Nat->C9->(List Cl)->(List Ob)->Int->Int->Int->Int->(List j3)->Int->Int->Int->Option ((C9×(List Cl)×(List Ob)×Int×Int×Int×Int×(List j3)×Int×Int×Int))
  |0,_,_,_,_,_,_,_,_,_,_,_=>none
  |o+1,d,e,f,g,h,i,j,b,l,m,c=>(bif c=0 then some (decide (0<(b.length:Int)))else some false).bind fun p=>bif p then(r6 N ⟨⟨e,f,g⟩,h,i,j,b,⟨l,m⟩,c⟩ q r d).bind fun a=>n4 N q r o a.1 a.2.w.a7 a.2.w.heap a.2.w.aC a.2.fuel a.2.sends a.2.turns a.2.aE a.2.back.k a.2.back.n a.2.err else some (d,e,f,g,h,i,j,b,l,m,c)
def mT (N:Nat) (i:Wd) (e:P8) (j:Int) (B:St->Int->ByteArray->C9->Option (Int×Int×C9)) (sb:C9) (z:Int->Int->Option (Fs×Bool)):Option (Wd×dw×C9) :=
  (pb N i e j).bind fun A=>bif !A=0 then(gd N i).bind fun C=>some (C,⟨⟨0,0⟩,A,0⟩,sb)else(gd N i).bind fun c=>(kC N c.heap e.aR).bind fun D=>(fR N ⟨c.a7,c.heap,c.aC⟩ D e.name).bind fun d=>(bif d.2<0 then(I1 N ⟨⟨c.a7,c.heap,c.aC⟩,j,0,0,[],⟨0,0⟩,0⟩ 10).bind fun b=>some (b.fuel,b.sends,b.turns,[],b.back.k,b.back.n,b.err)else(O3 N ⟨⟨c.a7,c.heap,c.aC⟩,j,0,0,[],⟨0,0⟩,0⟩ z d.1 d.2 e.aR e.args).bind fun a=>some (a.fuel,a.sends,a.turns,a.aE,a.back.k,a.back.n,a.err)).bind fun(m,o,p,q,r,s,t)=>(n4 N B z N sb c.a7 c.heap c.aC m o p q r s t).bind fun(f,u,v,w,E,g,F,G,x,y,h)=>bif !h=0 then(gd N i).bind fun l=>some (l,⟨⟨0,0⟩,h,g⟩,f)else some (⟨u,v,w⟩,⟨⟨x,y⟩,0,g⟩,f)
def y9 (N:Nat) (g1:(Ce->Option Bool)):List Ce->Nat->Option (H9 Int Unit)
  |[],a=>some (.next ())
  |x7::rest4,a=>(g1 x7).bind fun b=>bif b then some (.ret (a:Int))else y9 N g1 rest4 (a+1)
def O0 (N:Nat) (a:(List Ce)) (g1:Ce->Option Bool):Option Int :=
  (y9 N g1 a 0).bind fun o=>match o with|.ret r=>some r|.next ()=>some (-1)
def nA (N:Nat) (a:Ce) (b:St):Option Bool :=
  some (cz (bU a.site) (bU b))
def nP (N:Nat) (b:(List Ce)) (c:St):Option Int :=
  (O0 N b fun a=>nA N a c).bind fun d=>some d
def nI (N:Nat) (b:Int):List Ln->Nat->Option (H9 Int Unit)
  |[],a=>some (.next ())
  |x17::rest14,a=>bif x17.cls=b then some (.ret x17.found)else nI N b rest14 (a+1)
def sH (N:Nat) (a:(List Ce)) (c:St) (d:Int) (e:Int):Option Int :=
  (nP N a c).bind fun b=>(bif b<0 then some true else(j4 a b).bind fun g=>some (!g.aC=d)).bind fun f=>bif f then some (-1)else(j4 a b).bind fun h=>(nI N e h.lines 0).bind fun o=>match o with|.ret r=>some r|.next ()=>some (-1)
def y8 (N:Nat) (g1:(Ln->Option Bool)):List Ln->Nat->Option (H9 Int Unit)
  |[],a=>some (.next ())
  |x7::rest4,a=>(g1 x7).bind fun b=>bif b then some (.ret (a:Int))else y8 N g1 rest4 (a+1)
def I9 (N:Nat) (a:(List Ln)) (g1:Ln->Option Bool):Option Int :=
  (y8 N g1 a 0).bind fun o=>match o with|.ret r=>some r|.next ()=>some (-1)
def R5 (N:Nat) (a:(List Ln)) (g1:Ln->Option Bool):Option Bool :=
  (I9 N a g1).bind fun b=>some (0<=b)
def ri (N:Nat) (b:Ln) (c:Int):Option Bool :=
  some (b.cls=c)
def fb (e:Int) (x:Ce):Ce:=
  if x.aC=e then x else⟨x.site,e,false,[]⟩
def Y3 (c f:Int) (y:Ce):Ce:=if y.many=true\/0<=fk (fun t:Ln=>decide (t.cls=c)) y.lines then y else if(3:Int)<=(y.lines.length:Int) then⟨y.site,y.aC,true,[]⟩ else⟨y.site,y.aC,y.many,y.lines++[⟨c,f⟩]⟩
def iP (e c f:Int) (x:Ce):Ce:=
  Y3 c f (fb e x)
def sI (N:Nat) (a:List Ce) (b:St) (c:Int) (d:Int) (e:Int):Option (List Ce) :=
  bif (IN ((a.length+1)*72) 140737488355328 && a.all fun t=>IN ((t.lines.length+1)*16) 140737488355328) then
    some ((bb (fun t:Ce=>decide (t.site=b)) ⟨b,c,false,[]⟩ a).1.modify (bb (fun t:Ce=>decide (t.site=b)) ⟨b,c,false,[]⟩ a).2 (iP c d e)) else none
def rq (N:Nat) (c:(List Ce)) (b:Wd) (i:St) (d:Int) (j:ByteArray):Option ((List Ce)×Int×Int×Bool) :=
  (sH N c i b.aC d).bind fun e=>(bif 0<=e then some (decide (e<(b.a7.length:Int)))else some false).bind fun l=>bif l then(fR N b e j).bind fun k=>(lV N c).bind fun f=>some (f,k.1,k.2,true)else(fR N b d j).bind fun a=>bif a.2<0 then(lV N c).bind fun g=>some (g,a.1,a.2,false)else(sI N c i b.aC d a.1).bind fun h=>some (h,a.1,a.2,false)
def F3 (N:Nat) (g1:(Tl->Option Bool)):List Tl->Nat->Option (H9 Int Unit)
  |[],a=>some (.next ())
  |x7::rest4,a=>(g1 x7).bind fun b=>bif b then some (.ret (a:Int))else F3 N g1 rest4 (a+1)
def U4 (N:Nat) (a:(List Tl)) (g1:Tl->Option Bool):Option Int :=
  (F3 N g1 a 0).bind fun o=>match o with|.ret r=>some r|.next ()=>some (-1)
def rh (N:Nat) (a:Tl) (b:St):Option Bool :=
  some (cz (bU a.site) (bU b))
def rW (N:Nat) (a:Ln) (b:Int):Option Bool :=
  some (a.cls=b)
def fg (c:Int) (l:List Ln):List Ln:=let q:=bb (fun x=>decide (x.cls=c)) ⟨c,0⟩ l;q.1.modify q.2 fun x=>⟨x.cls,wr (x.found+1)⟩
def tO (s:St) (c:Int) (l:List Tl):List Tl:=let q:=bb (fun t=>decide (t.site=s)) ⟨s,[]⟩ l;q.1.modify q.2 fun t=>⟨t.site,fg c t.a7⟩
def sJ (N:Nat) (a:List Tl) (b:St) (c:Int):Option (List Tl) :=
  bif IN ((a.length+1)*56) 140737488355328&&a.all fun t=>IN ((t.a7.length+1)*16) 140737488355328 then some (tO b c a)else none
def p6 (N:Nat) (c:St) (d:Int) (e:ByteArray) (a:C9) (f:Wd):Option (Int×Int×C9) :=
  (rq N a.cells f c d e).bind fun b=>(sJ N a.aX c d).bind fun g=>(bif b.2.2.2 then some (wr (a.hO+1),a.not)else some (a.hO,wr (a.not+1))).bind fun(h,i)=>some (b.2.1,b.2.2.1,⟨a.world,a.ew,b.1,g,h,i⟩)
def rp (N:Nat) (e:Wd) (f:P8) (g:Int) (h:(List Ce)) (i:(List Tl)):Option C9 :=
  (lV N h).bind fun j=>(pX N i).bind fun k=>(mT N e f g (fun a b d l=>p6 N a b d l e) ⟨⟨[],[],0⟩,⟨⟨0,0⟩,0,0⟩,j,k,0,0⟩ fun a b=>ph N a b).bind fun c=>some {c.2.2 with world:=c.1,ew:=c.2.1}
def nD (N:Nat):List Ln->Nat->Int->Int->Option ((Int×Int))
  |[],c,b,a=>some (b,a)
  |x32::rest29,c,b,a=>((bif a<x32.found then some true else bif x32.found=a then bif 0<a then some (decide (x32.cls<b))else some false else some false).bind fun f=>(bif f then some (x32.cls,x32.found)else some (b,a)).bind fun(g,h)=>some (g,h):Option (Int×Int)).bind fun(d,e)=>nD N rest29 (c+1) d e
def mz (N:Nat) (g:St):List Tl->Nat->Int->Int->Option ((Int×Int))
  |[],h,a,b=>some (a,b)
  |x13::rest10,h,a,b=>(bif !cz (bU x13.site) (bU g)then some (a,b)else(nD N x13.a7 0 a b).bind fun(e,f)=>some (e,f)).bind fun(c,d)=>mz N g rest10 (h+1) c d
def sB (N:Nat) (a:(List Tl)) (b:St):Option (Int×Int) :=
  (mz N b a 0 (-1) 0).bind fun(c,d)=>some (c,d)
def nL (N:Nat):List Ln->Nat->Int->Option (Int)
  |[],b,a=>some a
  |x25::rest22,b,a=>nL N rest22 (b+1) (wr (a+x25.found))
def nK (N:Nat) (d:St):List Tl->Nat->Int->Option (Int)
  |[],e,a=>some a
  |x10::rest7,e,a=>(bif !cz (bU x10.site) (bU d)then some a else(nL N x10.a7 0 a).bind fun c=>some c).bind fun b=>nK N d rest7 (e+1) b
def sL (N:Nat) (a:(List Tl)) (b:St):Option Int :=
  (nK N b a 0 0).bind fun c=>some c
def F9 (N:Nat) (g1:(Ins->Option Bool)):List Ins->Nat->Option (H9 Int Unit)
  |[],a=>some (.next ())
  |x7::rest4,a=>(g1 x7).bind fun b=>bif b then some (.ret (a:Int))else F9 N g1 rest4 (a+1)
def X8 (N:Nat) (a:(List Ins)) (g1:Ins->Option Bool):Option Int :=
  (F9 N g1 a 0).bind fun o=>match o with|.ret r=>some r|.next ()=>some (-1)
def U5 (N:Nat) (a:(List Ins)) (g1:Ins->Option Bool):Option Bool :=
  (X8 N a g1).bind fun b=>some (0<=b)
def ox (N:Nat) (a:Ins):Option Bool :=
  (bif a.op=14 then some true else some (decide (a.op=13))).bind fun b=>some b
def pF (N:Nat) (b:Me):Option Bool :=
  (bif b.aV=0 then(U5 N b.code fun a=>ox N a).bind fun c=>some (!c)else some false).bind fun d=>some d
def rj (N:Nat) (c:Wd) (j:(List Tl)) (k:St) (m:ByteArray) (n:Int):Option Int :=
  (sB N j k).bind fun b=>(sL N j k).bind fun l=>(bif b.1<0 then some true else bif l<2 then some true else some (decide (wr (2*b.2)<=l))).bind fun o=>bif o then some (-1)else(fR N c b.1 m).bind fun a=>(bif a.2<0 then some true else(j4 c.a7 a.1).bind fun f=>(j4 f.aB a.2).bind fun g=>(pF N g).bind fun d=>bif !d then some true else(j4 c.a7 a.1).bind fun h=>(j4 h.aB a.2).bind fun i=>some (!i.args=n)).bind fun e=>bif e then some (-1)else some b.1
def mn (N:Nat) (g:Wd) (h:(List Tl)) (i:Int) (e:Me):List Ins->Nat->(List Int)->Option ((List Int))
  |[],c,b=>some b
  |x24::rest21,c,b=>(bif x24.op=14 then(rj N g h ⟨i,e.name,(c:Int)⟩ x24.name x24.a).bind fun f=>some f else some (-1)).bind fun d=>bif IN ((b.length+[d].length)*8) 140737488355328 then mn N g h i e rest21 (c+1) (b++[d])else none
def nN (N:Nat) (c:Wd) (g:(List Tl)) (a:Int) (d:Int):Option (List Int) :=
  (bif a<0 then some true else bif(c.a7.length:Int)<=a then some true else bif d<0 then some true else(j4 c.a7 a).bind fun i=>some (decide ((i.aB.length:Int)<=d))).bind fun h=>bif h then some []else(j4 c.a7 a).bind fun f=>(j4 f.aB d).bind fun b=>(mn N c g a b b.code 0 []).bind fun e=>some e
def qy (N:Nat) (a:fV) (c:Int) (d:ByteArray):Option ((Option Me)×fV) :=
  (fR N a.w c d).bind fun b=>bif b.2<0 then some (none,a)else(j4 a.w.a7 b.1).bind fun e=>(j4 e.aB b.2).bind fun f=>some (some f,a)
def pJ (N:Nat) (a:Me):Option Int :=
  some (wr (wr (wr (3+a.args)+wr (2*a.a8))+(a.code.length:Int)))
def G5 (N:Nat) (a:fV) (b:Int) (c:Int) (d:Int) (e:Int):Option fV :=
  bif IN ((a.out.length+[(⟨b,c,d,e,BY⟩:Ins)].length)*48) 140737488355328 then some {a with out:=a.out++[⟨b,c,d,e,BY⟩]}else none
def Z4 (N:Nat) (f:fV):Nat->Wd->Me->(List Ins)->Int->(List Int)->(List Int)->Int->Option ((Wd×Me×(List Ins)×Int×(List Int)×(List Int)))
  |0,_,_,_,_,_,_,_=>none
  |e+1,g,h,i,j,c,d,b=>bif 0<=b then(G5 N ⟨g,h,i,j,c,d⟩ 11 (wr (f.a8+b)) 0 0).bind fun a=>Z4 N f e a.w a.m a.out a.a8 a.aH a.fix (wr (b-1))else some (g,h,i,j,c,d)
def V5 (N:Nat) (k:fV) (l:Me):Nat->Nat->Wd->Me->(List Ins)->Int->(List Int)->(List Int)->Option ((Wd×Me×(List Ins)×Int×(List Int)×(List Int)))
  |0,b,c,d,e,f,g,h=>some (c,d,e,f,g,h)
  |i+1,b,c,d,e,f,g,h=>(G5 N ⟨c,d,e,f,g,h⟩ 6 0 0 0).bind fun j=>(G5 N j 11 (wr (wr (wr (k.a8+1)+l.args)+(b:Int))) 0 0).bind fun a=>V5 N k l i (b+1) a.w a.m a.out a.a8 a.aH a.fix
def O8 (N:Nat) (r:fV) (a4:Me) (q:(List Ins)):List Ins->Nat->Wd->Me->(List Ins)->Int->(List Int)->(List Int)->Option ((Wd×Me×(List Ins)×Int×(List Int)×(List Int)))
  |[],s,b,c,d,e,f,g=>some (b,c,d,e,f,g)
  |x88::rest85,s,b,c,d,e,f,g=>(((bif x88.op=1 then(G5 N ⟨b,c,d,e,f,g⟩ 3 r.a8 0 0).bind fun h=>some (h.w,h.m,h.out,h.a8,h.aH,h.fix)else(bif x88.op=2 then(G5 N ⟨b,c,d,e,f,g⟩ 3 (wr (wr (r.a8+1)+x88.a)) 0 0).bind fun i=>some (i.w,i.m,i.out,i.a8,i.aH,i.fix)else(bif x88.op=3 then some (decide (x88.op=3))else some (decide (x88.op=11))).bind fun K=>(bif K then(G5 N ⟨b,c,d,e,f,g⟩ x88.op (wr (wr (wr (r.a8+1)+a4.args)+x88.a)) 0 0).bind fun j=>some (j.w,j.m,j.out,j.a8,j.aH,j.fix)else(bif x88.op=4 then(G5 N ⟨b,c,d,e,f,g⟩ 19 r.a8 x88.a 0).bind fun k=>some (k.w,k.m,k.out,k.a8,k.aH,k.fix)else(bif x88.op=12 then(G5 N ⟨b,c,d,e,f,g⟩ 20 r.a8 x88.a 0).bind fun l=>some (l.w,l.m,l.out,l.a8,l.aH,l.fix)else(bif x88.op=15 then some (decide (x88.op=15))else some (decide (x88.op=16))).bind fun v158=>(bif v158 then(G5 N ⟨b,c,d,e,f,g⟩ x88.op (wr ((q.length:Int)+x88.a)) 0 0).bind fun n=>some (n.w,n.m,n.out,n.a8,n.aH,n.fix)else(bif x88.op=17 then(G5 N ⟨b,c,d,e,f,g⟩ 15 (wr ((q.length:Int)+(a4.code.length:Int))) 0 0).bind fun o=>some (o.w,o.m,o.out,o.a8,o.aH,o.fix)else(G5 N ⟨b,c,d,e,f,g⟩ x88.op x88.a 0 0).bind fun p=>some (p.w,p.m,p.out,p.a8,p.aH,p.fix)).bind fun(v171,v172,v173,v174,v175,v176)=>some (v171,v172,v173,v174,v175,v176)).bind fun(v161,v162,v163,v164,v165,v166)=>some (v161,v162,v163,v164,v165,v166)).bind fun(Y,Z,v150,v151,v152,v153)=>some (Y,Z,v150,v151,v152,v153)).bind fun(S,T,U,V,W,X)=>some (S,T,U,V,W,X)).bind fun(L,M,O,P,Q,R)=>some (L,M,O,P,Q,R)).bind fun(E,F,G,H,I,J)=>some (E,F,G,H,I,J)).bind fun(y,z,A,B,C,D)=>some (y,z,A,B,C,D):Option (Wd×Me×(List Ins)×Int×(List Int)×(List Int))).bind fun(v98,v99,t,u,v,x)=>some (v98,v99,t,u,v,x):Option (Wd×Me×(List Ins)×Int×(List Int)×(List Int))).bind fun(v91,v92,v93,v94,v95,v96)=>O8 N r a4 q rest85 (s+1) v91 v92 v93 v94 v95 v96
def qz (N:Nat) (d:fV) (y:Int) (z:Int) (A:Ins) (b:Me):Option fV :=
  (G5 N {d with a8:=wr (d.a8+wr (wr (1+b.args)+b.a8))} 18 y A.a z).bind fun B=>(G5 N B 21 0 0 0).bind fun c=>(Z4 N d N c.w c.m c.out c.a8 c.aH c.fix b.args).bind fun(f,g,h,i,j,k)=>(V5 N d b (b.a8-((0:Nat):Int)).toNat 0 f g h i j k).bind fun(l,n,e,o,p,q)=>(O8 N d b e b.code 0 l n e o p q).bind fun(r,s,t,u,v,x)=>some ⟨r,s,t,u,v,x⟩
def k9 (N:Nat) (o:(List Int)) (t:Me):List Ins->Nat->Wd->Me->(List Ins)->Int->(List Int)->(List Int)->Bool->Option ((Wd×Me×(List Ins)×Int×(List Int)×(List Int)×Bool))
  |[],c,i,j,d,k,g,f,h=>some (i,j,d,k,g,f,h)
  |x42::rest39,c,i,j,d,k,g,f,h=>(bif IN ((g.length+[(d.length:Int)].length)*8) 140737488355328 then(bif x42.op=14 then bif(c:Int)<(o.length:Int)then(j4 o (c:Int)).bind fun K=>some (decide (0<=K))else some false else some false).bind fun F=>bif F then(j4 o (c:Int)).bind fun L=>(qy N ⟨i,j,d,k,g++[(d.length:Int)],f⟩ L x42.name).bind fun u=>match u with|(none,w67)=>(bif x42.op=15 then some true else some (decide (x42.op=16))).bind fun G=>(bif G then bif IN ((w67.fix.length+[(w67.out.length:Int)].length)*8) 140737488355328 then some (w67.fix++[(w67.out.length:Int)])else none else some w67.fix).bind fun H=>(bif x42.op=14 then some ⟨x42.op,x42.a,x42.b,(c:Int),x42.name⟩else some x42).bind fun s=>bif IN ((w67.out.length+[s].length)*48) 140737488355328 then some (w67.w,w67.m,w67.out++[s],w67.a8,w67.aH,H,h)else none|(some x68,w67)=>((pF N x68).bind fun v=>bif v then bif x68.args=x42.a then(pJ N x68).bind fun x=>bif wr (wr (wr ((w67.out.length:Int)+x)+(t.code.length:Int))-(c:Int))<=240 then some (wr (wr (wr (w67.a8+1)+x68.args)+x68.a8)<=40)else some false else some false else some false:Option Bool).bind fun I=>bif I then(j4 o (c:Int)).bind fun M=>(qz N w67 M (c:Int) x42 x68).bind fun e=>some (e.w,e.m,e.out,e.a8,e.aH,e.fix,true)else(bif x42.op=15 then some true else some (decide (x42.op=16))).bind fun J=>(bif J then bif IN ((w67.fix.length+[(w67.out.length:Int)].length)*8) 140737488355328 then some (w67.fix++[(w67.out.length:Int)])else none else some w67.fix).bind fun p=>(bif x42.op=14 then some ⟨x42.op,x42.a,x42.b,(c:Int),x42.name⟩else some x42).bind fun l=>bif IN ((w67.out.length+[l].length)*48) 140737488355328 then some (w67.w,w67.m,w67.out++[l],w67.a8,w67.aH,p,h)else none else(bif x42.op=15 then some true else some (decide (x42.op=16))).bind fun q=>(bif q then bif IN ((f.length+[(d.length:Int)].length)*8) 140737488355328 then some (f++[(d.length:Int)])else none else some f).bind fun r=>(bif x42.op=14 then some ⟨x42.op,x42.a,x42.b,(c:Int),x42.name⟩else some x42).bind fun n=>bif IN ((d.length+[n].length)*48) 140737488355328 then some (i,j,d++[n],k,g++[(d.length:Int)],r,h)else none else none).bind fun(y,z,A,B,C,D,E)=>k9 N o t rest39 (c+1) y z A B C D E
def k8 (N:Nat) (h:(List Int)) (i:(List Int)):List Int->Nat->(List Ins)->Option ((List Ins))
  |[],f,d=>some d
  |x131::rest128,f,d=>(j4 i (f:Int)).bind fun g=>(j4 d g).bind fun j=>(j4 h j.a).bind fun k=>(j4 d g).bind fun e=>k8 N h i rest128 (f+1) (d.set g.toNat ⟨e.op,k,e.b,e.c,e.name⟩)
def qs (N:Nat) (b:Wd) (c:Int) (f:Int) (l:(List Int)):Option (Fs×Bool) :=
  (bif c<0 then some true else bif(b.a7.length:Int)<=c then some true else bif f<0 then some true else(j4 b.a7 c).bind fun p=>some (decide ((p.aB.length:Int)<=f))).bind fun m=>bif m then some (⟨0,BY,0,0,[]⟩,false)else(j4 b.a7 c).bind fun k=>(j4 k.aB f).bind fun a=>(k9 N l a a.code 0 b a [] a.a8 [] [] false).bind fun(n,o,g,h,i,e,j)=>bif !j then some (⟨0,BY,0,0,[]⟩,false)else(k8 N i e e 0 g).bind fun d=>some (⟨c,a.name,b.aC,h,d⟩,true)
def lS (N:Nat) (d:Wd) (i:(List Tl)) (e:Nat):List Me->Nat->(List Fs)->Option ((List Fs))
  |[],b,a=>some a
  |x22::rest19,b,a=>((nN N d i (e:Int) (b:Int)).bind fun f=>(qs N d (e:Int) (b:Int) f).bind fun c=>(bif c.2 then bif IN ((a.length+[c.1].length)*64) 140737488355328 then some (a++[c.1])else none else some a).bind fun h=>some h:Option (List Fs)).bind fun g=>lS N d i e rest19 (b+1) g
def lR (N:Nat) (d:Wd) (e:(List Tl)):List Cl->Nat->(List Fs)->Option ((List Fs))
  |[],a,c=>some c
  |x10::rest7,a,c=>(lS N d e a x10.aB 0 c).bind fun b=>lR N d e rest7 (a+1) b
def sY (N:Nat) (a:Wd) (b:(List Tl)):Option (List Fs) :=
  (lR N a b a.a7 0 []).bind fun c=>some c
def pR (N:Nat) (e:St) (b:Int) (c:ByteArray) (d:Wd):Option (Int×Int) :=
  (fR N d b c).bind fun a=>some (a.1,a.2)
def lG (N:Nat) (a:Int) (f:Int) (b:Wd):List Fs->Nat->Option (H9 (Fs×Bool) Unit)
  |[],g=>some (.next ())
  |x7::rest4,g=>(bif x7.cls=a then(j4 b.a7 a).bind fun d=>(j4 d.aB f).bind fun e=>bif x7.name=e.name then some (decide (x7.aC=b.aC))else some false else some false).bind fun c=>bif c then some (.ret (x7,true))else lG N a f b rest4 (g+1)
def pP (N:Nat) (a:Int) (b:Int) (c:(List Fs)) (d:Wd):Option (Fs×Bool) :=
  (lG N a b d c 0).bind fun o=>match o with|.ret r=>some r|.next ()=>some (⟨0,BY,0,0,[]⟩,false)
def rM (N:Nat) (c:Wd) (f:P8) (g:Int) (h:(List Fs)):Option (Wd×dw) :=
  (iK N c f g (fun a b d=>pR N a b d c) fun a b=>pP N a b h c).bind fun e=>some (e.1,e.2)
def rT (N:Nat) (b:U8) (r:Int) (e:P8):Option (fZ×U8) :=
  ((bif r=4 then(sK N b.world e 400).bind fun c=>some (c.1.a7,c.1.heap,c.1.aC,b.cells,b.aX,c.2)else(bif r=5 then(rp N b.world e 400 b.cells b.aX).bind fun a=>some (a.world.a7,a.world.heap,a.world.aC,a.cells,a.aX,a.ew)else(sY N b.world b.aX).bind fun f=>(rM N b.world e 400 f).bind fun d=>some (d.1.a7,d.1.heap,d.1.aC,b.cells,b.aX,d.2)).bind fun(k,l,m,o,p,q)=>some (k,l,m,o,p,q)).bind fun(y,z,g,h,i,j)=>some (y,z,g,h,i,j):Option ((List Cl)×(List Ob)×Int×(List Ce)×(List Tl)×dw)).bind fun(t,u,v,w,x,s)=>some ({s with n:=s.sends},⟨⟨t,u,v⟩,w,x,b.saved⟩)
def uA (N:Nat) (b:(List Int)) (a:ByteArray):Option (Int×Bool×(List Int)) :=
  bif IN (b.length+a.size) 140737488355328 then some ((a.size:Int),true,b++eX a)else none
def uB (N:Nat) (a:(List Int)) (b:Int):Option (Bool×(List Int)) :=
  bif IN ((a.length+[b].length)*1) 140737488355328 then some (true,a++[b])else none
def ku (N:Nat) (a:(List Int)) (b:ByteArray):Option (List Int) :=
  (uA N a b).bind fun c=>(uB N c.2.2 32).bind fun d=>some d.2
def Y8 (N:Nat):List Int->Nat->(List Int)->Option ((List Int))
  |[],d,c=>some c
  |x10::rest7,d,c=>(strconv_Itoa N x10).bind fun a=>(ku N c a).bind fun b=>Y8 N rest7 (d+1) b
def V3 (N:Nat) (a:(List Int)) (b:(List Int)):Option (List Int) :=
  (Y8 N b 0 a).bind fun c=>some c
def V6 (N:Nat):List Ins->Nat->(List Int)->Option ((List Int))
  |[],g,f=>some f
  |x15::rest12,g,f=>((V3 N f [x15.op,x15.a]).bind fun b=>(bif x15.op=14 then(ku N b x15.name).bind fun c=>some c else some b).bind fun e=>some e:Option (List Int)).bind fun d=>V6 N rest12 (g+1) d
def r8 (N:Nat) (c:(List Int)) (a:Me):Option (List Int) :=
  (ku N c a.name).bind fun d=>(V3 N d [a.args,a.a8,a.aV,(a.code.length:Int)]).bind fun e=>(V6 N a.code 0 e).bind fun b=>some b
def lD (N:Nat):List Me->Nat->(List Int)->Option ((List Int))
  |[],b,a=>some a
  |x30::rest27,b,a=>(r8 N a x30).bind fun c=>lD N rest27 (b+1) c
def lF (N:Nat):List Cl->Nat->(List Int)->Option ((List Int))
  |[],e,d=>some d
  |x13::rest10,e,d=>(ku N d x13.name).bind fun a=>(V3 N a [x13.aQ,x13.aG,(x13.aB.length:Int)]).bind fun b=>(lD N x13.aB 0 b).bind fun c=>lF N rest10 (e+1) c
def lI (N:Nat):List V->Nat->(List Int)->Option ((List Int))
  |[],b,a=>some a
  |x62::rest59,b,a=>(V3 N a [x62.k,x62.n]).bind fun c=>lI N rest59 (b+1) c
def lE (N:Nat):List Ob->Nat->(List Int)->Option ((List Int))
  |[],b,a=>some a
  |x47::rest44,b,a=>(V3 N a [x47.cls,(x47.aG.length:Int)]).bind fun c=>(lI N x47.aG 0 c).bind fun d=>lE N rest44 (b+1) d
def pN (N:Nat) (a:Wd):Option (List Int) :=
  (V3 N [] [a.aC,(a.a7.length:Int)]).bind fun d=>(lF N a.a7 0 d).bind fun e=>(V3 N e [(a.heap.length:Int)]).bind fun c=>(lE N a.heap 0 c).bind fun b=>bif !b.isEmpty then some (eX (strOfNums b))else none
def Q0 (N:Nat) (b:D8):Option (ByteArray×D8) :=
  (strings_Cut N b.s ⟨#[32]⟩).bind fun a=>(bif !a.2.2 then some true else some (decide (a.1=⟨#[]⟩))).bind fun c=>bif c then some (⟨#[]⟩,⟨b.s,false⟩)else some (a.1,⟨a.2.1,b.gW⟩)
def p9 (N:Nat) (d:D8):Option (Int×D8) :=
  (Q0 N d).bind fun a=>(strconv_Atoi N a.1).bind fun b=>(bif !b.2 then some true else(strconv_Itoa N b.1).bind fun e=>some (!e=a.1)).bind fun f=>(bif f then some ⟨a.2.s,false⟩else some a.2).bind fun c=>some (b.1,c)
def K9 (N:Nat) (b:D8) (c:Int):Option (Int×D8) :=
  (p9 N b).bind fun a=>(bif a.1<0 then some true else some (decide (c<a.1))).bind fun d=>bif d then some (0,⟨a.2.s,false⟩)else some (a.1,a.2)
def P5 (N:Nat):Nat->Nat->D8->(List Ins)->Option ((D8×(List Ins)))
  |0,e,d,c=>some (d,c)
  |h+1,e,d,c=>(p9 N d).bind fun a=>(p9 N a.2).bind fun b=>(bif a.1=14 then(Q0 N b.2).bind fun f=>some (f.2,f.1)else some (b.2,BY)).bind fun(i,g)=>bif IN ((c.length+[(⟨a.1,b.1,0,0,g⟩:Ins)].length)*48) 140737488355328 then P5 N h (e+1) i (c++[⟨a.1,b.1,0,0,g⟩])else none
def mc (N:Nat) (h:D8):Option (Me×D8) :=
  (Q0 N h).bind fun c=>(p9 N c.2).bind fun d=>(p9 N d.2).bind fun e=>(p9 N e.2).bind fun f=>(K9 N f.2 60).bind fun g=>(P5 N (g.1-((0:Nat):Int)).toNat 0 g.2 []).bind fun(a,b)=>some (⟨c.1,d.1,e.1,f.1,b⟩,a)
def K8 (N:Nat):Nat->Nat->D8->(List Me)->Option ((D8×(List Me)))
  |0,d,c,a=>some (c,a)
  |e+1,d,c,a=>(mc N c).bind fun b=>bif IN ((a.length+[b.1].length)*64) 140737488355328 then K8 N e (d+1) b.2 (a++[b.1])else none
def R7 (N:Nat):Nat->Nat->D8->(List Cl)->Option ((D8×(List Cl)))
  |0,j,i,f=>some (i,f)
  |g+1,j,i,f=>(Q0 N i).bind fun a=>(p9 N a.2).bind fun b=>(p9 N b.2).bind fun c=>(K9 N c.2 8).bind fun d=>(K8 N (d.1-((0:Nat):Int)).toNat 0 d.2 []).bind fun(h,e)=>bif IN ((f.length+[(⟨a.1,b.1,c.1,e⟩:Cl)].length)*56) 140737488355328 then R7 N g (j+1) h (f++[⟨a.1,b.1,c.1,e⟩])else none
def K6 (N:Nat):Nat->Nat->D8->(List V)->Option ((D8×(List V)))
  |0,e,d,a=>some (d,a)
  |f+1,e,d,a=>(p9 N d).bind fun b=>(p9 N b.2).bind fun c=>bif IN ((a.length+[(⟨b.1,c.1⟩:V)].length)*16) 140737488355328 then K6 N f (e+1) c.2 (a++[⟨b.1,c.1⟩])else none
def R4 (N:Nat):Nat->Nat->D8->(List Ob)->Option ((D8×(List Ob)))
  |0,d,c,a=>some (c,a)
  |g+1,d,c,a=>(p9 N c).bind fun b=>(K9 N b.2 6).bind fun e=>(K6 N (e.1-((0:Nat):Int)).toNat 0 e.2 []).bind fun(h,f)=>bif IN ((a.length+[(⟨b.1,f⟩:Ob)].length)*32) 140737488355328 then R4 N g (d+1) h (a++[⟨b.1,f⟩])else none
def r9 (N:Nat) (h:D8):Option (Wd×D8) :=
  (p9 N h).bind fun f=>(K9 N f.2 12).bind fun g=>(R7 N (g.1-((0:Nat):Int)).toNat 0 g.2 []).bind fun(b,c)=>(K9 N b 60).bind fun a=>(R4 N (a.1-((0:Nat):Int)).toNat 0 a.2 []).bind fun(d,e)=>some (⟨c,e,f.1⟩,d)
def pf (N:Nat) (b:Wd) (a:Me):Option Bool :=
  (fR N b 3 a.name).bind fun c=>(bif 0<=c.2 then(j4 b.a7 3).bind fun e=>(j4 e.aB c.2).bind fun f=>bif a.aV=f.aV then bif a.args=1 then bif a.a8=0 then some (decide ((a.code.length:Int)=0))else some false else some false else some false else some false).bind fun d=>some d
def nM (N:Nat) (c:Wd):List V->Nat->Option (H9 Int Unit)
  |[],a=>some (.next ())
  |x29::rest26,a=>(pD N x29 (c.heap.length:Int)).bind fun b=>bif !b=0 then some (.ret b)else nM N c rest26 (a+1)
def nH (N:Nat) (a:Wd):List Ob->Nat->Option (H9 Int Unit)
  |[],e=>some (.next ())
  |x7::rest4,e=>(bif !x7.cls=0 then bif x7.cls<4 then some true else bif(a.a7.length:Int)<=x7.cls then some true else(iI N a x7.cls).bind fun b=>some (!(x7.aG.length:Int)=b)else(iI N a x7.cls).bind fun c=>some (!(x7.aG.length:Int)=c)).bind fun d=>bif d then some (.ret 8)else(nM N a x7.aG 0).bind fun o=>match o with|.ret r=>some (.ret r)|.next ()=>nH N a rest4 (e+1)
def uS (N:Nat) (a:Wd):Option Int :=
  (nH N a a.heap 0).bind fun o=>match o with|.ret r=>some r|.next ()=>some 0
def my (N:Nat) (c:Wd):List Cl->Nat->(List (ByteArray×Bool))->Option (H9 Int Unit)
  |[],a,b=>some (.next ())
  |x24::rest21,a,b=>((kE N x24.name).bind fun d=>bif !d then some true else bif fe x24.name b then some true else bif(a:Int)<(c.a7.length:Int)then(j4 c.a7 (a:Int)).bind fun g=>some (!x24.name=g.name)else some false:Option Bool).bind fun e=>bif e then some (.ret 7)else bif IN (b.length+1) 140737488355328 then(bif(a:Int)<(c.a7.length:Int)then(j4 c.a7 (a:Int)).bind fun h=>bif !x24.aQ=h.aQ then some true else bif !x24.aG=0 then some true else bif(c.a7.length:Int)<=(a:Int)then bif x24.aQ<0 then some true else bif(a:Int)<=x24.aQ then some true else bif !x24.aQ=0 then bif x24.aQ<4 then some true else bif x24.aG<0 then some true else some (decide (6<x24.aG))else bif x24.aG<0 then some true else some (decide (6<x24.aG))else bif x24.aG<0 then some true else some (decide (6<x24.aG))else bif(c.a7.length:Int)<=(a:Int)then bif x24.aQ<0 then some true else bif(a:Int)<=x24.aQ then some true else bif !x24.aQ=0 then bif x24.aQ<4 then some true else bif x24.aG<0 then some true else some (decide (6<x24.aG))else bif x24.aG<0 then some true else some (decide (6<x24.aG))else bif x24.aG<0 then some true else some (decide (6<x24.aG))).bind fun f=>bif f then some (.ret 3)else my N c rest21 (a+1) (eM x24.name true b)else none
def nE (N:Nat) (i:Wd) (j:Wd) (c:Nat) (e:Cl):List Me->Nat->Option (H9 Int Unit)
  |[],a=>some (.next ())
  |x86::rest83,a=>((bif 0<(a:Int)then(j4 e.aB (wr ((a:Int)-1))).bind fun h=>some (!Y4 h.name x86.name)else some false).bind fun f=>bif f then some (.ret 7)else(bif !x86.aV=0 then bif(c:Int)=3 then(pf N j x86).bind fun d=>some d else some false else some false).bind fun g=>bif g then some (.next ())else(pU N i (c:Int) x86).bind fun b=>bif !b.err=0 then some (.ret b.err)else some (.next ()):Option (H9 Int Unit)).bind fun o=>match o with|.ret r=>some (.ret r)|.next ()=>nE N i j c e rest83 (a+1)
def n5 (N:Nat) (b:Wd) (d:Wd):List Cl->Nat->Option (H9 Int Unit)
  |[],a=>some (.next ())
  |x72::rest69,a=>(iI N b (a:Int)).bind fun c=>bif 6<c then some (.ret 3)else bif 8<(x72.aB.length:Int)then some (.ret 5)else(nE N b d a x72 x72.aB 0).bind fun o=>match o with|.ret r=>some (.ret r)|.next ()=>n5 N b d rest69 (a+1)
def pS (N:Nat) (a:Wd):Option Int :=
  (uQ N).bind fun c=>(bif(a.a7.length:Int)<(c.a7.length:Int)then some true else bif 12<(a.a7.length:Int)then some true else some (decide (60<(a.heap.length:Int)))).bind fun e=>bif e then some 5 else(bif a.aC<0 then some true else some (decide (1073741824<a.aC))).bind fun d=>bif d then some 3 else(my N c a.a7 0 []).bind fun o=>match o with|.ret r=>some r|.next ()=>(n5 N a c a.a7 0).bind fun o=>match o with|.ret r=>some r|.next ()=>(uS N a).bind fun b=>some b
def lT (N:Nat) (c:(List Int)):Option (Wd×Int) :=
  (r9 N ⟨strOfNums c,true⟩).bind fun a=>(bif !a.2.gW then some true else some (!a.2.s=⟨#[]⟩)).bind fun d=>bif d then some (⟨[],[],0⟩,2)else(pS N a.1).bind fun b=>bif !b=0 then some (⟨[],[],0⟩,b)else some (a.1,0)
def ui (N:Nat) (a:U8):Option (fZ×U8) :=
  bif(a.saved.length:Int)=0 then some (⟨6,0,⟨0,0⟩⟩,a)else(lT N a.saved).bind fun b=>bif !b.2=0 then some (⟨b.2,0,⟨0,0⟩⟩,a)else some (⟨0,0,⟨0,0⟩⟩,{a with world:=⟨b.1.a7,b.1.heap,wr (max b.1.aC a.world.aC+1)⟩})
def mS (N:Nat) (h:U8) (a:cu):Option (U8×fZ) :=
  (pI N h).bind fun b=>bif a.kind=1 then(sA N h.world a.name a.aI a.aG).bind fun g=>bif !g.2.2=0 then some (b,⟨g.2.2,0,⟨0,0⟩⟩)else some ({b with world:=g.1},⟨0,g.2.1,⟨0,0⟩⟩)else bif a.kind=2 then(uc N b a.aI a.aL).bind fun k=>some (k.2,k.1)else bif a.kind=3 then(uk N b a.aI).bind fun c=>some (c.2,c.1)else(bif a.kind=4 then some (decide (a.kind=4))else(bif a.kind=5 then some (decide (a.kind=5))else some (decide (a.kind=6))).bind fun j=>some j).bind fun i=>bif i then(rT N b a.kind a.call).bind fun d=>some (d.2,d.1)else bif a.kind=7 then(pN N h.world).bind fun e=>some ({b with saved:=e},⟨0,(e.length:Int),⟨0,0⟩⟩)else bif a.kind=8 then(ui N b).bind fun f=>some (f.2,f.1)else some (b,⟨1,0,⟨0,0⟩⟩)
def rE (N:Nat):List cu->Nat->U8->(List fZ)->Option ((U8×(List fZ)))
  |[],d,c,b=>some (c,b)
  |x17::rest14,d,c,b=>(mS N c x17).bind fun a=>bif IN ((b.length+[a.2].length)*32) 140737488355328 then rE N rest14 (d+1) a.1 (b++[a.2])else none
def wD (N:Nat) (c:(List cu)):Option (U8×(List fZ)×Int) :=
  bif 60<(c.length:Int)then some (⟨⟨[],[],0⟩,[],[],[]⟩,[],5)else(pH N).bind fun d=>(rE N c 0 d []).bind fun(a,b)=>some (a,b,0)
def mv (N:Nat) (b:ByteArray):Nat->Nat->Option (H9 Bool Unit)
  |0,a=>some (.next ())
  |n6+1,a=>((mA b (a:Int)).bind fun c=>bif(c.toNat:Int)<33 then some true else(mA b (a:Int)).bind fun d=>some (126<(d.toNat:Int)):Option Bool).bind fun e=>bif e then some (.ret false)else mv N b n6 (a+1)
def nO (N:Nat) (a:ByteArray):Option Bool :=
  (mv N a ((a.size:Int)-((0:Nat):Int)).toNat 0).bind fun o=>match o with|.ret r=>some r|.next ()=>(bif 0<(a.size:Int)then some (decide ((a.size:Int)<=12))else some false).bind fun b=>some b
def oy (N:Nat) (b:Wd):Nat->Int->(List Int)->Option ((List Int))
  |0,_,_=>none
  |d+1,a,c=>(bif 0<=a then bif a<(b.a7.length:Int)then some (decide ((c.length:Int)<=(b.a7.length:Int)))else some false else some false).bind fun e=>bif e then bif IN ((c.length+[a].length)*8) 140737488355328 then(j4 b.a7 a).bind fun f=>oy N b d f.aQ (c++[a])else none else some c
def rz (N:Nat) (a:Wd) (b:Int):Option (List Int) :=
  (oy N a N b []).bind fun c=>some c
def ml (N:Nat) (e:Wd) (f:(List Int)):List Int->Nat->Int->Option (Int)
  |[],a,b=>some b
  |x12::rest9,a,b=>(j4 f (a:Int)).bind fun c=>(j4 e.a7 c).bind fun d=>ml N e f rest9 (a+1) (wr (b+d.aG))
def lL (N:Nat) (a:Wd) (c:Int):Option Int :=
  (rz N a c).bind fun b=>(ml N a b b 0 0).bind fun d=>some d
def J5 (N:Nat) (t:Wd) (u:Int) (e:Me) (d:Ins):Option Int :=
  ((bif d.op=1 then some (decide (d.op=1))else(bif d.op=6 then some (decide (d.op=6))else(bif d.op=7 then some (decide (d.op=7))else(bif d.op=8 then some (decide (d.op=8))else(bif d.op=9 then some (decide (d.op=9))else(bif d.op=10 then some (decide (d.op=10))else some (decide (d.op=17))).bind fun k=>some k).bind fun j=>some j).bind fun i=>some i).bind fun h=>some h).bind fun w=>some w).bind fun v=>(bif v then some (.next (0,0))else(bif d.op=2 then some (.next (0,wr (e.args-1)))else(bif d.op=3 then some (decide (d.op=3))else some (decide (d.op=11))).bind fun l=>(bif l then some (.next (0,wr (e.a8-1)))else(bif d.op=4 then some (decide (d.op=4))else some (decide (d.op=12))).bind fun m=>(bif m then(lL N t u).bind fun f=>some (.next (0,wr (f-1)))else(bif d.op=5 then some (.next (-1073741824,1073741824))else(bif d.op=13 then(bif 0<d.a then some (decide (d.a<4))else some false).bind fun n=>bif n then some (.ret 3)else some (.next (wr ((t.a7.length:Int)-1)))else(bif d.op=14 then some (.next 4)else(bif d.op=15 then some (decide (d.op=15))else some (decide (d.op=16))).bind fun p=>bif p then some (.next (wr ((e.code.length:Int)-1)))else some (.ret 1):Option (H9 Int Int)).bind fun o=>match o with|.ret r=>some (.ret r)|.next v58=>some (.next v58):Option (H9 Int Int)).bind fun o=>match o with|.ret r=>some (.ret r)|.next v50=>some (.next (0,v50)):Option (H9 Int (Int×Int))).bind fun o=>match o with|.ret r=>some (.ret r)|.next (v46,v47)=>some (.next (v46,v47)):Option (H9 Int (Int×Int))).bind fun o=>match o with|.ret r=>some (.ret r)|.next (v40,v41)=>some (.next (v40,v41)):Option (H9 Int (Int×Int))).bind fun o=>match o with|.ret r=>some (.ret r)|.next (v33,v34)=>some (.next (v33,v34)):Option (H9 Int (Int×Int))).bind fun o=>match o with|.ret r=>some (.ret r)|.next (v26,v27)=>some (.next (v26,v27)):Option (H9 Int (Int×Int))).bind fun o=>match o with|.ret r=>some (.ret r)|.next (v22,v23)=>some (.next (v22,v23)):Option (H9 Int (Int×Int))).bind fun o=>match o with|.ret r=>some r|.next (v1,v2)=>(bif d.a<v1 then some true else some (decide (v2<d.a))).bind fun q=>bif q then some 3 else(bif d.op=14 then(nO N d.name).bind fun g=>bif !g then some true else bif !d.op=14 then bif !d.name=⟨#[]⟩then some true else bif !d.b=0 then some true else some (!d.c=0)else bif !d.b=0 then some true else some (!d.c=0)else bif !d.op=14 then bif !d.name=⟨#[]⟩then some true else bif !d.b=0 then some true else some (!d.c=0)else bif !d.b=0 then some true else some (!d.c=0)).bind fun s=>bif s then some 2 else some 0
def ra (N:Nat) (b:Ins) (c:Int):Option (Int×Int×(List Int)) :=
  (bif b.op=9 then some (decide (b.op=9))else(bif b.op=11 then some (decide (b.op=11))else some (decide (b.op=12))).bind fun e=>some e).bind fun d=>bif d then some (1,-1,[wr (c+1)])else bif b.op=10 then some (1,1,[wr (c+1)])else bif b.op=14 then bif I5 (-b.a)then some (wr (b.a+1),-b.a,[wr (c+1)])else none else bif b.op=15 then some (0,0,[b.a])else bif b.op=16 then some (1,-1,[wr (c+1),b.a])else bif b.op=17 then some (1,-1,[])else some (0,1,[wr (c+1)])
def ko (N:Nat):Nat->Nat->(List Int)->Option ((List Int))
  |0,a,b=>some b
  |c+1,a,b=>(j4 b (a:Int)).bind fun d=>ko N c (a+1) (b.set (a:Int).toNat (-1))
def kq (N:Nat) (e:Int) (a:(Int×Int×(List Int))):List Int->Nat->(List Int)->(List Int)->Option (((List Int)×(List Int)))
  |[],d,b,c=>some (b,c)
  |x79::rest76,d,b,c=>(j4 a.2.2 (d:Int)).bind fun f=>bif IN ((b.length+[f].length)*8) 140737488355328 then bif IN ((c.length+[wr (e+a.2.1)].length)*8) 140737488355328 then kq N e a rest76 (d+1) (b++[f]) (c++[wr (e+a.2.1)])else none else none
def mg (N:Nat) (h:Me):Nat->(List Int)->(List Int)->(List Int)->Int->Option (H9 ((List Int)×cr) (List Int))
  |0,_,_,_,_=>none
  |i+1,b,e,g,f=>bif f<(e.length:Int)then((j4 e f).bind fun a=>(j4 g f).bind fun c=>(bif(h.code.length:Int)<=a then some true else some (decide (a<0))).bind fun j=>bif j then some (.ret ([],⟨9,(h.code.length:Int)⟩))else(j4 b a).bind fun n=>bif 0<=n then(j4 b a).bind fun p=>bif !p=c then some (.ret ([],⟨8,a⟩))else some (.next (b,e,g))else(j4 b a).bind fun t=>(j4 h.code a).bind fun q=>(ra N q a).bind fun d=>(bif c<d.1 then some true else(j4 h.code a).bind fun s=>bif s.op=17 then some (!c=1)else some false).bind fun k=>bif k then some (.ret ([],⟨8,a⟩))else bif 12<wr (c+d.2.1)then some (.ret ([],⟨4,a⟩))else(kq N c d d.2.2 0 e g).bind fun(l,m)=>some (.next (b.set a.toNat c,l,m)):Option (H9 ((List Int)×cr) ((List Int)×(List Int)×(List Int)))).bind fun o=>match o with|.ret r=>some (.ret r)|.next (v33,v34,v35)=>mg N h i v33 v34 v35 (wr (f+1))else some (.next b)
def ov (N:Nat) (a:Me):Option ((List Int)×cr) :=
  bif 0<=(a.code.length:Int)&&(a.code.length:Int)<=140737488355328&&(a.code.length:Int)*8<=140737488355328 then(ko N (((MI (a.code.length:Int).toNat (0:Int)).length:Int)-((0:Nat):Int)).toNat 0 (MI (a.code.length:Int).toNat 0)).bind fun b=>(mg N a N b [0] [0] 0).bind fun o=>match o with|.ret r=>some r|.next v26=>some (v26,⟨0,0⟩)else none
def U6 (N:Nat) (c:Wd) (d:Int) (e:Me):List Ins->Nat->Option (H9 cr Unit)
  |[],a=>some (.next ())
  |x28::rest25,a=>(J5 N c d e x28).bind fun b=>bif !b=0 then some (.ret ⟨b,(a:Int)⟩)else U6 N c d e rest25 (a+1)
def ic (N:Nat) (e:Wd) (b:Int) (a:Me):Option cr :=
  (bif b<0 then some true else some (decide ((e.a7.length:Int)<=b))).bind fun g=>bif g then some ⟨6,0⟩else(nO N a.name).bind fun f=>bif !f then some ⟨7,0⟩else(bif a.args<0 then some true else bif 4<a.args then some true else bif a.a8<0 then some true else some (decide (6<a.a8))).bind fun h=>bif h then some ⟨3,0⟩else bif !a.aV=0 then some ⟨1,0⟩else(bif(a.code.length:Int)=0 then some true else some (decide (60<(a.code.length:Int)))).bind fun d=>bif d then some ⟨5,0⟩else(U6 N e b a a.code 0).bind fun o=>match o with|.ret r=>some r|.next ()=>(ov N a).bind fun c=>some c.2
def rU (N:Nat) (a:V) (c:Int):Option Int :=
  (bif a.k<0 then some true else some (decide (4<a.k))).bind fun d=>bif d then some 1 else(bif a.k<3 then some (!a.n=0)else some false).bind fun e=>bif e then some 2 else(bif a.k=3 then bif a.n< -1073741824 then some true else some (decide (1073741824<a.n))else some false).bind fun f=>bif f then some 3 else(bif a.k=4 then bif a.n<0 then some true else some (decide (c<=a.n))else some false).bind fun b=>bif b then some 6 else some 0
def T9 (N:Nat) (b:Cl):List Cl->Nat->Option (H9 Int Unit)
  |[],a=>some (.next ())
  |x40::rest37,a=>bif x40.name=b.name then some (.ret 7)else T9 N b rest37 (a+1)
def O9 (N:Nat) (b:Wd) (c:Wd):List Cl->Nat->Option (H9 Int Unit)
  |[],a=>some (.next ())
  |x21::rest18,a=>((nO N x21.name).bind fun d=>bif !d then some true else bif(a:Int)<4 then(j4 c.a7 (a:Int)).bind fun h=>some (!x21.name=h.name)else some false:Option Bool).bind fun e=>bif e then some (.ret 7)else bif 0<=(a:Int)&&(a:Int)<=(b.a7.length:Int)then(T9 N x21 (b.a7.take (a:Int).toNat) 0).bind fun o=>match o with|.ret r=>some (.ret r)|.next ()=>(bif(a:Int)<4 then(j4 c.a7 (a:Int)).bind fun i=>bif !x21.aQ=i.aQ then some (.ret 3)else some (.next 0)else(bif x21.aQ<0 then some true else bif(a:Int)<=x21.aQ then some true else bif 0<x21.aQ then some (decide (x21.aQ<4))else some false).bind fun f=>bif f then some (.ret 3)else some (.next 6):Option (H9 Int Int)).bind fun o=>match o with|.ret r=>some (.ret r)|.next v44=>(bif x21.aG<0 then some true else some (decide (v44<x21.aG))).bind fun g=>bif g then some (.ret 3)else O9 N b c rest18 (a+1)else none
def J4 (N:Nat) (c:Nat) (a:Me):List Me->Nat->Bool->Option (Bool)
  |[],d,b=>some b
  |x100::rest97,d,b=>((bif b then some true else bif(c:Int)=3 then bif x100.name=a.name then bif x100.aV=a.aV then bif a.args=1 then bif a.a8=0 then some (decide ((a.code.length:Int)=0))else some false else some false else some false else some false else some false).bind fun f=>some f:Option Bool).bind fun e=>J4 N c a rest97 (d+1) e
def P6 (N:Nat) (j:Wd) (k:Wd) (c:Nat) (e:Cl):List Me->Nat->Option (H9 Int Unit)
  |[],a=>some (.next ())
  |x80::rest77,a=>(bif 0<(a:Int)then(j4 e.aB (wr ((a:Int)-1))).bind fun h=>some (!Y4 h.name x80.name)else some false).bind fun f=>bif f then some (.ret 7)else(j4 k.a7 3).bind fun i=>(J4 N c x80 i.aB 0 false).bind fun g=>(ic N j (c:Int) x80).bind fun b=>(bif !g then some (!b.err=0)else some false).bind fun d=>bif d then some (.ret b.err)else P6 N j k c e rest77 (a+1)
def X5 (N:Nat) (b:Wd) (d:Wd):List Cl->Nat->Option (H9 Int Unit)
  |[],a=>some (.next ())
  |x66::rest63,a=>(lL N b (a:Int)).bind fun c=>bif 6<c then some (.ret 3)else bif 8<(x66.aB.length:Int)then some (.ret 5)else(P6 N b d a x66 x66.aB 0).bind fun o=>match o with|.ret r=>some (.ret r)|.next ()=>X5 N b d rest63 (a+1)
def U3 (N:Nat) (c:Wd):List V->Nat->Option (H9 Int Unit)
  |[],a=>some (.next ())
  |x151::rest148,a=>(rU N x151 (c.heap.length:Int)).bind fun b=>bif !b=0 then some (.ret b)else U3 N c rest148 (a+1)
def U2 (N:Nat) (b:Wd):List Ob->Nat->Option (H9 Int Unit)
  |[],a=>some (.next ())
  |x126::rest123,a=>(bif x126.cls<0 then some true else bif 0<x126.cls then bif x126.cls<4 then some true else bif(b.a7.length:Int)<=x126.cls then some true else(lL N b x126.cls).bind fun c=>some (!(x126.aG.length:Int)=c)else bif(b.a7.length:Int)<=x126.cls then some true else(lL N b x126.cls).bind fun d=>some (!(x126.aG.length:Int)=d)).bind fun e=>bif e then some (.ret 8)else(U3 N b x126.aG 0).bind fun o=>match o with|.ret r=>some (.ret r)|.next ()=>U2 N b rest123 (a+1)
def jX (N:Nat) (a:Wd):Option Int :=
  (s8 N).bind fun c=>(bif(a.a7.length:Int)<4 then some true else bif 12<(a.a7.length:Int)then some true else some (decide (60<(a.heap.length:Int)))).bind fun d=>bif d then some 5 else(bif a.aC<0 then some true else some (decide (1073741824<a.aC))).bind fun b=>bif b then some 3 else(O9 N a c a.a7 0).bind fun o=>match o with|.ret r=>some r|.next ()=>(X5 N a c a.a7 0).bind fun o=>match o with|.ret r=>some r|.next ()=>(U2 N a a.heap 0).bind fun o=>match o with|.ret r=>some r|.next ()=>some 0
def ma (N:Nat) (c:(List Ins)):List Ins->Nat->Option (H9 Bool Unit)
  |[],a=>some (.next ())
  |x10::rest7,a=>(j4 c (a:Int)).bind fun b=>bif !cz (bd x10) (bd b)then some (.ret false)else ma N c rest7 (a+1)
def rF (N:Nat) (a:(List Ins)) (b:(List Ins)):Option Bool :=
  bif !(a.length:Int)=(b.length:Int)then some false else(ma N b a 0).bind fun o=>match o with|.ret r=>some r|.next ()=>some true
def mW (N:Nat) (c:Cl):List Me->Nat->Option (H9 Bool Unit)
  |[],b=>some (.next ())
  |x35::rest32,b=>(j4 c.aB (b:Int)).bind fun a=>(bif !x35.name=a.name then some true else bif !x35.args=a.args then some true else bif !x35.a8=a.a8 then some true else bif !x35.aV=a.aV then some true else(rF N x35.code a.code).bind fun d=>some (!d)).bind fun e=>bif e then some (.ret false)else mW N c rest32 (b+1)
def mY (N:Nat) (d:Wd):List Cl->Nat->Option (H9 Bool Unit)
  |[],b=>some (.next ())
  |x16::rest13,b=>(j4 d.a7 (b:Int)).bind fun a=>(bif !x16.name=a.name then some true else bif !x16.aQ=a.aQ then some true else bif !x16.aG=a.aG then some true else some (!(x16.aB.length:Int)=(a.aB.length:Int))).bind fun c=>bif c then some (.ret false)else(mW N a x16.aB 0).bind fun o=>match o with|.ret r=>some (.ret r)|.next ()=>mY N d rest13 (b+1)
def mZ (N:Nat) (e:Wd) (b:Nat):List V->Nat->Option (H9 Bool Unit)
  |[],a=>some (.next ())
  |x74::rest71,a=>(j4 e.heap (b:Int)).bind fun c=>(j4 c.aG (a:Int)).bind fun d=>bif !cz (eV x74) (eV d)then some (.ret false)else mZ N e b rest71 (a+1)
def mX (N:Nat) (b:Wd):List Ob->Nat->Option (H9 Bool Unit)
  |[],a=>some (.next ())
  |x55::rest52,a=>((j4 b.heap (a:Int)).bind fun d=>bif !x55.cls=d.cls then some true else(j4 b.heap (a:Int)).bind fun e=>some (!(x55.aG.length:Int)=(e.aG.length:Int)):Option Bool).bind fun c=>bif c then some (.ret false)else(mZ N b a x55.aG 0).bind fun o=>match o with|.ret r=>some (.ret r)|.next ()=>mX N b rest52 (a+1)
def rD (N:Nat) (a:Wd) (b:Wd):Option Bool :=
  (bif !a.aC=b.aC then some true else bif !(a.a7.length:Int)=(b.a7.length:Int)then some true else some (!(a.heap.length:Int)=(b.heap.length:Int))).bind fun c=>bif c then some false else(mY N b a.a7 0).bind fun o=>match o with|.ret r=>some r|.next ()=>(mX N b a.heap 0).bind fun o=>match o with|.ret r=>some r|.next ()=>some true
def qt (N:Nat):Option Bool :=
  (wD N [⟨1,⟨#[65]⟩,0,1,⟨BY,0,0,0,[]⟩,⟨⟨0,0⟩,BY,[]⟩⟩,⟨3,BY,4,0,⟨BY,0,0,0,[]⟩,⟨⟨0,0⟩,BY,[]⟩⟩,⟨7,BY,0,0,⟨BY,0,0,0,[]⟩,⟨⟨0,0⟩,BY,[]⟩⟩,⟨4,BY,0,0,⟨BY,0,0,0,[]⟩,⟨⟨3,2⟩,⟨#[43]⟩,[⟨3,5⟩]⟩⟩,⟨8,BY,0,0,⟨BY,0,0,0,[]⟩,⟨⟨0,0⟩,BY,[]⟩⟩]).bind fun a=>(pH N).bind fun g=>(mS N g ⟨0,BY,0,0,⟨BY,0,0,0,[]⟩,⟨⟨0,0⟩,BY,[]⟩⟩).bind fun f=>(bif a.2.2=0 then bif(a.2.1.length:Int)=5 then(j4 a.2.1 0).bind fun c=>bif c.n=4 then(j4 a.2.1 3).bind fun d=>bif d.value.n=7 then(j4 a.2.1 4).bind fun e=>bif e.err=0 then bif(a.1.world.heap.length:Int)=1 then bif f.2.err=1 then bif(f.1.world.a7.length:Int)=4 then(pI N a.1).bind fun b=>some (decide ((b.world.a7.length:Int)=5))else some false else some false else some false else some false else some false else some false else some false else some false).bind fun h=>some h
def V9 (N:Nat):List cu->Nat->U8->Option (H9 Bool Unit)
  |[],g,b=>some (.next ())
  |x16::rest13,g,b=>(mS N b x16).bind fun a=>((jX N a.1.world).bind fun c=>bif !c=0 then some true else some (a.1.world.aC<b.world.aC):Option Bool).bind fun e=>bif e then some (.ret false)else(bif !a.2.err=0 then(rD N a.1.world b.world).bind fun d=>some (!d)else some false).bind fun f=>bif f then some (.ret false)else V9 N rest13 (g+1) a.1
def uC (N:Nat) (a:(List cu)):Option Bool :=
  (qt N).bind fun b=>bif !b then some false else bif 60<(a.length:Int)then some true else(pH N).bind fun c=>(V9 N a 0 c).bind fun o=>match o with|.ret r=>some r|.next ()=>some true
def Fl {N:Nat} {fr:List j3} {i:Nat} {r:V×List j3} (h:Y9 N fr i=some r) {x d:j3} (b:fr[i]?=some x) (a:r.2[i]?=some d):d.aR=x.aR:=by
  unfold Y9 at h;obtain⟨y,c,h⟩:=N7 h;rw[b] at c;cases c;obtain⟨v,f,h⟩:=N7 h;obtain⟨e,h⟩:=j7 h;obtain rfl:=Option.some.inj h;have hl:=(ME.1 b).1;simp only[List.getElem?_set_self hl,Option.some.injEq] at a;rw[<-a]
def newRow (a:AV):List (List AV):=[[.str ⟨#[79,98,106,101,99,116]⟩,.int (-1),.int 0,.aJ],[.str ⟨#[78,105,108]⟩,.int 0,.int 0,.aJ],[.str ⟨#[66,111,111,108]⟩,.int 0,.int 0,.aJ],[.str ⟨#[73,110,116]⟩,.int 0,.int 0,a]]
def Ku : ∀k:Nat,k<5->∃x p,xZ[k]?=some x/\([3,1,2,4,5]:List Int)[k]?=some p/\U0[k]?=some ⟨x,1,0,p,[]⟩
 |0,_=>⟨_,_,rfl,rfl,rfl⟩
 |1,_=>⟨_,_,rfl,rfl,rfl⟩
 |2,_=>⟨_,_,rfl,rfl,rfl⟩
 |3,_=>⟨_,_,rfl,rfl,rfl⟩
 |4,_=>⟨_,_,rfl,rfl,rfl⟩
 |k+5,h=>absurd h d9
set_option maxRecDepth 100000 in
def H4 (N:Nat) (r:Wd) (h:s8 N=some r):Spec prog 31 [] [] (.agg (M8 r)) [] []:=by
 obtain rfl:=Option.some.inj h;refine Spec.of eg func31 rfl ntmps31 C8 rfl rfl rfl fun f a=>?_
 (repeat (first|refine H6 a ?_|refine M4 a ?_|refine O1 a ?_|refine M3 a ?_|refine M0 a ?_|refine K7 a ?_|refine ao a ?_))
 (try refine Or.inr ?_)
 refine Exists.intro (newRow .aJ) (AN (by repeat (first|exact trivial|exact rfl|(refine AN ?_ ?_))) ?_)
 (repeat (first|refine H6 a ?_|refine M4 a ?_|refine O1 a ?_|refine M3 a ?_|refine M0 a ?_|refine K7 a ?_|refine ao a ?_))
 refine Exists.intro (MJ px xZ) (AN (by repeat (first|exact trivial|exact rfl|(refine AN ?_ ?_))) ?_);refine J2 (fun hl=>?_);show j6 prog f _ _ _ _;refine j6.gh (Gh.e8 (r:=8) (i:=3) (off:=3) (j:=104) (j':=105) (isz:=5) (ie:=27) rfl rfl rfl rfl rfl rfl rfl rfl) (fun _=>?_);refine j6.gQ (ι:=Hd) (fun g=>[(0,.ptr 0 0),(1,.ptr 1 0)]) (fun g=>[(0,.box [.aJ,.aJ,.int 0] 40),(1,.box [.aK 8,.aJ,.int 0] 40),(8,.row 4 (newRow (.aU g.v)) 81),(104,.row 5 (U0.map G9) 27),(105,.eqv 104 g.v)]) (fun z u G D=>?_) (by intro q;rw[a];rfl) ?_
 ·refine j6.sa fun y B s F C=>?_;refine j6.jJ (ι:={ q:Nat×Hd // q.1<=5 }) (fun q=>[(0,.ptr 0 0),(1,.ptr 1 0),(10,.aK 10),(11,.int 5),(12,.int q.1.1)]) (fun q=>[(0,.box [.aJ,.aJ,.int 0] 40),(1,.box [.aK 8,.aJ,.int 0] 40),(8,.row 4 (newRow (.aU q.1.2.v)) 81),(10,.row 1 (xZ.map px) 9),(104,.row 5 ((U0.take q.1.1).map G9) 27),(105,.eqv 104 q.1.2.v)]) (fun q=>5-q.1.1) ⟨(0,⟨none,0,0⟩),d9⟩ [] ⟨⟨rfl,rfl,rfl,rfl,rfl,trivial⟩,⟨rfl,rfl,rfl,rfl,rfl,rfl,trivial⟩,rfl,rfl⟩ (by intro q;rw[a];rfl) ?_;rintro⟨⟨k,hd⟩,m⟩ A nl w E;have m:k<=5:=m
  (repeat (first|refine H6 a ?_|refine M4 a ?_|refine O1 a ?_|refine M3 a ?_|refine M0 a ?_|refine K7 a ?_|refine ao a ?_))
  refine im (fun c=>?_) (fun l=>?_)
  ·have c:k<5:=by have:(k:Int)<5:=c;omega
   obtain⟨x,p,o,n,t⟩:=Ku k c
   (repeat (first|refine H6 a ?_|refine M4 a ?_|refine O1 a ?_|refine M3 a ?_|refine M0 a ?_|refine K7 a ?_|refine ao a ?_))
   refine bT (i:=(k:Int)) (by rw[D7];exact o) ?_;refine V8 o ?_;show j6 prog f _ _ _ _;refine j6.snoc (tY a C8 ?_);refine AN G8 (AN (by show(3:Int)<4;decide) ?_);refine AN (by show 3<4;decide) (fun d b=>?_);have b:(newRow (.aU hd.v))[3]?=some d:=b;obtain rfl:d=[.str ⟨#[73,110,116]⟩,.int 0,.int 0,.aU hd.v]:=(Option.some.inj b).symm;refine AN rfl ?_;refine Exists.intro (MJ cE [3,1,2,4,5]) (AN (by repeat (first|exact trivial|exact rfl|(refine AN ?_ ?_))) ?_);refine bT (i:=(k:Int)) (by rw[D7];exact n) ?_;refine V8 n ?_;refine Exists.intro (MJ G9 [⟨x,1,0,p,[]⟩]) (AN (by repeat (first|exact trivial|exact rfl|(refine AN ?_ ?_))) ?_);refine AN ?_ (Exists.intro (MJ G9 (U0.take k++[⟨x,1,0,p,[]⟩])) (AN (sV (O4 _)) ?_))
   ·show((MJ G9 (U0.take k)).length+1)*64<=_;rw[MW,Mq];omega
   refine AN G8 (AN (by show(3:Int)<4;decide) ?_);refine AN (by show 3<4;decide) (AN ?_ ?_)
   ·intro d b;have b:(newRow (.aU hd.v))[3]?=some d:=b;obtain rfl:d=[.str ⟨#[73,110,116]⟩,.int 0,.int 0,.aU hd.v]:=(Option.some.inj b).symm;show 3<4;omega
   show X6 f _ _ _;refine X6.gh (Gh.bR 8 106 rfl rfl rfl (fun _=>rfl) rfl) (fun g=>?_);refine X6.done ?_;show j6 prog f _ _ _ _
   (repeat (first|refine H6 a ?_|refine M4 a ?_|refine O1 a ?_|refine M3 a ?_|refine M0 a ?_|refine K7 a ?_|refine ao a ?_))
   refine MF (AN ⟨d9,d9⟩ ?_);refine nl _ _ ?_;refine X6.done ?_;have e:U0.take k++[⟨x,1,0,p,[]⟩]=U0.take (k+1):=by rw[List.take_add_one,t];rfl
   refine⟨⟨(k+1,g),c⟩,[(104,31),(105,106)],by show 5-(k+1)<5-k;omega,⟨⟨rfl,rfl,rfl,rfl,rfl,trivial⟩,⟨rfl,rfl,rfl,rfl,?_,rfl,trivial⟩,rfl,rfl⟩⟩;exact congrArg (fun q=>some (Obj.row 5 (MJ G9 q) 27)) e
  ·have e:k=5:=by have:¬((k:Int)<5):=l;omega
   subst e
   (repeat (first|refine H6 a ?_|refine M4 a ?_|refine O1 a ?_|refine M3 a ?_|refine M0 a ?_|refine K7 a ?_|refine ao a ?_))
   refine w _ _ _ ?_;refine s _ _ ?_;refine u _ _ ?_;refine X6.done ?_;exact⟨hd,[],trivial,⟨⟨rfl,rfl,trivial⟩,⟨rfl,rfl,rfl,rfl,rfl,trivial⟩,rfl,rfl⟩⟩
 intro g;show j6 prog f _ _ _ _;refine j6.kb 8 3 3 104 105 rfl rfl rfl rfl rfl rfl rfl rfl ?_;refine j6.bl 8 (MJ fI N9.a7) rfl (by repeat (first|exact trivial|exact rfl|(refine AN ?_ ?_))) ?_;refine j6.ar 8 rfl ?_
 (repeat (first|refine H6 a ?_|refine M4 a ?_|refine O1 a ?_|refine M3 a ?_|refine M0 a ?_|refine K7 a ?_|refine ao a ?_))
 exact⟨[],_,rfl,(by repeat (first|exact trivial|exact rfl|(refine AN ?_ ?_))),trivial,rfl,rfl,rfl,rfl,rfl⟩
section
open Go.RowKit Go.Lib Go.Proofs
def uO {P:Program} (k:Nat) (w:World) (n x y elem:TypeId) (b o c f:Nat) (a:Addr) (d h:Nat) (e:List Value)
  (u:P.underlying n=some (.slice elem)) (p:(P.info? elem).map (·.size)=some k) (t:e.length=Nat.min d c*k)
  (g:∀j v,e[j]?=some v->w.cell? (a.add j)=some v) (r:∀j,j<e.length->(w.cell? ⟨b,o+j,none⟩).isSome=true) (s:∀j,j<e.length->w.frozen? ⟨b,o+j,none⟩=false) (q:∀v∈e,v.oneCell'=true) :
  (Builtin.copy_ #[n,x] y #[.slice (some ⟨b,o,none⟩) c f,.slice (some a) d h]).run P w=.ok (goInt (Nat.min d c)) (w.setCells b o e):=by
 have hl:=run_loadCells_list (P:=P) w a e g;have m:=run_storeCells_cells (P:=P) b o e 0 w (by simpa using r) (by simpa using s) q;cases l:P.info? elem with
 |none=>simp[l] at p
 |some i =>
  have hi:i.size=k:=by simpa[l] using p
  simp[Builtin.copy_,run_underlying u,Builtin.lenOf,Builtin.firstCells,sizeOf,typeInfo,l,hi,<-t,hl,m]
set_option maxHeartbeats 4000000 in
set_option maxRecDepth 100000 in
def IQ (b off n c i l a G:Nat) (o vs:List Value) (w:World) (hi:i<n) (S:n+1<=c) (hc63:c<=9223372036854775807) (F:l≠b) (L:o.length=n*5) (t:vs.length=5)
  (M:∀j v,o[j]?=some v->w.cell? ⟨b,off+j,none⟩=some v) (s:∀j,j<(n+1)*5->(w.cell? ⟨b,off+j,none⟩).isSome=true) (C:∀j,j<(n+1)*5->w.frozen? ⟨b,off+j,none⟩=false)
  (V:∀j v,vs[j]?=some v->w.cell? ⟨l,a+j,none⟩=some v) (I:∀v∈o,v.oneCell'=true) (J:∀v∈vs,v.oneCell'=true)
  (tA tB:TypeId) (X Y:Nat) (T:w.shape? l=some (tA,X)) (U:w.shape? b=some (tB,Y)) (Q:Y≠0) (N:w.frozen? ⟨l,a,none⟩=false) (O:w.frozen? ⟨l,X,none⟩=false) :
  Calls prog 124 #[.slice (some ⟨b,off,none⟩) n c,.int .i64 i,.slice (some ⟨l,a,none⟩) 1 G] w fun e w' =>
   e=.returned (.slice (some ⟨b,off,none⟩) (n+1) c)/\w'=(w.drew.setCells b (off+(i+1)*5) (o.drop (i*5))).setCells b (off+i*5) vs:=by
 have hz2:¬((i:Int)=(n:Int)):=d9;have E:(prog.info? 27).map (·.size)=some 5:=C8;have R:∀(Z H z:Nat),(callFunc 161 #[.slice (some ⟨l,a,none⟩) 1 G,.slice (some ⟨b,z,none⟩) Z H]).run prog w=.ok (.value (.bool false)) w:=fun Z H z=>by
  rw[run_callFunc_extern func161 C8 C8 C8 (e:=Extern.SlicesOverlaps.overlaps #[79,79] #[4]) C8,
   Lib.run_overlaps_apart w 79 4 27 underlying79 5 (fun w=>C8) ⟨l,a,none⟩ ⟨b,z,none⟩ 1 G Z H F tA tB X Y T U Q N O]
  rfl
 have m:(o.drop (i*5)).length=(n-i)*5:=by rw[List.length_drop,L,Nat.sub_mul]
 have hw1:IntKind.i64.wrap ((i:Int)+1)=(i:Int)+1:=by rw[IntKind.wrap_i64];omega
 have hw2:IntKind.i64.wrap ((n:Int)+1)=(n:Int)+1:=by rw[IntKind.wrap_i64];omega
 have hb1:(0:Int)<=(i:Int)+1:=d9;have hin:i<=n:=d9;have htn:((i:Int)+1).toNat=i+1:=d9;have hb2:¬(c=i+1):=d9;have hb3:(i:Int)<=(n:Int)+1:=d9;have hb4:¬(c=i):=d9;have q:Nat.min (n+1-i) (n+1-(i+1))=n-i:=by simp only[Nat.min_def];split<;>omega
 have r:Nat.min 1 (n+1-i)=1:=by simp only[Nat.min_def];split<;>omega
 have g:∀u p sc,(Builtin.copy_ #[79,79] u #[.slice (some ⟨b,off+(i+1)*5,none⟩) (n+1-(i+1)) p,.slice (some ⟨b,off+i*5,none⟩) (n+1-i) sc]).run prog w.drew=.ok (goInt ((n-i:Nat):Int)) (w.drew.setCells b (off+(i+1)*5) (o.drop (i*5))):=fun u p sc=>by
  have:=uO (P:=prog) 5 w.drew 79 79 u 27 b (off+(i+1)*5) (n+1-(i+1)) p ⟨b,off+i*5,none⟩ (n+1-i) sc (o.drop (i*5)) underlying79 E (by rw[m,q])
   (fun j v d=>by rw[Addr.add_lit,Mo];exact M (i*5+j) v (by rwa [Mm] at d))
   (fun j d=>by rw[Mo];exact s _ (by rw[m] at d;omega)) (fun j d=>by rw[Mo];exact C _ (by rw[m] at d;omega)) (fun v hv=>I v (List.mem_of_mem_drop hv))
  rw[q] at this;exact this
 obtain⟨y,f⟩:∃y,y=w.drew.setCells b (off+(i+1)*5) (o.drop (i*5)):=⟨_,rfl⟩;have D:∀k,k<(n+1)*5->(y.cell? ⟨b,off+k,none⟩).isSome=true:=fun k hk=>by
  rw[f];exact isSome_setCells b _ _ _ (fun j d=>by rw[Mo];exact s _ (by rw[m] at d;omega)) _ (s k hk)
 have B:∀(W:World),(∀x,W.cell? x=y.cell? x)->(∀x,W.frozen? x=y.frozen? x)->∀u p,(Builtin.copy_ #[79,79] u #[.slice (some ⟨b,off+i*5,none⟩) (n+1-i) p,.slice (some ⟨l,a,none⟩) 1 G]).run prog W=.ok (goInt 1) (W.setCells b (off+i*5) vs):=fun W A K u p=>by
  have:=uO (P:=prog) 5 W 79 79 u 27 b (off+i*5) (n+1-i) p ⟨l,a,none⟩ 1 G vs underlying79 E (by rw[t,r])
   (fun j v d=>by
    rw[Addr.add_lit,A,f,World.cell?_setCells_out b _ _ _ _ (fun h _=>absurd h F)];exact V j v d)
   (fun j d=>by rw[A,Mo];exact D _ (by rw[t] at d;omega)) (fun j d=>by rw[K,f,World.frozen?_setCells,Mo];exact C _ (by rw[t] at d;omega)) J
  rw[r] at this;exact this
 rw[<-f] at g;clear q r;have mixed:prog.follows .mixedOrders=true:=C8;rw[show n+1-(i+1)=n-i by omega] at g
 go_enter func124,ntmps124
 go_wp2_with (simp only[R])
 go_region_law_o (refine step_copy_runI rfl _ _ 79 79 rfl _ _ (by simp[Act.eval,Act.put]) (by simp[Act.eval,Act.put]) (g _ _ _) ?_)
 go_wp2_with (at_builtin;refine wpList_copy_runI _ rfl _ _ 79 79 rfl _ _ rfl rfl (B _ (fun _=>rfl) (fun _=>rfl) _ _) ?_)
 go_ret
 first|exact⟨rfl,rfl⟩|exact⟨rfl,by rw[f]⟩
set_option maxHeartbeats 4000000 in
set_option maxRecDepth 100000 in
def IV (b off n c i y l vc:Nat) (f vs:List Value) (w:World) (hi:i<n) (hnc:n<=c) (H:c<n+1) (N:(n+1)*64<=140737488355328) (hbw:b<w.heap.size) (hvw:y<w.heap.size) (hcl:f.length=n*5) (I:vs.length=5)
  (R:∀j v,f[j]?=some v->w.cell? ⟨b,off+j,none⟩=some v)
  (hvs:∀j v,vs[j]?=some v->w.cell? ⟨y,l+j,none⟩=some v) (h1c:∀v∈f,v.oneCell'=true) (h1v:∀v∈vs,v.oneCell'=true) :
  Calls prog 124 #[.slice (some ⟨b,off,none⟩) n c,.int .i64 i,.slice (some ⟨y,l,none⟩) 1 vc] w fun e w'=>∃(G:Nat) (a:Array Value),n+1<=G/\G<=maxLen/\a.size=G*5/\(∀(j:Nat) (v:Value),(f.take (i*5))[j]?=some v->a[j]?=some v) /\
   e=.returned (.slice (some ⟨w.heap.size,0,none⟩) (n+1) G)/\w'=(((w.alloc (.cells a 27)).drew.setCells w.heap.size (i*5) vs).drew).setCells w.heap.size ((i+1)*5) (f.drop (i*5)):=by
 have hz2:¬((i:Int)=(n:Int)):=d9;have hz3:(c:Int)<(n:Int)+1:=d9;have U:(prog.info? 27).map (·.size)=some 5:=C8;obtain⟨J,hi0,hz0⟩:∃J,prog.info? 27=some J/\J.size=5/\J.bytes=64/\∃z,J.zero=some z/\z.cells.size=5:=by
  have h:(prog.info? 27).map (fun i=>(i.size,i.bytes,i.zero.map fun z=>z.cells.size))=some (5,64,some 5):=C8;cases hq:prog.info? 27 with
  |none=>rw[hq] at h;cases h
  |some x =>
   rw[hq] at h;simp only[Mf,Option.some.injEq,Prod.mk.injEq] at h;obtain⟨h1,h2,Z⟩:=h;cases hx:x.zero with
   |none=>rw[hx] at Z;cases Z
   |some z=>rw[hx] at Z;exact⟨x,rfl,h1,h2,z,hx,by simpa using Z⟩
 obtain⟨hzs,V,z,hzz,hzc⟩:=hz0;have T:(n:Int)+1-(i:Int)=((n+1-i:Nat):Int):=d9;have D:i+(n+1-i)=n+1:=d9;have u:(Builtin.firstCells J.size i (.slice (some ⟨b,off,none⟩) i c)).run prog w.drew=.ok (f.take (i*5)).toArray w.drew:=by
  rw[hzs];exact run_firstCells_some w.drew 5 i ⟨b,off,none⟩ i c (f.take (i*5)) (by rw[Mq];omega) (fun j v d=>by
   rw[Addr.add_lit];rw[Mu] at d;split at d
   ·exact R j v d
   ·cases d)
 have s:∀q,(Builtin.append_ #[79,3] q #[.slice (some ⟨b,off,none⟩) i c,.int .i64 ((n:Int)+1-(i:Int))]).run prog w =
   .ok (.slice (some ⟨w.heap.size,0,none⟩) (n+1) (grownCap w (n+1) c 27)) (w.drew.alloc (.cells ((f.take (i*5)).toArray++Builtin.zeroCells z.cells (n+1-i)++Builtin.zeroCells z.cells (grownCap w (n+1) c 27-(n+1))) 27)):=fun q=>by
  have h:=Lib.run_append_grow_zeros w 79 3 q 27 J _ .i64 .i64 underlying79 underlying3 hi0 hzz (some ⟨b,off,none⟩) i c (f.take (i*5)) u (n+1-i) d9 d9 d9 d9 (by rw[V];omega) (by rw[V,D];exact growslice_fits H N);rw[D] at h;rw[T];exact h
 have B:n+1<=grownCap w (n+1) c 27:=grownCap_ge w _ _ _;have o:grownCap w (n+1) c 27<=maxLen:=grownCap_le_maxLen w (n+1) c 27 (by unfold maxLen;omega);have X:∀k,(Builtin.zeroCells z.cells k).size=k*5:=fun k=>by simp[Builtin.zeroCells,hzc]
 obtain⟨G,hG⟩:∃G,G=grownCap w (n+1) c 27:=⟨_,rfl⟩;rw[<-hG] at s B o;obtain⟨a,g⟩:∃a:Array Value,a=(f.take (i*5)).toArray++Builtin.zeroCells z.cells (n+1-i)++Builtin.zeroCells z.cells (G-(n+1)):=⟨_,rfl⟩;rw[<-g] at s;have htl:(f.take (i*5)).length=i*5:=by rw[Mq];omega
 have M:a.size=G*5:=by
  rw[g,Array.size_append,Array.size_append,X,X,List.size_toArray,htl];omega
 have L:∀(j:Nat) (v:Value),(f.take (i*5))[j]?=some v->a[j]?=some v:=fun j v d=>by
  have hjl:=(ME.1 d).1;rw[g,Array.getElem?_append_left (by rw[Array.size_append,List.size_toArray];omega),Array.getElem?_append_left (by rw[List.size_toArray];exact hjl),List.getElem?_toArray];exact d
 obtain⟨r,m⟩:∃r,r=w.drew.alloc (.cells a 27):=⟨_,rfl⟩;rw[<-m] at s;have hN:∀j,j<G*5->(r.cell? ⟨w.heap.size,j,none⟩).isSome=true:=fun j d=>by
  rw[m,World.cell?_alloc_at (w:=w.drew) a _ w.heap.size j rfl,Array.getElem?_eq_getElem d9];rfl
 have K:∀j,r.frozen? ⟨w.heap.size,j,none⟩=false:=fun j=>by rw[m];exact World.frozen?_alloc_at (w:=w.drew) a _ w.heap.size j rfl
 have hOb:∀j v,w.cell? ⟨b,j,none⟩=some v->r.cell? ⟨b,j,none⟩=some v:=fun j v h=>by rw[m,World.cell?_alloc_past (w:=w.drew) _ b j hbw];exact h
 have hOv:∀j v,w.cell? ⟨y,j,none⟩=some v->r.cell? ⟨y,j,none⟩=some v:=fun j v h=>by rw[m,World.cell?_alloc_past (w:=w.drew) _ y j hvw];exact h
 have F:Nat.min 1 (n+1-i)=1:=by simp only[Nat.min_def];split<;>omega
 have E:Nat.min (n-i) (n-i)=n-i:=by simp only[Nat.min_def];split<;>omega
 have O:∀(W:World),(∀x,W.cell? x=r.cell? x)->(∀x,W.frozen? x=r.frozen? x)->∀q A,(Builtin.copy_ #[79,79] q #[.slice (some ⟨w.heap.size,i*5,none⟩) (n+1-i) A,.slice (some ⟨y,l,none⟩) 1 vc]).run prog W=.ok (goInt 1) (W.setCells w.heap.size (i*5) vs):=fun W p C q A=>by
  have:=uO (P:=prog) 5 W 79 79 q 27 w.heap.size (i*5) (n+1-i) A ⟨y,l,none⟩ 1 vc vs underlying79 U (by rw[I,F])
   (fun j v d=>by rw[Addr.add_lit,p];exact hOv _ v (hvs j v d))
   (fun j d=>by rw[p];exact hN _ (by rw[I] at d;omega)) (fun j d=>by rw[C];exact K _) h1v
  rw[F] at this;exact this
 have hGi:¬(G=i):=d9;have hGim:¬(G=i+1):=d9;have hci:¬(c=i):=d9;have hbN:b≠w.heap.size:=d9;have S:(f.drop (i*5)).length=(n-i)*5:=by rw[List.length_drop,hcl,Nat.sub_mul]
 have Q:∀(W:World),(∀x,W.cell? x=(r.setCells w.heap.size (i*5) vs).cell? x)->(∀x,W.frozen? x=(r.setCells w.heap.size (i*5) vs).frozen? x)->∀q A sc,(Builtin.copy_ #[79,79] q #[.slice (some ⟨w.heap.size,(i+1)*5,none⟩) (n-i) A,.slice (some ⟨b,off+i*5,none⟩) (n-i) sc]).run prog W=.ok (goInt ((n-i:Nat):Int)) (W.setCells w.heap.size ((i+1)*5) (f.drop (i*5))):=fun W p C q A sc=>by
  have:=uO (P:=prog) 5 W 79 79 q 27 w.heap.size ((i+1)*5) (n-i) A ⟨b,off+i*5,none⟩ (n-i) sc (f.drop (i*5)) underlying79 U (by rw[S,E])
   (fun j v d=>by
    rw[Addr.add_lit,p,World.cell?_setCells_out _ _ _ _ _ (fun h _=>absurd h hbN),Mo];exact hOb _ v (R (i*5+j) v (by rwa [Mm] at d)))
   (fun j d=>by rw[p];exact isSome_setCells _ _ _ _ (fun t ht=>hN _ (by rw[I] at ht;omega)) _ (hN _ (by rw[S] at d;omega)))
   (fun j d=>by rw[C,World.frozen?_setCells];exact K _) (fun v hv=>h1c v (List.mem_of_mem_drop hv))
  rw[E] at this;exact this
 subst m;have hE1:∀x,((w.alloc (.cells a 27)).drew).cell? x=(w.drew.alloc (.cells a 27)).cell? x:=fun x=>rfl;have hE2:∀x,((w.alloc (.cells a 27)).drew).frozen? x=(w.drew.alloc (.cells a 27)).frozen? x:=fun x=>rfl;have hw1:IntKind.i64.wrap ((i:Int)+1)=(i:Int)+1:=by rw[IntKind.wrap_i64];omega
 have hw2:IntKind.i64.wrap ((n:Int)+1)=(n:Int)+1:=by rw[IntKind.wrap_i64];omega
 have hb1:(0:Int)<=(i:Int)+1:=d9;have hin:i<=n:=d9;have htn:((i:Int)+1).toNat=i+1:=d9;have hb3:(i:Int)<=(n:Int):=d9;have mixed:prog.follows .mixedOrders=true:=C8;have hfin:∃(Y:Nat) (R':Array Value),n+1<=Y/\Y<=maxLen/\R'.size=Y*5/\(∀(j:Nat) (v:Value),(f.take (i*5))[j]?=some v->R'[j]?=some v)/\Y=G/\R'=a:=⟨G,a,B,o,M,L,rfl,rfl⟩;clear T D u g hG E F
 go_enter func124,ntmps124
 go_wp2_with (first
  |(at_builtin;refine Lib.wpList_append_run _ rfl _ _ _ _ rfl _ _ rfl rfl _ _ (s _) ?_)
  |(at_builtin;refine wpList_copy_runI _ rfl _ _ 79 79 rfl _ _ rfl rfl (O _ hE1 hE2 _ _) ?_))
 go_region_law_o (refine step_copy_runI rfl _ _ 79 79 rfl (.slice (some ⟨w.heap.size,(i+1)*5,none⟩) (n-i) (G-(i+1))) (.slice (some ⟨b,off+i*5,none⟩) (n-i) (c-i)) (by simp[Act.eval,Act.put]) (by simp[Act.eval,Act.put]) (Q (((w.alloc (.cells a 27)).drew.setCells w.heap.size (i*5) vs).drew) (fun _=>rfl) (fun _=>rfl) _ _ _) ?_)
 go_wp2
 go_ret
 exact⟨G,a,B,o,M,L,rfl,rfl⟩
set_option maxRecDepth 100000 in
def Kd (l:List Me) (x:Me) (e:IN ((l.length+[x].length)*64) 140737488355328=true):Spec prog 124 [(1000,.row 5 (l.map G9) 27),(1032,.row 5 ([x].map G9) 27)] [.aK 1000,.int l.length,.aK 1032] (.aK 0) [(0,.row 5 ((l++[x]).map G9) 27),(1000,.aF),(1032,.aF)] [0]:=by
 refine Spec.of eg func124 rfl ntmps124 C8 rfl rfl rfl fun j a=>?_;refine H6 a ?_;refine H6 a ?_;refine d41 (b:=(l.length:Int)) l9 rfl rfl ?_;refine H6 a ?_;refine J2 (fun _=>?_);refine j6.oX fun _ c h g=>?_;refine H6 a ?_;refine M3 a ?_;refine K7 a ?_;refine c _ _ ?_;refine H6 a ?_;refine J2 (fun _=>?_);refine j6.oX fun _ f i d=>?_;refine H6 a ?_;refine M3 a ?_;refine d13 (b:=decide ((l.length:Int)=(l.length:Int))) l9 ?_;refine H6 a ?_;refine EC (l2:=[x]) e (O4 _) ?_;refine j6.ar 1032 rfl ?_;refine ao a ?_;refine d _ _ ?_;exact⟨[(0,25)],_,fm⟩
theorem rQ (g:Nat) {e:TypeId} {fz:Nat×Nat}:∀(vs:List Value) (o:Nat) (w:World) (d:Array Value),w.heap[g]?=some (.cells d e fz)->∃c,(w.setCells g o vs).heap[g]?=some (.cells c e fz)/\c.size=d.size
 |[],_,w,d,h=>⟨d,h,rfl⟩
 |v::vs,o,w,d,h=>by
  have f:(w.setCell ⟨g,o,none⟩ v).heap[g]?=some (.cells (d.setIfInBounds o v) e fz):=by
   simp[World.setCell,Array.getElem?_modify,h]
  obtain⟨c,a,b⟩:=rQ g vs (o+1) _ _ f;exact⟨c,a,by rw[b];simp⟩
theorem rG (g:Nat):∀(vs:List Value) (o:Nat) (w:World),(w.setCells g o vs).os=w.os/\(w.setCells g o vs).tape=w.tape/\(w.setCells g o vs).output=w.output/\(w.setCells g o vs).heap.size=w.heap.size/\∀k,k≠g->(w.setCells g o vs).heap[k]?=w.heap[k]?
 |[],_,w=>⟨rfl,rfl,rfl,rfl,fun _ _=>rfl⟩
 |v::vs,o,w=>by
  obtain⟨a,b,c,d,e⟩:=rG g vs (o+1) (w.setCell ⟨g,o,none⟩ v);refine⟨a,b,c,by rw[World.setCells,d];simp[World.setCell],fun k f=>?_⟩;rw[World.setCells,e k f];simp[World.setCell,Array.getElem?_modify,Ne.symm f]
theorem aS.Lj {c c':Ctx} {w w':World} {i:Nat} {o:Obj} {upd:Os} {news:List Nat} (h:aS c w c' w' [(i,o)] upd news) (j:Nat) (r:Obj) (A:lk upd j=none) (u:j≠i) :
  aS c w c' w' [(i,o),(j,r)] (upd++[(j,.aF)]) news:=by
 have T:∀b,Touch c [(i,o)] upd b->Touch c [(i,o),(j,r)] (upd++[(j,.aF)]) b:=by
  rintro b ⟨id,x,l,q,t⟩;have:id=i/\x=o:=by
   rw[l8] at l;split at l
   ·rename_i e;cases l;exact⟨e.symm,rfl⟩
   ·cases l
  obtain⟨rfl,rfl⟩:=this;refine⟨id,x,j5 _ _ _,?_,t⟩;rw[J7];cases m:lk upd id with
  |none=>rw[m] at q;cases q
  |some y=>rfl
 have a:∀id x,lk (upd++[(j,Obj.aF)]) id=some x->lk upd id=some x\/x=.aF:=fun id x hl=>by
  rw[J7] at hl;cases m:lk upd id with
  |none =>
   rw[m] at hl;right;have hl:lk [(j,Obj.aF)] id=some x:=by simpa using hl
   rw[l8] at hl;split at hl
   ·cases hl;rfl
   ·cases hl
  |some y=>rw[m] at hl;left;simpa using hl
 refine⟨h.cX,h.tape,h.output,h.size,h.aq,fun b n=>(h.ak b n).imp (fun h=>h) (Or.imp (fun h=>h) (T b)),fun b n v=>h.ab b n fun z=>v (T b z),h.ctx,⟨fun id x hl=>?_,fun id x b hl d=>?_,fun id k x s b p hl f d g=>?_,h.aO.aq⟩,fun id x b hl d=>?_⟩
 ·rcases a id x hl with hl|rfl
  ·exact h.aO.rep id x hl
  ·trivial
 ·rcases a id x hl with hl|rfl
  ·exact h.aO.lt id x b hl d
  ·exact d.elim
 ·rcases a id x hl with hl|rfl
  ·rcases a k s f with f|rfl
   ·exact h.aO.sep id k x s b p hl f d g
   ·exact g.elim
  ·exact d.elim
 ·rcases a id x hl with hl|rfl
  ·exact(h.az id x b hl d).imp (fun h=>h) (T b)
  ·exact d.elim
def DN {w':World} {g p cap n k:Nat} {e:TypeId} {c:Array Value} {f vs:List Value} (s:w'.heap[g]?=some (.cells c e)) (u:k<n) (r:f.length=n*5) (h:vs.length=5) (i:n+1<=cap) (v:c.size=(p+cap)*5)
  (l:∀j,j<k*5->w'.cell? ⟨g,p*5+j,none⟩=f[j]?) (m:∀j,j<5->w'.cell? ⟨g,p*5+(k*5+j),none⟩=vs[j]?) (o:∀j,k*5<=j->j<n*5->w'.cell? ⟨g,p*5+(5+j),none⟩=f[j]?) :
  (c.toList.drop (p*5)).take ((n+1)*5)=f.take (k*5)++vs++f.drop (k*5):=by
 have q:∀j,w'.cell? ⟨g,j,none⟩=c[j]?:=fun j=>by unfold World.cell?;rw[s];rfl
 have d:(f.take (k*5)).length=k*5:=by rw[Mq];omega
 apply Mn;intro j;by_cases t:j<(n+1)*5
 ·rw[List.getElem?_take_of_lt t,Mm,Array.getElem?_toList,<-q];by_cases a:j<k*5
  ·rw[l j a,MV,Mp d9,List.getElem?_take_of_lt a]
  ·by_cases b:j<k*5+5
   ·have:=m (j-k*5) d9;rw[show k*5+(j-k*5)=j by omega] at this;rw[this,MV,Ma d9,Mp d9,d]
   ·have:=o (j-5) d9 d9;rw[show 5+(j-5)=j by omega] at this;rw[this,Ma (by rw[MK];omega),Mm,MK,d,h];congr 1;omega
 ·rw[Md (by rw[Mq];omega),Md (by rw[MK,MK,d,List.length_drop];omega)]
def Ca (k:Nat):∀(css:List (List Value)) (us:List Value),(∀x∈css,x.length=5)->(css.take k++us::css.drop k).flatten=css.flatten.take (k*5)++us++css.flatten.drop (k*5):=by
 induction k with
 |zero=>intro css us _;simp
 |succ k ih =>
  intro css us h;cases css with
  |nil=>simp
  |cons x css =>
   have d:=h x l9;have:=ih css us fun y c=>h y (by simp[c]);have e:(k+1)*5=x.length+k*5:=d9;have a:x.take (x.length+k*5)=x:=List.take_of_length_le d9;have b:x.drop (x.length+k*5)=[]:=List.drop_eq_nil_of_le d9;rw[List.take_succ_cons,List.drop_succ_cons,List.cons_append,List.flatten_cons,this,List.flatten_cons,e,List.take_append,List.drop_append,a,b];simp
def d87 {d:Type} (l:List d) (k:Nat) (x:d) (e:k<=l.length) (i:Nat):(l.take k++x::l.drop k)[i]?=if i<k then l[i]? else if i=k then some x else l[i-1]?:=by
 have c:(l.take k).length=k:=by rw[Mq];omega
 by_cases a:i<k
 ·rw[N2 a,Mp d9,List.getElem?_take_of_lt a]
 ·rw[N1 a,Ma d9,c];by_cases b:i=k
  ·rw[N2 b,b,Nat.sub_self];rfl
  ·rw[N1 b,show i-k=(i-k-1)+1 by omega,Mw,Mm];congr 1;omega
set_option maxHeartbeats 4000000 in
set_option maxRecDepth 100000 in
def KW (l:List Me) (k:Nat) (x:Me) (hk:k<l.length) (hb:(l.length+1)*64<=140737488355328) :
  Spec prog 124 [(1000,.row 5 (l.map G9) 27),(1032,.row 5 ([x].map G9) 27)] [.aK 1000,.int k,.aK 1032] (.aK 0) [(0,.row 5 ((l.take k++x::l.drop k).map G9) 27),(1000,.aF),(1032,.aF)] [0]:=by
 refine⟨C8,fun id hid=>by rw[Mh] at hid;subst hid;rfl,fun c w args aO R=>?_⟩;obtain⟨args⟩:=args;have R:w9 c w args [.aK 1000,.int k,.aK 1032]:=R;obtain⟨v1,as1,rfl,r1,R⟩:∃v r,args=v::r/\Rd c w v (.aK 1000)/\w9 c w r [.int k,.aK 1032]:=by cases R with|cons a b=>exact⟨_,_,rfl,a,b⟩
 obtain⟨v2,as2,rfl,r2,R⟩:∃v r,as1=v::r/\Rd c w v (.int k)/\w9 c w r [.aK 1032]:=by cases R with|cons a b=>exact⟨_,_,rfl,a,b⟩
 obtain⟨v3,as3,rfl,r3,R⟩:∃v r,as2=v::r/\Rd c w v (.aK 1032)/\w9 c w r []:=by cases R with|cons a b=>exact⟨_,_,rfl,a,b⟩
 obtain rfl:as3=[]:=by cases R;rfl
 obtain⟨rfl,_⟩:=r2.ah;obtain⟨A1,n1,cap1,rfl,h1,_,hc1⟩:=r1.bF;obtain⟨A3,n3,cap3,rfl,h3,_,hc3⟩:=r3.bF;have k0:lk [(1000,Obj.row 5 (l.map G9) 27),(1032,.row 5 ([x].map G9) 27)] 1000=some (.row 5 (l.map G9) 27):=rfl;have k2:lk [(1000,Obj.row 5 (l.map G9) 27),(1032,.row 5 ([x].map G9) 27)] 1032=some (.row 5 ([x].map G9) 27):=rfl;obtain⟨css,M,L1,q1⟩:=aO.rep 1000 _ k0;obtain⟨S,R3,L3,q3⟩:=aO.rep 1032 _ k2;rw[MW] at L1 L3;rw[h1] at M;rw[h3] at R3;obtain⟨us,rfl⟩:∃us,S=[us]:=by
  match S,L3 with
  |[us],_=>exact⟨us,rfl⟩
 have K:us.length=5:=R3.len us l9;have hu1:∀u∈us,u.oneCell'=true:=R3.one us l9;have J:=fC 5 css M.len;have T:∀v∈css.flatten,v.oneCell'=true:=fun v hv=>by
  obtain⟨y,q,hv⟩:=List.mem_flatten.1 hv;exact M.one y q v hv
 rcases M.bV with⟨e,h0⟩|⟨b,off,p,cap,E,e,hh,hle,hpm,hsz,hoff,htk⟩
 ·omega
 rcases R3.bV with⟨e3,h0⟩|⟨L,voff,p3,D,m,e3,Q,hle3,hpm3,hsz3,hoff3,V⟩
 ·cases h0
 obtain⟨rfl,rfl,rfl⟩:A1=some ⟨b,off,none⟩/\n1=css.length/\cap=cap1:=by cases e;exact⟨rfl,rfl,rfl⟩
 obtain⟨rfl,rfl,rfl⟩:A3=some ⟨L,voff,none⟩/\n3=[us].length/\D=cap3:=by cases e3;exact⟨rfl,rfl,rfl⟩
 simp only[ML,Ms] at hle3 V;obtain rfl:=hoff d9;obtain rfl:=hoff3 d9;have hbw:b<w.heap.size:=(Array.getElem?_eq_some_iff.1 hh).1;have hvw:L<w.heap.size:=(Array.getElem?_eq_some_iff.1 Q).1;have hvb:L≠b:=by
  rintro rfl;exact aO.sep 1000 1032 _ _ L G8 k0 k2 (by show(c.hd 1000).ownBlock=some L;rw[h1];rfl) (by show(c.hd 1032).ownBlock=some L;rw[h3];rfl)
 have s:∀j,w.cell? ⟨b,j,none⟩=E[j]?:=fun j=>by unfold World.cell?;rw[hh];rfl
 have P:∀j,w.cell? ⟨L,j,none⟩=m[j]?:=fun j=>by unfold World.cell?;rw[Q];rfl
 have Y:∀j v,css.flatten[j]?=some v->w.cell? ⟨b,p*5+j,none⟩=some v:=fun j v g=>by
  have hjl:=(ME.1 g).1;have C:((E.toList.drop (p*5)).take (css.length*5))[j]?=(E.toList.drop (p*5))[j]?:=List.getElem?_take_of_lt d9;rw[s,<-Array.getElem?_toList,<-Mm,<-C,htk];exact g
 have hvs:∀j v,us[j]?=some v->w.cell? ⟨L,p3*5+j,none⟩=some v:=fun j v g=>by
  have hjl:=(ME.1 g).1;have C:((m.toList.drop (p3*5)).take (1*5))[j]?=(m.toList.drop (p3*5))[j]?:=List.getElem?_take_of_lt d9;have e:(m.toList.drop (p3*5)).take (1*5)=us:=by simpa using V
  rw[P,<-Array.getElem?_toList,<-Mm,<-C,e];exact g
 have hcsN:∀j,j<css.length*5->w.cell? ⟨b,p*5+j,none⟩=css.flatten[j]?:=fun j g=>by
  rw[IS d9];exact Y j _ (IS d9)
 have hfz:∀j,w.frozen? ⟨b,j,none⟩=false:=fun j=>by unfold World.frozen?;rw[hh];simp
 have U:∀j,w.frozen? ⟨L,j,none⟩=false:=fun j=>by unfold World.frozen?;rw[Q];simp
 have fin:∀(w':World) (X:Value),w.grownBy w' (some b)->(X.ownBlock=some b\/∀d,X.ownBlock=some d->w.heap.size<=d)->K5 w' X 5 27 (css.take k++us::css.drop k)->(∃A n cap,X=.slice A n cap/\n<=cap/\cap<=maxLen) ->
   ∃v c',Ending.returned X=.returned v/\aS c w c' w' [(1000,.row 5 (l.map G9) 27),(1032,.row 5 ([x].map G9) 27)] [(0,.row 5 ((l.take k++x::l.drop k).map G9) 27),(1000,.aF),(1032,.aF)] [0]/\Rd c' w' v (.aK 0):=by
  intro w' X hg ad hR ⟨A',n',cp',hv',g1,g2⟩;have hok1:Q5 c w [(1000,.row 5 (l.map G9) 27)]:=aO.sub fun id o hl=>by
   rw[l8] at hl;split at hl
   ·rename_i e;subst e;exact hl
   ·cases hl
  have hgb:∀d,(c.hd 1000).ownBlock=some d↔∃id o,lk [(1000,Obj.row 5 (l.map G9) 27)] id=some o/\aW c id o d:=fun d =>
   ⟨fun h=>⟨1000,_,j5 _ _ _,h⟩,fun⟨id,o,hl,hf⟩=>by
    rw[l8] at hl;split at hl
    ·rename_i e;subst e;cases hl;exact hf
    ·cases hl⟩
  have hob:(c.hd 1000).ownBlock=some b:=by rw[h1];rfl
  have hP:=aS.append (d:=0) hok1 hgb rfl (by rw[hob];exact hg) (by rw[hob];exact ad) (ls:=(l.take k++x::l.drop k).map G9) hR L6 (fun i us' cs' W O=>by
   rw[Mj] at O;rw[d87 css k us d9 i] at W;rw[d87 l k x d9 i] at O;by_cases a:i<k
   ·rw[N2 a] at W O;exact q1 i us' cs' W (by rw[Mj];exact O)
   ·rw[N1 a] at W O;by_cases a2:i=k
    ·rw[N2 a2] at W O;cases W;cases O;exact q3 0 us (G9 x) rfl rfl
    ·rw[N1 a2] at W O;exact q1 (i-1) us' cs' W (by rw[Mj];exact O))
  refine⟨X,c.aN 0 X,rfl,hP.Lj 1032 _ rfl G8,?_⟩;subst hv';exact .aK (n:=n') (cap:=cp') (A:=A') (by simp[Ctx.aN]) g1 g2
 have F:∀y∈css.take k++us::css.drop k,y.length=5:=fun y q=>by
  rcases MT.1 q with q|q
  ·exact M.len y (List.mem_of_mem_take q)
  ·rcases MG.1 q with rfl|q
   ·exact K
   ·exact M.len y (List.mem_of_mem_drop q)
 have H:∀y∈css.take k++us::css.drop k,∀u∈y,u.oneCell'=true:=fun y q=>by
  rcases MT.1 q with q|q
  ·exact M.one y (List.mem_of_mem_take q)
  ·rcases MG.1 q with rfl|q
   ·exact hu1
   ·exact M.one y (List.mem_of_mem_drop q)
 have N:(css.take k++us::css.drop k).length=css.length+1:=L6;have I:(css.flatten.drop (k*5)).length=(css.length-k)*5:=by rw[List.length_drop,J,Nat.sub_mul]
 by_cases z:css.length+1<=cap
 ·refine(IQ b (p*5) css.length cap k L (p3*5) D css.flatten us w d9 z (by unfold maxLen at hpm;omega) hvb J K Y (fun j g=>by
    rw[s,Array.getElem?_eq_getElem d9];rfl) (fun j _=>hfz _) hvs T hu1 27 27 m.size E.size (by unfold World.shape?;rw[Q]) (by unfold World.shape?;rw[hh]) d9 (U _) (U _)).mono ?_
  rintro e w' ⟨rfl,rfl⟩;obtain⟨c1,b1,s1⟩:=rQ b (css.flatten.drop (k*5)) (p*5+(k+1)*5) w.drew E hh;obtain⟨c2,b2,s2⟩:=rQ b us (p*5+k*5) _ c1 b1;obtain⟨f1,f2,f3,f4,f5⟩:=rG b (css.flatten.drop (k*5)) (p*5+(k+1)*5) w.drew;obtain⟨g1,g2,g3,g4,g5⟩:=rG b us (p*5+k*5) (w.drew.setCells b (p*5+(k+1)*5) (css.flatten.drop (k*5)));refine fin _ _ ⟨g1.trans f1,g2.trans f2,g3.trans f3,by rw[g4,f4];exact It _,fun d _ hd=>by
   have hd:d≠b:=fun e=>hd (by rw[e]);exact(g5 d hd).trans (f5 d hd)⟩ (.inl rfl) ⟨.inr ⟨b,p*5,p,cap,c2,by rw[N],b2,d9,hpm,by rw[s2,s1,hsz],fun _=>rfl,?_⟩,F,H⟩ ⟨_,_,_,rfl,z,by unfold maxLen at hpm⊢;omega⟩
  rw[N,Ca k css us M.len];have B:∀j,j<(css.length+1)*5->((w.drew).cell? ⟨b,p*5+j,none⟩).isSome=true:=fun j g=>by
   show(w.cell? ⟨b,p*5+j,none⟩).isSome=true;rw[s,Array.getElem?_eq_getElem d9];rfl
  have hs2:∀j,j<(css.length+1)*5->((w.drew.setCells b (p*5+(k+1)*5) (css.flatten.drop (k*5))).cell? ⟨b,p*5+j,none⟩).isSome=true:=fun j g=>isSome_setCells b _ _ _ (fun t C=>by rw[Mo];exact B _ (by rw[I] at C;omega)) _ (B j g);refine DN b2 d9 J K z (by rw[s2,s1,hsz]) (fun j g=>?_) (fun j g=>?_) (fun j g hj2=>?_)
  ·rw[World.cell?_setCells_out b _ _ _ _ (fun _ _=>by left;show p*5+j<p*5+k*5;omega),World.cell?_setCells_out b _ _ _ _ (fun _ _=>by left;show p*5+j<p*5+(k+1)*5;omega)];exact hcsN j d9
  ·have:=World.cell?_setCells_in b us (p*5+k*5) (w.drew.setCells b (p*5+(k+1)*5) (css.flatten.drop (k*5))) (fun t C=>by rw[Mo];exact hs2 _ d9) j d9;rw[<-Mo,this,IS d9]
  ·rw[World.cell?_setCells_out b _ _ _ _ (fun _ _=>by right;show p*5+k*5+us.length<=p*5+(5+j);omega)];have:=World.cell?_setCells_in b (css.flatten.drop (k*5)) (p*5+(k+1)*5) w.drew (fun t C=>by rw[Mo];exact B _ (by rw[I] at C;omega)) (j-k*5) (by rw[I];omega);rw[show p*5+(k+1)*5+(j-k*5)=p*5+(5+j) by omega] at this;rw[this,List.getElem_drop,IS d9];congr 2;omega
 ·refine(IV b (p*5) css.length cap k L (p3*5) D css.flatten us w d9 hle d9 (by rw[L1];exact hb) hbw hvw J K Y hvs T hu1).mono ?_;rintro e w' ⟨G,f,z1,z2,z3,z4,rfl,rfl⟩;have hN0:(w.alloc (.cells f 27)).drew.heap[w.heap.size]?=some (.cells f 27):=by show(w.heap.push _)[w.heap.size]?=_;rw[Array.getElem?_push,N2 rfl]
  obtain⟨c1,b1,s1⟩:=rQ w.heap.size us (k*5) (w.alloc (.cells f 27)).drew f hN0;obtain⟨c2,b2,s2⟩:=rQ w.heap.size (css.flatten.drop (k*5)) ((k+1)*5) (((w.alloc (.cells f 27)).drew.setCells w.heap.size (k*5) us).drew) c1 b1;obtain⟨f1,f2,f3,f4,f5⟩:=rG w.heap.size us (k*5) (w.alloc (.cells f 27)).drew;obtain⟨g1,g2,g3,g4,g5⟩:=rG w.heap.size (css.flatten.drop (k*5)) ((k+1)*5) (((w.alloc (.cells f 27)).drew.setCells w.heap.size (k*5) us).drew);refine fin _ _ ⟨g1.trans f1,g2.trans f2,g3.trans f3,by rw[g4];show _<=((w.alloc (.cells f 27)).drew.setCells w.heap.size (k*5) us).heap.size;rw[f4];show w.heap.size<=(w.heap.push _).size;rw[Array.size_push];omega,fun d hd _=>by
   have hne:d≠w.heap.size:=d9;refine(g5 d hne).trans ((f5 d hne).trans ?_);show(w.heap.push _)[d]?=w.heap[d]?;rw[Array.getElem?_push,N1 hne]⟩ (.inr fun d hd=>by cases hd;exact It _) ⟨.inr ⟨w.heap.size,0,0,G,c2,by rw[N],b2,d9,d9,by rw[s2,s1,z3,Mi],fun _=>rfl,?_⟩,F,H⟩ ⟨_,_,_,rfl,z1,z2⟩
  rw[N,Ca k css us M.len];have B:∀j,j<G*5->((w.alloc (.cells f 27)).drew.cell? ⟨w.heap.size,j,none⟩)=f[j]?:=fun j g=>by unfold World.cell?;rw[hN0];rfl
  have Z:∀j,j<G*5->((w.alloc (.cells f 27)).drew.cell? ⟨w.heap.size,j,none⟩).isSome=true:=fun j g=>by rw[B j g,Array.getElem?_eq_getElem d9];rfl
  have hi2:∀j,j<G*5->((((w.alloc (.cells f 27)).drew.setCells w.heap.size (k*5) us).drew).cell? ⟨w.heap.size,j,none⟩).isSome=true:=fun j g=>isSome_setCells _ us (k*5) _ (fun t C=>Z _ d9) _ (Z j g);refine DN (p:=0) (cap:=G) b2 d9 J K z1 (by rw[s2,s1,z3,Mi]) (fun j g=>?_) (fun j g=>?_) (fun j g hj2=>?_)
  ·rw[World.cell?_setCells_out _ _ _ _ _ (fun _ _=>by left;show 0*5+j<(k+1)*5;omega)];show((w.alloc (.cells f 27)).drew.setCells w.heap.size (k*5) us).cell? ⟨w.heap.size,0*5+j,none⟩=_;rw[World.cell?_setCells_out _ _ _ _ _ (fun _ _=>by left;show 0*5+j<k*5;omega),Nat.zero_mul,Mi,B j d9];have hj3:(css.flatten.take (k*5))[j]?=some css.flatten[j]:=by rw[List.getElem?_take_of_lt g,IS d9]
   rw[z4 j _ hj3,IS d9]
  ·rw[World.cell?_setCells_out _ _ _ _ _ (fun _ _=>by left;show 0*5+(k*5+j)<(k+1)*5;omega)];show((w.alloc (.cells f 27)).drew.setCells w.heap.size (k*5) us).cell? ⟨w.heap.size,0*5+(k*5+j),none⟩=_;have:=World.cell?_setCells_in w.heap.size us (k*5) (w.alloc (.cells f 27)).drew (fun t C=>Z _ d9) j d9;rw[Nat.zero_mul,Mi,this,IS d9]
  ·have:=World.cell?_setCells_in w.heap.size (css.flatten.drop (k*5)) ((k+1)*5) (((w.alloc (.cells f 27)).drew.setCells w.heap.size (k*5) us).drew) (fun t C=>hi2 _ (by rw[I] at C;omega)) (j-k*5) (by rw[I];omega);rw[show(k+1)*5+(j-k*5)=0*5+(5+j) by omega] at this;rw[this,List.getElem_drop,IS d9];congr 2;omega
set_option maxRecDepth 100000 in
def Fa (N:Nat) (l:List Me) (k:Int) (v:List Me) (r:List Me) (h:rC N l k v=some r):Spec prog 124 [(1000,.row 5 (l.map G9) 27),(1032,.row 5 (v.map G9) 27)] [.aK 1000,.int k,.aK 1032] (.aK 0) [(0,.row 5 (r.map G9) 27),(1000,.aF),(1032,.aF)] [0]:=by
 unfold rC at h
 match v,h with
 |[x],h =>
  obtain⟨b,h⟩:=j7 h;obtain rfl:=Option.some.inj h;simp only[IT,NA] at b;obtain⟨⟨c,d⟩,a⟩:=b;obtain⟨k,rfl⟩:∃m:Nat,k=m:=⟨k.toNat,d9⟩;rw[Mg];by_cases e:k=l.length
  ·subst e;rw[List.take_length,List.drop_length];exact Kd l x a
  ·exact KW l k x d9 (MZ a)
end
section
open Go.RowKit Go.Lib Go.Proofs Go.Shelf Go.Sort
def d36 : Go.Shelf.Ren:=⟨fun|6=>70|15=>104|14=>103|28=>143|29=>144|20=>135|21=>136|22=>137|23=>138|24=>139|25=>140|26=>141|27=>142|46=>179|47=>180|48=>181|49=>182|50=>183|57=>211|n=>n,fun|22=>79|24=>27|25=>134|3=>3|39=>179|0=>0|53=>225|55=>227|4=>4|46=>219|45=>218|50=>181|5=>5|9=>9|66=>266|70=>270|76=>302|77=>135|n=>n,fun|n=>n⟩
def Kq : Go.Proofs.SlLaysF0.n6 prog d36:={
 mixed:=C8,
 f6:=⟨f70.name,G8,func70.trans (congrArg some C8)⟩,
 f14:=⟨f103.name,G8,func103.trans (congrArg some C8)⟩,
 f15:=func104.trans (congrArg some C8),
 f20:=⟨f135.name,G8,func135.trans (congrArg some C8)⟩,
 f21:=⟨f136.name,G8,func136.trans (congrArg some C8)⟩,
 f22:=⟨f137.name,G8,func137.trans (congrArg some C8)⟩,
 f23:=⟨f138.name,G8,func138.trans (congrArg some C8)⟩,
 f24:=⟨f139.name,G8,func139.trans (congrArg some C8)⟩,
 f25:=⟨f140.name,G8,func140.trans (congrArg some C8)⟩,
 f26:=⟨f141.name,G8,func141.trans (congrArg some C8)⟩,
 f27:=⟨f142.name,G8,func142.trans (congrArg some C8)⟩,
 f28:=func143.trans (congrArg some C8),
 f29:=func144.trans (congrArg some C8),
 f46:=⟨f179.name,G8,func179.trans (congrArg some C8)⟩,
 f47:=func180.trans (congrArg some C8),
 f48:=func181.trans (congrArg some C8),
 f49:=⟨f182.name,G8,func182.trans (congrArg some C8)⟩,
 f50:=⟨f183.name,G8,func183.trans (congrArg some C8)⟩,
 f57:=⟨f211.name,G8,func211.trans (congrArg some C8)⟩,
 t0:=underlying0,
 a0:=isAgg0,
 z0:=sizeOf0,
 v0:=zeroValue0,
 t3:=underlying3,
 a3:=isAgg3,
 z3:=sizeOf3,
 v3:=zeroValue3,
 t4:=underlying4,
 a4:=isAgg4,
 z4:=sizeOf4,
 v4:=zeroValue4,
 t5:=underlying5,
 a5:=isAgg5,
 z5:=sizeOf5,
 v5:=zeroValue5,
 t9:=underlying9,
 a9:=isAgg9,
 z9:=sizeOf9,
 v9:=zeroValue9,
 t22:=underlying79,
 a22:=isAgg79,
 z22:=sizeOf79,
 v22:=zeroValue79,
 t25:=underlying134,
 a25:=isAgg134,
 z25:=sizeOf134,
 v25:=zeroValue134,
 t39:=underlying179,
 a39:=isAgg179,
 z39:=sizeOf179,
 v39:=zeroValue179,
 t45:=underlying218,
 a45:=isAgg218,
 z45:=sizeOf218,
 v45:=zeroValue218,
 t46:=underlying219,
 a46:=isAgg219,
 z46:=sizeOf219,
 v46:=zeroValue219,
 t50:=underlying181,
 a50:=isAgg181,
 z50:=sizeOf181,
 v50:=zeroValue181,
 t53:=underlying225,
 a53:=isAgg225,
 z53:=sizeOf225,
 v53:=zeroValue225,
 t55:=underlying227,
 a55:=isAgg227,
 z55:=sizeOf227,
 v55:=zeroValue227,
 t66:=underlying266,
 a66:=isAgg266,
 z66:=sizeOf266,
 v66:=zeroValue266,
 t70:=underlying270,
 a70:=isAgg270,
 z70:=sizeOf270,
 v70:=zeroValue270,
 t76:=underlying302,
 a76:=isAgg302,
 z76:=sizeOf302,
 v76:=zeroValue302,
 t77:=underlying135,
 a77:=isAgg135,
 z77:=sizeOf135,
 v77:=zeroValue135 }
def KM (s:ByteArray) (W:World):Calls prog 145 #[.string s] W fun e w'=>e=.returned (.bool false)/\w'=W:=by
 go_enter func145,ntmps145
 go_wp2
 go_ret
 exact⟨rfl,rfl⟩
def LX (a b:ByteArray) (W:World):Calls prog 105 #[.string a,.string b] W fun e w'=>e=.returned (.int .i64 (if Op.bytesLess a.toList b.toList=true then -1 else if(!(Op.bytesLess a.toList b.toList || a.toList == b.toList))=true then 1 else 0))/\w'=W:=by
 have d:=KM;have c:∀w,(binOp .gtr 9 (.string a) (.string b)).run prog w=.ok (.bool !(Op.bytesLess a.toList b.toList || a.toList == b.toList)) w:=fun w=>by
  simp[binOp,run_underlying underlying9,Op.stringOp]
 generalize f:(!(Op.bytesLess a.toList b.toList || a.toList == b.toList))=z at c⊢
 go_enter func105,ntmps105
 go_wp2_with (go_at_call 145;refine(d _ _).mono ?_;rintro e w' ⟨rfl,rfl⟩)
 all_goals (try (go_ret;exact⟨rfl,rfl⟩))
 all_goals go_wp2_with (simp only[c])
 all_goals (try (go_ret;first|exact⟨rfl,rfl⟩|(refine⟨?_,rfl⟩;simp_all)))
 all_goals go_wp2
 all_goals (go_ret;first|exact⟨rfl,rfl⟩|(refine⟨?_,rfl⟩;simp_all))
def oF (a b:ByteArray):Int:=if Op.bytesLess a.toList b.toList=true then -1 else if(!(Op.bytesLess a.toList b.toList || a.toList == b.toList))=true then 1 else 0
def Jz (s t:ByteArray) (c d f g:Value) (W:World):Calls prog 72 #[.agg #[.string s,c,d,f,g],.string t] W fun e w'=>e=.returned (.int .i64 (oF s t))/\∃q b,w'=grow (W.drewN q) b:=by
 have a:=LX s t;change ∀W,Calls prog 105 _ W fun e w'=>e=.returned (.int .i64 (oF s t))/\w'=W at a;generalize oF s t=r at a⊢
 go_enter func72,ntmps72
 go_wp2_with (go_at_call 105;refine(a _).mono ?_;rintro e w' ⟨rfl,rfl⟩)
 go_ret
 exact⟨rfl,0,_,by rw[alloc_eq_grow];rfl⟩
def LQ (s t:ByteArray) (b c d f h i j k:Value) (W:World):Calls prog 71 #[.agg #[.string s,b,c,d,f],.agg #[.string t,h,i,j,k]] W fun e w'=>e=.returned (.int .i64 (oF s t))/\∃q a,w'=grow (W.drewN q) a:=by
 have g:=fun W=>Jz s t b c d f W;generalize oF s t=r at g⊢
 go_enter func71,ntmps71
 go_wp2_with (go_at_call 72;refine(g _).mono ?_;rintro e w' ⟨rfl,q,a,rfl⟩)
 go_ret
 exact⟨rfl,q,_,by rw[alloc_eq_grow,alloc_eq_grow,grow_grow];exact grow_grow (W.drewN q) _ a⟩
set_option maxHeartbeats 1000000 in
def Lc (n:Nat) (W:World) (h:n<=12):Calls prog 144 #[.int .u64 n] W fun e w'=>(∃l:Int,e=.returned (.int .i64 l))/\w'=W:=by
 have a:∃m:Nat,m<=12/\n=m:=⟨n,h,rfl⟩
 match n,h with
 |0,_|1,_|2,_|3,_|4,_|5,_|6,_|7,_|8,_|9,_|10,_|11,_|12,_ =>
  go_enter func144,ntmps144
  go_wp2
  go_ret
  exact⟨⟨_,rfl⟩,rfl⟩
def bitsLen (n:Nat) (W:World) (h:n<=12):Calls prog 104 #[.int .u64 n] W fun e w'=>(∃l:Int,e=.returned (.int .i64 l))/\w'=W:=by
 have a:=fun W=>Lc n W h
 go_enter func104,ntmps104
 go_wp2_with (go_at_call 144;refine(a _).mono ?_;rintro e w' ⟨⟨l,rfl⟩,rfl⟩)
 go_ret
 exact⟨⟨_,rfl⟩,rfl⟩
def Kz (b:ByteArray):b.toList=b.data.toList:=by
 have:∀(n i:Nat) (r:List UInt8),n=b.size-i->ByteArray.toList.loop b i r=r.reverse++b.data.toList.drop i:=by
  intro n
  induction n with
  |zero =>
   intro i r h;unfold ByteArray.toList.loop;rw[N1 d9];have:b.data.toList.length<=i:=by simpa using(show b.size<=i by omega)
   rw[List.drop_eq_nil_of_le this];simp
  |succ n ih =>
   intro i r h;have hi:i<b.size:=d9;have a:i<b.data.toList.length:=by simpa using hi
   unfold ByteArray.toList.loop;rw[N2 hi,ih (i+1) _ d9,List.drop_eq_getElem_cons a];have e:b.get! i=b.data.toList[i]:=by
    show b.data[i]! = _;rw[getElem!_pos b.data i hi,Array.getElem_toList]
   simp[e]
 have:=this b.size 0 [] d9;simpa[ByteArray.toList] using this
def jo : List Me:=[⟨⟨#[43]⟩,1,0,1,[]⟩,⟨⟨#[45]⟩,1,0,2,[]⟩,⟨⟨#[42]⟩,1,0,3,[]⟩,⟨⟨#[60]⟩,1,0,4,[]⟩,⟨⟨#[61]⟩,1,0,5,[]⟩]
def rk : _root_.Fin 5->Nat|0=>1|1=>2|2=>0|3=>3|4=>4
def vZ (i j:_root_.Fin 5):Int:=if rk i<rk j then -1 else if rk j<rk i then 1 else 0
def oQ (i:_root_.Fin 5):ByteArray:=match i with|0=>⟨#[43]⟩|1=>⟨#[45]⟩|2=>⟨#[42]⟩|3=>⟨#[60]⟩|4=>⟨#[61]⟩
def Lg : Sort.insertionSort (ltOf vZ) #[0,1,2,3,4] 0 5=#[2,0,1,3,4]:=by decide +kernel
def Hj : ∀i j:_root_.Fin 5,oF (oQ i) (oQ j)=vZ i j:=by
 have h:∀i:_root_.Fin 5,(oQ i).toList=(oQ i).data.toList:=fun i=>Kz _;unfold oF;simp only[h];decide +kernel
theorem aS.iA {c:Ctx} {w w':World} {id sz e:Nat} {ls d:List (List AV)} {css':List (List Value)} {b:Nat} (h:Q5 c w [(id,.row sz ls e)]) (f:(c.hd id).ownBlock=some b) (y:K5 w' (c.hd id) sz e css') (hl:css'.length=d.length)
  (B:∀(i:Nat) (us:List Value) (n:List AV),css'[i]?=some us->d[i]?=some n->H5 c.Φ w us n) (r:∀k,k<w.heap.size->k≠b->w'.heap[k]?=w.heap[k]?)
  (C:w.heap.size<=w'.heap.size) (t:w'.os=w.os) (u:w'.tape=w.tape) (v:w'.output=w.output):aS c w c w' [(id,.row sz ls e)] [(id,.row sz d e)] []:=by
 have m:=h.lt id _ b (j5 _ _ _) f;have s:∀x,x=b->Touch c [(id,.row sz ls e)] [(id,.row sz d e)] x:=fun x g=>⟨id,_,j5 _ _ _,by rw[j5];rfl,by rw[g];exact f⟩;have q:∀x,c.Φ x->w'.heap[x]?=w.heap[x]?:=fun x g=>r x (h.aq x g) fun e=>m.2 (e▸g);refine⟨t,u,v,C,fun b f=>f,fun b f=>.inl f,fun x g A=>r x g fun e=>A (s x e),fun _ _=>⟨rfl,rfl⟩,⟨fun i o hl=>?_,fun i o x hl p=>?_,fun i E o F x j hl l p=>?_,fun x g=>by have:=h.aq x g;omega⟩,fun i o x hl p=>?_⟩<;>rw[l8] at hl<;>split at hl<;>first|(rename_i e1;subst e1;cases hl)|cases hl
 ·exact⟨css',y,by assumption,fun i us n D z=>(B i us n D z).mono q fun _ h=>h⟩
 ·have:x=b:=by have a:(c.hd id).ownBlock=some x:=p;rw[f] at a;injection a with e;exact e.symm
  rw[this];exact⟨d9,m.2⟩
 ·rw[E8 _ _ j] at l;cases l
 ·have:x=b:=by have a:(c.hd id).ownBlock=some x:=p;rw[f] at a;injection a with e;exact e.symm
  exact .inr (s x this)
def sT {Φ:Nat->Prop} {w:World} {us:List Value} {m:Me} (h:H5 Φ w us (G9 m)):∃a b c d,us=[.string m.name,a,b,c,d]:=by
 cases h with
 |cons e f =>
  cases f with
  |cons _ g=>cases g with
   |cons _ i=>cases i with
    |cons _ j=>cases j with
     |cons _ k =>
      cases k;cases e;exact⟨_,_,_,_,rfl⟩
def cf (css:List (List Value)) (i:_root_.Fin 5):List Value:=css.getD i.val []
def ED {p:_root_.Fin 5->Prop} (a:p 0) (b:p 1) (c:p 2) (d:p 3) (e:p 4):∀i,p i
 |⟨0,_⟩=>a
 |⟨1,_⟩=>b
 |⟨2,_⟩=>c
 |⟨3,_⟩=>d
 |⟨4,_⟩=>e
def Cz (css:List (List Value)) (a:∀i,(cf css i).length=5) (d:Array (_root_.Fin 5)) (j:Nat) (f:j<d.size*5):(d.toList.map (cf css)).flatten[j]?=some ((Go.Sort.flatK (cf css) 5 d)[j]!):=by
 have c:j / 5<d.size:=d9;have e:(d.toList.map (cf css))[j / 5]?=some (cf css d[j / 5]):=by
  rw[Mj,Array.getElem?_toList,Array.getElem?_eq_getElem c];rfl
 have:=b9 5 (d.toList.map (cf css)) (fun x g=>by obtain⟨i,_,rfl⟩:=MU.1 g;exact a i) (j / 5) (j % 5) _ e (Nat.mod_lt _ G8);rw[show j / 5*5+j % 5=j by omega] at this;have b:j % 5<(cf css d[j / 5]).length:=by rw[a];omega
 rw[this,get_flatK _ _ _ _ f,getElem!_pos d (j / 5) c,getElem!_pos (cf css d[j / 5]) (j % 5) b,IS b]
set_option maxHeartbeats 1000000 in
set_option maxRecDepth 100000 in
def d80 : Spec prog 70 [(1000,.row 5 (jo.map G9) 27)] [.aK 1000,.fn 71 []] (.aZ []) [(1000,.row 5 (U0.map G9) 27)] []:=by
 refine⟨C8,(fun id hid=>by cases hid),fun c w args aO G=>?_⟩;obtain⟨args⟩:=args;have G:w9 c w args [.aK 1000,.fn 71 []]:=G;obtain⟨v1,W,rfl,r1,G⟩:∃v r,args=v::r/\Rd c w v (.aK 1000)/\w9 c w r [.fn 71 []]:=by cases G with|cons a b=>exact⟨_,_,rfl,a,b⟩
 obtain⟨v2,X,rfl,r2,G⟩:∃v r,W=v::r/\Rd c w v (.fn 71 [])/\w9 c w r []:=by cases G with|cons a b=>exact⟨_,_,rfl,a,b⟩
 obtain rfl:X=[]:=by cases G;rfl
 obtain⟨cb,rfl,hcb⟩:=r2.qd;obtain rfl:cb=[]:=by cases hcb;rfl
 obtain⟨A1,n1,I,rfl,Y,_,hc1⟩:=r1.bF;have k0:lk [(1000,Obj.row 5 (jo.map G9) 27)] 1000=some (.row 5 (jo.map G9) 27):=rfl;obtain⟨css,B,L1,s⟩:=aO.rep 1000 _ k0;rw[Y] at B;obtain⟨f,g,h,l,o,rfl⟩:∃f g h l o,css=[f,g,h,l,o]:=by
  match css,L1 with
  |[a,b,c,d,e],_=>exact⟨a,b,c,d,e,rfl⟩
 obtain⟨a1,a2,a3,a4,rfl⟩:=sT (s 0 f _ rfl rfl);obtain⟨b1,b2,b3,b4,rfl⟩:=sT (s 1 g _ rfl rfl);obtain⟨c1,c2,c3,c4,rfl⟩:=sT (s 2 h _ rfl rfl);obtain⟨d1,d2,d3,d4,rfl⟩:=sT (s 3 l _ rfl rfl);obtain⟨e1,e2,e3,e4,rfl⟩:=sT (s 4 o _ rfl rfl);generalize P:([.string (⟨#[43]⟩:ByteArray),a1,a2,a3,a4]:List Value)=f at B s;generalize Q:([.string (⟨#[45]⟩:ByteArray),b1,b2,b3,b4]:List Value)=g at B s;generalize R:([.string (⟨#[42]⟩:ByteArray),c1,c2,c3,c4]:List Value)=h at B s;generalize S:([.string (⟨#[60]⟩:ByteArray),d1,d2,d3,d4]:List Value)=l at B s;generalize T:([.string (⟨#[61]⟩:ByteArray),e1,e2,e3,e4]:List Value)=o at B s;have Z:∀i,∃y1 y2 y3 y4,cf [f,g,h,l,o] i=[.string (oQ i),y1,y2,y3,y4]:=ED ⟨_,_,_,_,P.symm⟩ ⟨_,_,_,_,Q.symm⟩ ⟨_,_,_,_,R.symm⟩ ⟨_,_,_,_,S.symm⟩ ⟨_,_,_,_,T.symm⟩;have E:∀i,(cf [f,g,h,l,o] i).length=5:=fun i=>by obtain⟨_,_,_,_,e⟩:=Z i;rw[e];rfl
 have N:∀i,cf [f,g,h,l,o] i∈[f,g,h,l,o]:=ED (by simp[cf]) (by simp[cf]) (by simp[cf]) (by simp[cf]) (by simp[cf]);have J:∀i,∀v∈cf [f,g,h,l,o] i,v.oneCell'=true:=fun i v hv=>B.one _ (N i) v hv;clear P Q R S T;rcases B.bV with⟨e,h0⟩|⟨b,off,p,cap,t,e,V,F,hpm,hsz,O,H⟩
 ·cases h0
 obtain⟨rfl,rfl,rfl⟩:A1=some ⟨b,off,none⟩/\n1=5/\cap=I:=by cases e;exact⟨rfl,rfl,rfl⟩
 have F:5<=cap:=F;obtain rfl:=O d9;have K:b<w.heap.size:=(Array.getElem?_eq_some_iff.1 V).1;have C:∀j,w.cell? ⟨b,j,none⟩=t[j]?:=fun j=>by unfold World.cell?;rw[V];rfl
 have hfl:∀d:Array (_root_.Fin 5),d.size=5->(d.toList.map (cf [f,g,h,l,o])).flatten.length=25:=fun d hd=>by
  rw[fC 5 _ (fun x U=>by obtain⟨i,_,rfl⟩:=MU.1 U;exact E i),MW,Array.length_toList,hd]
 have hH:HoldsK (cf [f,g,h,l,o]) 5 w b (p*5) #[0,1,2,3,4]:=fun j D=>by
  rw[size_flatK] at D;have D:j<25:=D;have hf:=Cz [f,g,h,l,o] E #[0,1,2,3,4] j D;have H:(t.toList.drop (p*5)).take (5*5)=((#[0,1,2,3,4]:Array (_root_.Fin 5)).toList.map (cf [f,g,h,l,o])).flatten:=H;have ht:((t.toList.drop (p*5)).take (5*5))[j]?=(t.toList.drop (p*5))[j]?:=List.getElem?_take_of_lt d9;refine⟨?_,by unfold World.frozen?;rw[V];simp⟩;rw[C,<-Array.getElem?_toList,<-Mm,<-ht,H,hf];rfl
 have L:CmpLays prog 71 #[] (cf [f,g,h,l,o]) 5 vZ b (p*5) (#[0,1,2,3,4]:Array (_root_.Fin 5)).size w:=fun m os dk hdk x y=>by
  obtain⟨x1,x2,x3,x4,ex⟩:=Z x;obtain⟨y1,y2,y3,y4,ey⟩:=Z y;rw[ex,ey,<-Hj x y];exact LQ (oQ x) (oQ y) x1 x2 x3 x4 y1 y2 y3 y4 _
 have M:=AnyQ.slices_SortFunc_small Kq 5 isAgg27 sizeOf27 (cf [f,g,h,l,o]) E J vZ 71 #[] b (p*5) cap #[0,1,2,3,4] w (enters_of func71 C8 rfl) L hH K G8 bitsLen;refine Calls.mono (show Calls prog 70 _ _ _ from M) ?_;rintro e w' ⟨rfl,n,os,A⟩;rw[show(#[0,1,2,3,4]:Array (_root_.Fin 5)).size=5 from rfl,Lg] at A;have q:w'.heap=(w.heap.modify b (onCells (putCells id (p*5) (Go.Sort.flatK (cf [f,g,h,l,o]) 5 #[2,0,1,3,4]))))++os:=by rw[A];rfl
 have hb':w'.heap[b]?=some (.cells (putCells id (p*5) (Go.Sort.flatK (cf [f,g,h,l,o]) 5 #[2,0,1,3,4]) t) 27):=by
  rw[q,Array.getElem?_append_left (by simpa using K),Array.getElem?_modify,N2 rfl,V];rfl
 have hob:(c.hd 1000).ownBlock=some b:=by rw[Y];rfl
 refine⟨.tuple #[],c,rfl,aS.iA (css':=(#[2,0,1,3,4]:Array (_root_.Fin 5)).toList.map (cf [f,g,h,l,o])) (b:=b) aO hob ?_ rfl ?_ (fun k E hne=>?_) (by rw[q];simp) (by rw[A];rfl) (by rw[A];rfl) (by rw[A];rfl),.aZ .nil⟩
 ·rw[Y];refine⟨.inr ⟨b,p*5,p,cap,_,rfl,hb',F,hpm,by simpa[putCells] using hsz,fun _=>rfl,?_⟩,fun x U=>by obtain⟨i,_,rfl⟩:=MU.1 U;exact E i,fun x U=>by obtain⟨i,_,rfl⟩:=MU.1 U;exact J i⟩;apply Mn;intro j;by_cases D:j<25
  ·have hf:=Cz [f,g,h,l,o] E #[2,0,1,3,4] j D;have hp:p*5+j<t.size:=d9;rw[List.getElem?_take_of_lt (show j<((#[2,0,1,3,4]:Array (_root_.Fin 5)).toList.map (cf [f,g,h,l,o])).length*5 from D),Mm,Array.getElem?_toList,hf];unfold putCells;rw[Array.getElem?_mapIdx,Array.getElem?_eq_getElem hp];simp only[Mf];rw[N2 ⟨d9,by rw[size_flatK];show p*5+j<p*5+25;omega⟩,show p*5+j-p*5=j by omega];rfl
  ·rw[Md (by rw[Mq];show min 25 _<=j;omega),Md (by rw[hfl _ rfl];omega)]
 ·intro i us cs z u
  match i,z,u with
  |0,z,u=>cases z;cases u;exact s 2 _ _ rfl rfl
  |1,z,u=>cases z;cases u;exact s 0 _ _ rfl rfl
  |2,z,u=>cases z;cases u;exact s 1 _ _ rfl rfl
  |3,z,u=>cases z;cases u;exact s 3 _ _ rfl rfl
  |4,z,u=>cases z;cases u;exact s 4 _ _ rfl rfl
  |i+5,z,u=>cases u
 ·rw[q,Array.getElem?_append_left (by simpa using E),Array.getElem?_modify,N1 (fun e=>hne e.symm)]
def vr : List ByteArray:=[⟨#[43]⟩,⟨#[45]⟩,⟨#[42]⟩,⟨#[60]⟩,⟨#[61]⟩]
set_option maxRecDepth 100000 in
def Jm : Spec prog 69 [] [] (.aK 0) [(0,.row 1 (MJ px vr) 9)] [0]:=by
 refine Spec.of eg func69 rfl ntmps69 C8 rfl rfl rfl fun b a=>?_;refine H6 a ?_;refine H6 a ?_;refine Exists.intro (MJ px vr) (AN (by repeat (first|exact trivial|exact rfl|(refine AN ?_ ?_))) ?_);refine ao a ?_;exact⟨[(0,1)],_,fm⟩
def qX (a:AV):List (List AV):=[[.str ⟨#[79,98,106,101,99,116]⟩,.int (-1),.int 0,.aJ],[.str ⟨#[78,105,108]⟩,.int 0,.int 0,.aJ],[.str ⟨#[66,111,111,108]⟩,.int 0,.int 0,.aJ],[.str ⟨#[73,110,116]⟩,.int 0,.int 0,a]]
def Hn : ∀k:Nat,k<5->∃x,vr[k]?=some x/\jo[k]?=some ⟨x,1,0,(k:Int)+1,[]⟩
 |0,_=>⟨_,rfl,rfl⟩
 |1,_=>⟨_,rfl,rfl⟩
 |2,_=>⟨_,rfl,rfl⟩
 |3,_=>⟨_,rfl,rfl⟩
 |4,_=>⟨_,rfl,rfl⟩
 |k+5,h=>absurd h d9
set_option maxRecDepth 100000 in
def BF (N:Nat) (r:Wd) (h:uQ N=some r):Spec prog 35 [] [] (.agg (M8 r)) [] []:=by
 obtain rfl:=Option.some.inj h;refine Spec.of eg func35 rfl ntmps35 C8 rfl rfl rfl fun f a=>?_
 (repeat (first|refine H6 a ?_|refine M4 a ?_|refine O1 a ?_|refine M3 a ?_|refine M0 a ?_|refine K7 a ?_|refine ao a ?_))
 refine Or.inr ?_;refine Exists.intro (qX .aJ) (AN (by repeat (first|exact trivial|exact rfl|(refine AN ?_ ?_))) ?_)
 (repeat (first|refine H6 a ?_|refine M4 a ?_|refine O1 a ?_|refine M3 a ?_|refine M0 a ?_|refine K7 a ?_|refine ao a ?_))
 refine AN G8 (AN (by show(3:Int)<4;decide) ?_)
 (repeat (first|refine H6 a ?_|refine M4 a ?_|refine O1 a ?_|refine M3 a ?_|refine M0 a ?_|refine K7 a ?_|refine ao a ?_))
 show L9 prog _ _ _ _;refine cA (Jm.sw 0 15) ?_;refine J2 (fun hl=>?_);show j6 prog f _ _ _ _;refine j6.gh (Gh.e8 (r:=9) (i:=3) (off:=3) (j:=104) (j':=105) (isz:=5) (ie:=27) rfl rfl rfl rfl rfl rfl rfl rfl) (fun _=>?_);refine j6.gQ (ι:=Hd) (fun g=>[(0,.ptr 0 0),(1,.ptr 1 0),(2,.ep 9 3 4 3)]) (fun g=>[(0,.box [.aJ,.aJ,.int 0] 40),(1,.box [.aK 9,.aJ,.int 0] 40),(9,.row 4 (qX (.aU g.v)) 81),(104,.row 5 (jo.map G9) 27),(105,.eqv 104 g.v)]) (fun w s E B=>?_) (by intro q;rw[a];rfl) ?_
 ·refine j6.sa fun u z o D A=>?_;refine j6.jJ (ι:={ q:Nat×Hd // q.1<=5 }) (fun q=>[(0,.ptr 0 0),(1,.ptr 1 0),(2,.ep 9 3 4 3),(15,.aK 15),(16,.int 5),(17,.int q.1.1)]) (fun q=>[(0,.box [.aJ,.aJ,.int 0] 40),(1,.box [.aK 9,.aJ,.int 0] 40),(9,.row 4 (qX (.aU q.1.2.v)) 81),(15,.row 1 (vr.map px) 9),(104,.row 5 ((jo.take q.1.1).map G9) 27),(105,.eqv 104 q.1.2.v)]) (fun q=>5-q.1.1) ⟨(0,⟨none,0,0⟩),d9⟩ [] ⟨⟨rfl,rfl,rfl,rfl,rfl,rfl,trivial⟩,⟨rfl,rfl,rfl,rfl,rfl,rfl,trivial⟩,rfl,rfl⟩ (by intro q;rw[a];rfl) ?_;rintro⟨⟨k,hd⟩,m⟩ y nl t C;have m:k<=5:=m
  (repeat (first|refine H6 a ?_|refine M4 a ?_|refine O1 a ?_|refine M3 a ?_|refine M0 a ?_|refine K7 a ?_|refine ao a ?_))
  refine im (fun c=>?_) (fun l=>?_)
  ·have c:k<5:=by have:(k:Int)<5:=c;omega
   obtain⟨x,n,p⟩:=Hn k c
   (repeat (first|refine H6 a ?_|refine M4 a ?_|refine O1 a ?_|refine M3 a ?_|refine M0 a ?_|refine K7 a ?_|refine ao a ?_))
   refine bT (i:=(k:Int)) (by rw[D7];exact n) ?_;refine V8 n ?_;show j6 prog f _ _ _ _;refine j6.snoc (M4 a ?_);refine AN (by show 3<4;decide) (fun d b=>?_);have b:(qX (.aU hd.v))[3]?=some d:=b;obtain rfl:d=[.str ⟨#[73,110,116]⟩,.int 0,.int 0,.aU hd.v]:=(Option.some.inj b).symm;refine AN rfl ?_;refine MF (AN ⟨d9,d9⟩ ?_);refine Exists.intro (MJ G9 [⟨x,1,0,(k:Int)+1,[]⟩]) (AN (by repeat (first|exact trivial|exact rfl|(refine AN ?_ ?_))) ?_);refine AN ?_ (Exists.intro (MJ G9 (jo.take k++[⟨x,1,0,(k:Int)+1,[]⟩])) (AN (sV (O4 _)) ?_))
   ·show((MJ G9 (jo.take k)).length+1)*64<=_;rw[MW,Mq];omega
   refine AN (by show 3<4;decide) (AN ?_ ?_)
   ·intro d b;have b:(qX (.aU hd.v))[3]?=some d:=b;obtain rfl:d=[.str ⟨#[73,110,116]⟩,.int 0,.int 0,.aU hd.v]:=(Option.some.inj b).symm;show 3<4;omega
   show X6 f _ _ _;refine X6.gh (Gh.bR 9 106 rfl rfl rfl (fun _=>rfl) rfl) (fun g=>?_);refine X6.done ?_;show j6 prog f _ _ _ _
   (repeat (first|refine H6 a ?_|refine M4 a ?_|refine O1 a ?_|refine M3 a ?_|refine M0 a ?_|refine K7 a ?_|refine ao a ?_))
   refine MF (AN ⟨d9,d9⟩ ?_);refine nl _ _ ?_;refine X6.done ?_;have e:jo.take k++[⟨x,1,0,(k:Int)+1,[]⟩]=jo.take (k+1):=by rw[List.take_add_one,p];rfl
   refine⟨⟨(k+1,g),c⟩,[(104,31),(105,106)],by show 5-(k+1)<5-k;omega,⟨⟨rfl,rfl,rfl,rfl,rfl,rfl,trivial⟩,⟨rfl,rfl,rfl,rfl,?_,rfl,trivial⟩,rfl,rfl⟩⟩;exact congrArg (fun q=>some (Obj.row 5 (MJ G9 q) 27)) e
  ·have e:k=5:=by have:¬((k:Int)<5):=l;omega
   subst e
   (repeat (first|refine H6 a ?_|refine M4 a ?_|refine O1 a ?_|refine M3 a ?_|refine M0 a ?_|refine K7 a ?_|refine ao a ?_))
   refine t _ _ _ ?_;refine o _ _ ?_;refine s _ _ ?_;refine X6.done ?_;exact⟨hd,[],trivial,⟨⟨rfl,rfl,rfl,trivial⟩,⟨rfl,rfl,rfl,rfl,rfl,trivial⟩,rfl,rfl⟩⟩
 intro g;show j6 prog f _ _ _ _
 (repeat (first|refine H6 a ?_|refine M4 a ?_|refine O1 a ?_|refine M3 a ?_|refine M0 a ?_|refine K7 a ?_|refine ao a ?_))
 refine AN (by show 3<4;decide) (fun d b=>?_);have b:(qX (.aU g.v))[3]?=some d:=b;obtain rfl:d=[.str ⟨#[73,110,116]⟩,.int 0,.int 0,.aU g.v]:=(Option.some.inj b).symm;refine AN rfl ?_;show L9 prog _ _ _ _;refine cA (d80.sw 1000 104) ?_;show j6 prog f _ _ _ _;refine j6.kb 9 3 3 104 105 rfl rfl rfl rfl rfl rfl rfl rfl ?_;refine j6.bl 9 (MJ fI N9.a7) rfl (by repeat (first|exact trivial|exact rfl|(refine AN ?_ ?_))) ?_;refine j6.ar 9 rfl ?_
 (repeat (first|refine H6 a ?_|refine M4 a ?_|refine O1 a ?_|refine M3 a ?_|refine M0 a ?_|refine K7 a ?_|refine ao a ?_))
 exact⟨[],_,rfl,(by repeat (first|exact trivial|exact rfl|(refine AN ?_ ?_))),trivial,rfl,rfl,rfl,rfl,rfl⟩
end
section
variable {P:Program} {Γ:Z7}
def SQ (P:Program) (Γ:Z7) (y:Code) (Q:Qt):Qt:=fun e ts os=>match e with
 |.normal=>j6 P Γ y ts os Q
 |.exit id=>Q (.exit id) ts os
 |.ret=>Q .ret ts os
def BQ (b:Nat) (Q:Qt):Qt:=fun e ts os=>match e with
 |.normal=>Q .normal ts os
 |.exit id=>match AT id b with
  |true=>Q .normal ts os
  |false=>Q (.exit id) ts os
 |.ret=>Q .ret ts os
def JE (p:Option (Ts×Os)):Qt:=fun _ ts os=>match p with
 |some (t,o)=>∃rl,dT ts os t o rl
 |none=>False
def JS (Γ:Z7) (p:Option (Ts×Os)) (Q:Qt):Qt:=fun e ts os=>match e with
 |.normal=>X6 Γ ts os (JE p)
 |.exit id=>Q (.exit id) ts os
 |.ret=>Q .ret ts os
def LS (Γ:Z7) (b:Nat) (R:Qt) (p:Option (Ts×Os)) (Q:Qt):Qt:=fun e ts os=>match e with
 |.normal=>X6 Γ ts os R
 |.exit id=>match AT id b with
  |true=>X6 Γ ts os (JE p)
  |false=>Q (.exit id) ts os
 |.ret=>Q .ret ts os
theorem j6.tu {x y:Code} {ts:Ts} {os:Os} {Q:Qt} (h:j6 P Γ x ts os (SQ P Γ y Q)):j6 P Γ (.seq x y) ts os Q :=
 j6.seq (h.mono fun e _ _ h=>by cases e<;>exact h)
theorem j6.sd {c:Code} {b:Nat} {ts:Ts} {os:Os} {Q:Qt} (h:j6 P Γ c ts os (BQ b Q)):j6 P Γ (.block b c) ts os Q :=
 j6.AI (h.mono fun e _ _ h=>by cases e<;>exact h)
def U9 {β:Type} (l:List (Nat×β)):List Nat->List (Nat×β)
 |[]=>[]
 |k::r=>match lk l k with
  |some v=>(k,v)::U9 l r
  |none=>U9 l r
def H9.nx {ρ σ:Type}:H9 ρ σ->Option σ
 |.ret _=>none
 |.next s=>some s
structure En (τ ρ:Type) where
 e:τ->Option ρ
 s:ρ->τ
 h:∀o x,e o=some x->o=s x
abbrev e0 {τ:Type}:En τ τ:=⟨some,fun x=>x,fun _ _ h=>Option.some.inj h⟩
abbrev e1 {ρ σ:Type}:En (H9 ρ σ) σ:=⟨H9.nx,.next,fun o x h=>by cases o with|ret=>cases h|next=>cases h;rfl⟩
def jP {σ:Type} (D:σ->Ts) (O:σ->Os) (dt dO:List Nat) (ts:Ts) (os:Os) (s:Option σ):Option (Ts×Os):=match s with
 |none=>none
 |some s=>some (D s++U9 ts dt,O s++U9 os dO)
theorem j6.mM {c:Code} {ts:Ts} {os:Os} {Q:Qt} (p:Option (Ts×Os)) (h:j6 P Γ c ts os (JS Γ p Q)) (hn:∀q,p=some q->(q.1.all fun p=>MX p.1 Γ.n)=true) (h2:∀q,p=some q->Q .normal q.1 q.2):j6 P Γ c ts os Q:=by
 refine⟨fun a w hr=>wp_mono (h.run a w hr) fun e a' w' ⟨ex,ts',os',h1,h2',h3⟩=>?_⟩;cases ex with
 |normal =>
  obtain⟨ts2,os2,hj,h4⟩:=X6.run h2' a' w' h3;unfold JE at hj;split at hj
  ·rename_i t o;obtain⟨rl,hs⟩:=hj;exact⟨.normal,_,_,h1,h2 _ rfl,hs.rel (hn _ rfl) h4⟩
  ·exact hj.elim
 |exit id=>exact⟨.exit id,ts',os',h1,h2',h3⟩
 |ret=>exact⟨.ret,ts',os',h1,h2',h3⟩
end
section
variable {α β σ τ:Type}
def LO {x:Option α} {f:α->Option β} {r:β} {G:Prop} (h:x.bind f=some r) (k:∀a,x=some a->f a=some r->G):G :=
 let ⟨a,h1,h2⟩:=N7 h;k a h1 h2
def Lm {b:Bool} {x:Option β} {r:β} {G:Prop} (h:(bif b then x else none)=some r) (k:b=true->x=some r->G):G :=
 let ⟨h1,h2⟩:=j7 h;k h1 h2
end
structure Wz {κ:Type} (c:κ) (G:Prop):Prop where
 o:G
def ta {Γ:Z7} {ts t:Ts} {os o:Os} {rl:List (Nat×Nat)} (h:dT ts os t o rl:=by(refine dT.mk ?_ ?_ rfl rfl<;>repeat (first|exact trivial|exact rfl|(refine AN ?_ ?_)))):Wz rl (X6 Γ ts os (JE (some (t,o)))):=⟨X6.done ⟨rl,h⟩⟩
def EW {tab:R9} {rs:List ResultVar} {ts:Ts} {os:Os} {av:AV} {upd:Os} {news:List Nat} {rl:List (Nat×Nat)} {r:List AV} (h:Fin tab rs ts os av upd news rl r):Wz rl (d37 tab rs av upd news .ret ts os):=⟨⟨rl,r,h⟩⟩
section
variable {P:Program} {Γ:Z7} {n:Nat} {α β σ ρ τ:Type} {c:Code} {ts:Ts} {os:Os} {Q:Qt}
abbrev nl {α β:Type}:α->List β:=fun _=>[]
def fc (ts:Ts) (os:Os) (K:Ts->Os->Prop):Prop:=fa ts fun ts=>iS os [] fun os=>K ts os
def EO {K:Ts->Os->Prop} (h:fc ts os K):K ts os:=by
 have h:=(ji os [] _).1 ((nU ts _).1 h)
 rwa [List.append_nil] at h
def J {x:Option τ} {f:τ->Option β} {r:β} (E:En τ σ) (hn:Γ.n=n) (h:x.bind f=some r) (D:σ->Ts) (O:σ->Os) (dt dO:List Nat)
  (k1:∀o,x=some o->f o=some r->j6 P Γ c ts os (JS Γ (jP D O dt dO ts os (E.e o)) Q)) (k2:∀s,f (E.s s)=some r->fc (D s++U9 ts dt) (O s++U9 os dO) (Q .normal))
  (hb:∀s,((D s++U9 ts dt).all fun p=>MX p.1 n)=true:=by intro s;rfl):j6 P Γ c ts os Q:=by
 obtain⟨o,h1,h2⟩:=N7 h;subst hn;refine j6.mM _ (k1 o h1 h2) (fun q hq=>?_) (fun q hq=>?_)<;>(cases ho:E.e o with|none=>rw[ho] at hq;cases hq|some s=>rw[ho] at hq;cases hq;first|exact hb s|(have:=E.h _ _ ho;subst this;exact EO (k2 s h2)))
def Jb {x:Option Bool} {f:Bool->Option β} {r:β} (t:Nat) (hn:Γ.n=n) (h:x.bind f=some r) (dt dO:List Nat) (k1:∀o,x=some o->f o=some r->j6 P Γ c ts os (JS Γ (jP (fun s=>[(t,.bool s)]) (fun _=>[]) dt dO ts os (some o)) Q))
  (k2:∀s,f s=some r->fc ((t,.bool s)::U9 ts dt) (U9 os dO) (Q .normal)) (hb:∀s,(((t,AV.bool s)::U9 ts dt).all fun p=>MX p.1 n)=true:=by intro s;rfl):j6 P Γ c ts os Q:=J e0 hn h (fun s=>[(t,.bool s)]) (fun _=>[]) dt dO k1 k2 hb
def Jk {x:Option τ} {f:τ->Option β} {r:β} (E:En τ σ) (hn:Γ.n=n) (h:x.bind f=some r) (D:σ->Ts) (O:σ->Os) (dt dO:List Nat) (rl:List (Nat×Nat))
  (k1:∀o,x=some o->f o=some r->j6 P Γ c ts os (JS Γ (jP D O dt dO ts os (E.e o)) Q)) (k2:∀s,f (E.s s)=some r->Wz rl (fc (D s++U9 ts dt) (O s++U9 os dO) (Q .normal)):=by intro s h;obtain rfl:=oI h;exact ta)
  (hb:∀s,((D s++U9 ts dt).all fun p=>MX p.1 n)=true:=by intro s;rfl):j6 P Γ c ts os Q:=J E hn h D O dt dO k1 (fun s h=>(k2 s h).o) hb
def eA {x:Option Bool} {f:Bool->Option β} {r:β} (t:Nat) (hn:Γ.n=n) (h:x.bind f=some r) (dt dO:List Nat) (rl:List (Nat×Nat)) (k1:∀o,x=some o->f o=some r->j6 P Γ c ts os (JS Γ (jP (fun s=>[(t,.bool s)]) (fun _=>[]) dt dO ts os (some o)) Q))
  (k2:∀s,f s=some r->Wz rl (fc ((t,.bool s)::U9 ts dt) (U9 os dO) (Q .normal)):=by intro s h;obtain rfl:=oI h;exact ta) (hb:∀s,(((t,AV.bool s)::U9 ts dt).all fun p=>MX p.1 n)=true:=by intro s;rfl):j6 P Γ c ts os Q:=J e0 hn h (fun s=>[(t,.bool s)]) (fun _=>[]) dt dO k1 (fun s h=>(k2 s h).o) hb
theorem tK {β:Type} {l:List (Nat×β)}:∀{ks:List Nat} {t:Nat} {x:β},lk (U9 l ks) t=some x->lk l t=some x
 |k::ks,t,x,h=>by
  unfold U9 at h;split at h
  ·rename_i v hv;rw[l8] at h;split at h
   ·rename_i e;subst e;cases h;exact hv
   ·exact tK h
  ·exact tK h
def kd (dt dO:List Nat) (h:fa (U9 ts dt) fun ts=>iS (U9 os dO) [] fun os=>j6 P Γ c ts os Q):j6 P Γ c ts os Q:=by
 have h:=(ji (U9 os dO) [] _).1 ((nU (U9 ts dt) _).1 h);rw[List.append_nil] at h;refine⟨fun a w hr=>h.run a w ?_⟩;obtain⟨c,⟨h1,h2,h3,h4,h5⟩,h6⟩:=hr;exact⟨c,⟨h1,h2,fun t x hl=>h3 t x (tK hl),h4.sub fun _ _=>tK,⟨h5.cX,h5.tape,h5.output,h5.size,h5.aq,h5.ak,h5.ab,fun id o b hl hf=>h5.az _ _ b (tK hl) hf⟩⟩,h6⟩
def LL {ι:Type} (St:ι->Ts) (So:ι->Os) (m:ι->Nat) {b:Nat} (p:Option (Ts×Os)) (i0:ι) (rl0:List (Nat×Nat)) (h0:dT ts os (St i0) (So i0) rl0) (hn:∀i,((St i).all fun p=>MX p.1 Γ.n)=true)
  (hr:∀i,j6 P Γ c (St i) (So i) (LS Γ b (JQ St So fun j=>m j<m i) p Q)) (hp:∀q,p=some q->(q.1.all fun p=>MX p.1 Γ.n)=true) (h2:∀q,p=some q->Q .normal q.1 q.2):j6 P Γ (.block b (.loop c)) ts os Q:=by
 refine j6.mM p (j6.sd (j6.jJ St So m i0 rl0 h0 hn fun i Q1 q1 q2 q3=>(hr i).mono fun e t o h=>?_)) hp h2;cases e with
 |normal=>exact q1 _ _ h
 |ret=>exact q3 _ _ h
 |exit id =>
  refine q2 id _ _ ?_;unfold LS at h;unfold BQ;cases hb:AT id b<;>(simp only[hb] at h⊢;exact h)
def RK {κ:Type} (μ:κ->Nat) (Iv:κ->Nat->Prop) (F:κ->Nat->σ->Option τ) (o:τ) (D:Nat->σ->Ts) (O:Nat->σ->Os) (z:Nat):Qt:=fun _ ts os =>
 ∃(l:κ) (k:Nat) (v:σ) (rl:List (Nat×Nat)),μ l<z/\Iv l k/\F l k v=some o/\dT ts os (D k v) (O k v) rl
def Lr {κ:Type} {μ:κ->Nat} {Iv:κ->Nat->Prop} {l:κ} {F:κ->Nat->σ->Option τ} {o:τ} {D:Nat->σ->Ts} {O:Nat->σ->Os} {z k:Nat} {v:σ} {rl:List (Nat×Nat)} (h:F l k v=some o) (hd:Iv l k) (hz:μ l<z)
  (hs:dT ts os (D k v) (O k v) rl:=by(refine dT.mk ?_ ?_ rfl rfl<;>repeat (first|exact trivial|exact rfl|(refine AN ?_ ?_)))):Wz (v,rl) (X6 Γ ts os (RK μ Iv F o D O z)):=⟨X6.done ⟨l,k,v,rl,hz,hd,h,hs⟩⟩
def LK {κ:Type} {E:En τ ρ} {b:Nat} {f:τ->Option β} {r:β} (μ:κ->Nat) (Iv:κ->Nat->Prop) (l0:κ) (i0:Iv l0 0) (hn:Γ.n=n) {F:κ->Nat->σ->Option τ} {v0:σ} (h:(F l0 0 v0).bind f=some r)
  {D:Nat->σ->Ts} {O:Nat->σ->Os} {rl:List (Nat×Nat)} {D':ρ->Ts} {O':ρ->Os} {dt dO:List Nat}
  (k1:∀o,f o=some r->∀l k v,Iv l k->F l k v=some o->j6 P Γ c (D k v) (O k v) (LS Γ b (RK μ Iv F o D O (μ l)) (jP D' O' dt dO ts os (E.e o)) Q))
  (k3:∀s,f (E.s s)=some r->fc (D' s++U9 ts dt) (O' s++U9 os dO) (Q .normal)) (h0:dT ts os (D 0 v0) (O 0 v0) rl)
  (hb:∀k s,((D k s).all fun p=>MX p.1 n)=true) (hb':∀s,((D' s++U9 ts dt).all fun p=>MX p.1 n)=true):j6 P Γ (.block b (.loop c)) ts os Q:=by
 obtain⟨o,h1,h2⟩:=N7 h;subst hn;refine LL (fun q:{ q:κ×Nat×σ // Iv q.1 q.2.1/\F q.1 q.2.1 q.2.2=some o }=>D q.1.2.1 q.1.2.2) (fun q=>O q.1.2.1 q.1.2.2) (fun q=>μ q.1.1) (jP D' O' dt dO ts os (E.e o)) ⟨(l0,0,v0),i0,h1⟩ rl h0 (fun q=>hb _ _) ?_ (fun q hq=>?_) (fun q hq=>?_)
 ·rintro⟨⟨l,k,v⟩,hd,hf⟩;refine(k1 o h2 l k v hd hf).mono fun ex t s hh=>?_;cases ex with
  |normal=>exact⟨fun a w hr=>let ⟨t2,o2,⟨l,k,v,rl,e1,e2,e3,e4⟩,e5⟩:=X6.run hh a w hr;⟨t2,o2,⟨⟨(l,k,v),e2,e3⟩,rl,e1,e4⟩,e5⟩⟩
  |exit id=>exact hh
  |ret=>exact hh
 all_goals (cases ho:E.e o with|none=>rw[ho] at hq;cases hq|some s=>rw[ho] at hq;cases hq;first|exact hb' s|(have:=E.h _ _ ho;subst this;exact EO (k3 s h2)))
def LR {b:Nat} {f:τ->Option β} {r:β} {lx:List α} (E:En τ ρ) (hn:Γ.n=n) (v0:σ) (F:List α->Nat->σ->Option τ) (h:(F lx 0 v0).bind f=some r)
  (D:Nat->σ->Ts) (O:Nat->σ->Os) (dt dO:List Nat) (rl:List (Nat×Nat)) (D':ρ->Ts) (O':ρ->Os) (dt' dO':List Nat)
  (k1:∀o,f o=some r->∀k v,F [] k v=some o->decide ((k:Int)<(lx.length:Int))=false->j6 P Γ c (D k v++U9 ts dt) (O k v++U9 os dO)
   (LS Γ b (RK List.length (fun l k=>l=lx.drop k) F o (fun k v=>D k v++U9 ts dt) (fun k v=>O k v++U9 os dO) 0) (jP D' O' dt' dO' ts os (E.e o)) Q))
  (k2:∀o,f o=some r->∀k v x l,F (x::l) k v=some o->decide ((k:Int)<(lx.length:Int))=true->lx[k]?=some x->l=lx.drop (k+1)->j6 P Γ c (D k v++U9 ts dt) (O k v++U9 os dO)
   (LS Γ b (RK List.length (fun l k=>l=lx.drop k) F o (fun k v=>D k v++U9 ts dt) (fun k v=>O k v++U9 os dO) (l.length+1)) (jP D' O' dt' dO' ts os (E.e o)) Q))
  (k3:∀s,f (E.s s)=some r->fc (D' s++U9 ts dt') (O' s++U9 os dO') (Q .normal)) (h0:dT ts os (D 0 v0++U9 ts dt) (O 0 v0++U9 os dO) rl:=by(refine dT.mk ?_ ?_ rfl rfl<;>repeat (first|exact trivial|exact rfl|(refine AN ?_ ?_))))
  (hb:∀k s,((D k s++U9 ts dt).all fun p=>MX p.1 n)=true:=by intro k s;rfl) (hb':∀s,((D' s++U9 ts dt').all fun p=>MX p.1 n)=true:=by intro s;rfl):j6 P Γ (.block b (.loop c)) ts os Q :=
 LK List.length (fun l k=>l=lx.drop k) lx rfl hn h (fun o g l k v hd hf=>by
  rcases l with _|⟨x,l⟩
  ·exact k1 o g k v hf (KT hd)
  ·obtain⟨g1,g2,g3⟩:=eE hd;exact k2 o g k v x l hf g3 g1 g2) k3 h0 hb hb'
def LU {b:Nat} {f:τ->Option β} {r:β} {nx:Int} (E:En τ ρ) (hn:Γ.n=n) (v0:σ) (F:Nat->Nat->σ->Option τ) (h:(F (nx-((0:Nat):Int)).toNat 0 v0).bind f=some r)
  (D:Nat->σ->Ts) (O:Nat->σ->Os) (dt dO:List Nat) (rl:List (Nat×Nat)) (D':ρ->Ts) (O':ρ->Os) (dt' dO':List Nat)
  (k1:∀o,f o=some r->∀k v,F 0 k v=some o->decide ((k:Int)<nx)=false->j6 P Γ c (D k v++U9 ts dt) (O k v++U9 os dO)
   (LS Γ b (RK (fun m=>m) (fun m k=>m=(nx-(k:Int)).toNat) F o (fun k v=>D k v++U9 ts dt) (fun k v=>O k v++U9 os dO) 0) (jP D' O' dt' dO' ts os (E.e o)) Q))
  (k2:∀o,f o=some r->∀k v m,F (m+1) k v=some o->decide ((k:Int)<nx)=true->m=(nx-((k+1:Nat):Int)).toNat->j6 P Γ c (D k v++U9 ts dt) (O k v++U9 os dO)
   (LS Γ b (RK (fun m=>m) (fun m k=>m=(nx-(k:Int)).toNat) F o (fun k v=>D k v++U9 ts dt) (fun k v=>O k v++U9 os dO) (m+1)) (jP D' O' dt' dO' ts os (E.e o)) Q))
  (k3:∀s,f (E.s s)=some r->fc (D' s++U9 ts dt') (O' s++U9 os dO') (Q .normal)) (h0:dT ts os (D 0 v0++U9 ts dt) (O 0 v0++U9 os dO) rl:=by(refine dT.mk ?_ ?_ rfl rfl<;>repeat (first|exact trivial|exact rfl|(refine AN ?_ ?_))))
  (hb:∀k s,((D k s++U9 ts dt).all fun p=>MX p.1 n)=true:=by intro k s;rfl) (hb':∀s,((D' s++U9 ts dt').all fun p=>MX p.1 n)=true:=by intro s;rfl):j6 P Γ (.block b (.loop c)) ts os Q :=
 LK (fun m=>m) (fun m k=>m=(nx-(k:Int)).toNat) _ rfl hn h (fun o g m k v hd hf=>by
  rcases m with _|m
  ·exact k1 o g k v hf (LN hd)
  ·exact k2 o g k v m hf (Dr hd).2 (Dr hd).1) k3 h0 hb hb'
def LF {b N:Nat} {f:τ->Option β} {r:β} (E:En τ ρ) (hn:Γ.n=n) (v0:σ) (F:Nat->σ->Option τ) (h:(F N v0).bind f=some r)
  (D:σ->Ts) (O:σ->Os) (dt dO:List Nat) (rl:List (Nat×Nat)) (D':ρ->Ts) (O':ρ->Os) (dt' dO':List Nat)
  (k2:∀o,f o=some r->∀v m,F (m+1) v=some o->j6 P Γ c (D v++U9 ts dt) (O v++U9 os dO)
   (LS Γ b (RK (fun m=>m) (fun m k=>k=0) (fun m _=>F m) o (fun _ v=>D v++U9 ts dt) (fun _ v=>O v++U9 os dO) (m+1)) (jP D' O' dt' dO' ts os (E.e o)) Q))
  (k3:∀s,f (E.s s)=some r->fc (D' s++U9 ts dt') (O' s++U9 os dO') (Q .normal)) (hz:∀v,F 0 v=none:=by intro v;rfl) (h0:dT ts os (D v0++U9 ts dt) (O v0++U9 os dO) rl:=by(refine dT.mk ?_ ?_ rfl rfl<;>repeat (first|exact trivial|exact rfl|(refine AN ?_ ?_))))
  (hb:∀s,((D s++U9 ts dt).all fun p=>MX p.1 n)=true:=by intro s;rfl) (hb':∀s,((D' s++U9 ts dt').all fun p=>MX p.1 n)=true:=by intro s;rfl):j6 P Γ (.block b (.loop c)) ts os Q :=
 LK (fun m=>m) (fun m k=>k=0) N rfl hn (F:=fun m _=>F m) h (fun o g m k v hd hf=>by
  rcases m with _|m
  ·rw[hz] at hf;cases hf
  ·exact k2 o g v m hf) k3 h0 (fun _=>hb) hb'
end
section
variable {P:Program} {Γ:Z7} {c:Code} {ts:Ts} {os:Os} {Q:Qt} {α:Type} {enc:α->List AV}
def gC {T:Ts} {O:Os} (g:Gh Γ ts os (fun _:Unit=>T) fun _=>O) (h:j6 P Γ c T O Q):j6 P Γ c ts os Q:=.gh g fun _=>h
def gE {T:Ts} {O:Os} (g:Gh Γ ts os (fun _:Unit=>T) fun _=>O) (h:X6 Γ T O Q):X6 Γ ts os Q:=.gh g fun _=>h
def gD {l:List α} {x0:α} (id x sh i off:Nat) (hx:l[i]?=some x0) {sz e s0 isz ie:Nat} {cols:bz} {hs:Hs} {ls:List (List AV)} (h1:lk os id=some (.deep sz e cols (l.map enc) hs s0):=by rfl) (h2:lk cols off=some (isz,ie):=by rfl) (h3:(enc x0)[off]?=some (.sl isz ls):=by rfl)
  (h4:fj hs off=none:=by rfl) (h5:AT id x=false:=by rfl) (h6:AT id sh=false:=by rfl) (h7:AT x sh=false:=by rfl) (h8:(hs.all fun p=>!Nat.beq p.2.2 x && !Nat.beq p.2.2 sh)=true:=by rfl) (h9:F5 [x,sh] ts=true:=by rfl)
  (h10:F4 [x,sh] [(id,.deep sz e cols (l.map enc) ((i,off,x)::hs) sh),(x,.row isz ls ie),(sh,.aF)] os=true:=by rfl):Gh Γ ts os (fun _:Unit=>ts) fun _=>(id,.deep sz e cols (l.map enc) ((i,off,x)::hs) sh)::(x,.row isz ls ie)::(sh,.aF)::os :=
 Gh.oH id x sh i off h1 h2 (uI hx) h3 h4 h5 h6 h7 h8 h9 h10
def gA {l:List α} {x0:α} (id y sh i off:Nat) (hx:l[i]?=some x0) (x2:α) {sz e s0 isz ie:Nat} {cols:bz} {hs:Hs} {ls:List (List AV)} (h1:lk os id=some (.deep sz e cols (l.map enc) hs s0):=by rfl) (h2:lk os y=some (.row isz ls ie):=by rfl) (h3:lk cols off=some (isz,ie):=by rfl) (hl:(enc x0).set off (.sl isz ls)=enc x2:=by rfl)
  (h4:fj hs off=some (i,y):=by rfl) (h5:nv hs=true:=by rfl) (h6:AT id y=false:=by rfl) (h7:AT id sh=false:=by rfl) (h8:AT y sh=false:=by rfl) (h9:(hs.all fun p=>!Nat.beq p.2.2 sh)=true:=by rfl) (h10:F5 [sh] ts=true:=by rfl)
  (h11:F4 [sh] [(id,.deep sz e cols ((l.set i x2).map enc) (eD hs off) sh),(y,.aF),(sh,.aF)] os=true:=by rfl):Gh Γ ts os (fun _:Unit=>ts) fun _=>(id,.deep sz e cols ((l.set i x2).map enc) (eD hs off) sh)::(y,.aF)::(sh,.aF)::os :=
 Gh.attach id y sh i off h1 h2 h3 (uI hx) h4 h5 (EG hl) h6 h7 h8 h9 h10 h11
def gB {l:List α} {x0:α} (id y sh i off:Nat) (hx:l[i]?=some x0) {sz e s0 isz ie:Nat} {cols:bz} {hs:Hs} {ls:List (List AV)} (h1:lk os id=some (.deep sz e cols (l.map enc) hs s0):=by rfl) (h2:lk os y=some (.row isz ls ie):=by rfl) (h3:lk cols off=some (isz,ie):=by rfl) (hl:(enc x0).set off (.sl isz ls)=enc x0:=by rfl)
  (h4:fj hs off=some (i,y):=by rfl) (h5:nv hs=true:=by rfl) (h6:AT id y=false:=by rfl) (h7:AT id sh=false:=by rfl) (h8:AT y sh=false:=by rfl) (h9:(hs.all fun p=>!Nat.beq p.2.2 sh)=true:=by rfl) (h10:F5 [sh] ts=true:=by rfl)
  (h11:F4 [sh] [(id,.deep sz e cols (l.map enc) (eD hs off) sh),(y,.aF),(sh,.aF)] os=true:=by rfl):Gh Γ ts os (fun _:Unit=>ts) fun _=>(id,.deep sz e cols (l.map enc) (eD hs off) sh)::(y,.aF)::(sh,.aF)::os :=
 Gh.attach id y sh i off h1 h2 h3 (uI hx) h4 h5 (JR hx hl) h6 h7 h8 h9 h10 h11
def gR (b off j g sg:Nat) {cs:List AV} {e2 sz e sh:Nat} {cols:bz} {l:List (List AV)} (h1:lk os b=some (.box cs e2):=by rfl) (h2:cs[off]?=some (.aK j):=by rfl) (h3:lk os j=some (.deep sz e cols l [] sh):=by rfl) (h4:(AV.au cs).all (fun i=>!Nat.beq i g && !Nat.beq i sg)=true:=by rfl)
  (h5:AT b j=false:=by rfl) (h6:AT b g=false:=by rfl) (h7:AT j g=false:=by rfl) (h8:AT b sg=false:=by rfl) (h9:AT j sg=false:=by rfl) (h10:AT g sg=false:=by rfl) (h11:F5 [g,sg] ts=true:=by rfl)
  (h12:F4 [g,sg] [(b,.box (cs.set off (.aK g)) e2),(g,.deep sz e cols l [] sg),(sg,.aF),(j,.aF)] os=true:=by rfl):Gh Γ ts os (fun _:Unit=>ts) fun _=>(b,.box (cs.set off (.aK g)) e2)::(g,.deep sz e cols l [] sg)::(sg,.aF)::(j,.aF)::os :=
 Gh.tt b off j g sg h1 h2 h3 h4 h5 h6 h7 h8 h9 h10 h11 h12
def gS (id sh:Nat) {sz e s0:Nat} {cols:bz} {l:List (List AV)} (h1:lk os id=some (.deep sz e cols l [] s0):=by rfl) (h2:AT id sh=false:=by rfl) (h3:F5 [sh] ts=true:=by rfl) (h4:F4 [sh] [(id,.deep sz e cols l [] sh),(sh,.aF)] os=true:=by rfl) :
  Gh Γ ts os (fun _:Unit=>ts) fun _=>(id,.deep sz e cols l [] sh)::(sh,.aF)::os:=Gh.zJ id sh h1 h2 h3 h4
def gT (id sh:Nat) (cols:bz) {sz e:Nat} (h1:lk os id=some (.row sz [] e):=by rfl) (h2:AT id sh=false:=by rfl) (h3:F5 [sh] ts=true:=by rfl) (h4:F4 [sh] [(id,.deep sz e cols [] [] sh),(sh,.aF)] os=true:=by rfl) :
  Gh Γ ts os (fun _:Unit=>ts) fun _=>(id,.deep sz e cols [] [] sh)::(sh,.aF)::os:=Gh.oa id sh cols h1 h2 h3 h4
def gX (id:Nat) {o:Obj} (h:lk os id=some o:=by rfl):Gh Γ ts os (fun _:Unit=>ts) fun _=>(id,.aF)::os:=Gh.drop id h
def nR (t id sz e:Nat) (h:j6 P Γ c ((t,.aK id)::ts) ((id,.row sz [] e)::os) Q) (h1:lk ts t=some .aJ:=by rfl) (h2:F5 [id] ts=true:=by rfl) (h3:F4 [id] [(id,.row sz [] e)] os=true:=by rfl):j6 P Γ c ts os Q:=j6.bG t id sz e h1 h2 h3 h
def nB (b off id sz e:Nat) {cs:List AV} {e2:Nat} (h:j6 P Γ c ts ((b,.box (cs.set off (.aK id)) e2)::(id,.row sz [] e)::os) Q) (h1:lk os b=some (.box cs e2):=by rfl) (h2:cs[off]?=some .aJ:=by rfl) (h3:(AV.au cs).all (fun i=>!Nat.beq i id)=true:=by rfl) (h4:AT b id=false:=by rfl)
  (h5:F5 [id] ts=true:=by rfl) (h6:F4 [id] [(b,.box (cs.set off (.aK id)) e2),(id,.row sz [] e)] os=true:=by rfl):j6 P Γ c ts os Q:=j6.eU b off id sz e h1 h2 h3 h4 h5 h6 h
def rB (b off j g:Nat) {cs:List AV} {e2 sz e:Nat} {ls:List (List AV)} (h:j6 P Γ c ts ((b,.box (cs.set off (.aK g)) e2)::(g,.row sz ls e)::(j,.aF)::os) Q) (h1:lk os b=some (.box cs e2):=by rfl) (h2:cs[off]?=some (.aK j):=by rfl) (h3:lk os j=some (.row sz ls e):=by rfl)
  (h4:(AV.au cs).all (fun i=>!Nat.beq i g)=true:=by rfl) (h5:AT b j=false:=by rfl) (h6:AT b g=false:=by rfl) (h7:AT j g=false:=by rfl) (h8:F5 [g] ts=true:=by rfl) (h9:F4 [g] [(b,.box (cs.set off (.aK g)) e2),(g,.row sz ls e),(j,.aF)] os=true:=by rfl):j6 P Γ c ts os Q :=
 j6.jN b off j g h1 h2 h3 h4 h5 h6 h7 h8 h9 h
variable {l l1 l2:List α} {i:Nat} {x:α} {A B' C D':Prop}
def hD {K:Prop} (h:l[i]?=some x) (H:K) (a:A:=by rfl) (b:B':=by rfl) (c:C:=by decide) (d:D':=by rfl):A/\B'/\i<(l.map enc).length/\C/\D'/\K:=d11 h a b c d H
def hS {K:Prop} (h:l[i]?=some x) (H:K) (a:A:=by rfl) (b:B':=by rfl) (d:D':=by decide):A/\B'/\i<(l.map enc).length/\D'/\K:=Kp h a b d H
def iD {K:Prop} {i:Int} (h:j4 l i=some x) (H:K) (a:A:=by rfl) (b:B':=by rfl):A/\B'/\0<=i/\i<((l.map enc).length:Int)/\K:=Lo h a b H
def sD {p:List AV->Prop} {cs':List AV} {K:List (List AV)->Prop} (h:l[i]?=some x) (x2:α) (H:K ((l.set i x2).map enc)) (hp:(∃q,q=(l.map enc).set i cs'/\K q)->p (enc x):=by exact fun h=>h) (hc:cs'=enc x2:=by rfl) (a:A:=by rfl) (b:B':=by rfl) (d:C:=by rfl) :
  A/\B'/\C/\i<(l.map enc).length/\∀cs,(l.map enc)[i]?=some cs->p cs:=Lu h a b d (hp ⟨_,EG hc,H⟩)
def sM {p:List AV->Prop} {cs':List AV} {K:List (List AV)->Prop} (h:l[i]?=some x) (x2:α) (H:K ((l.set i x2).map enc)) (hp:(∃q,bt ((l.map enc).set i cs') q/\K q)->p (enc x):=by exact fun h=>h) (hc:iQ cs' (enc x2):=by exact aT) :
  i<(l.map enc).length/\∀cs,(l.map enc)[i]?=some cs->p cs:=V8 h (hp ⟨_,D0 h hc,H⟩)
def bS {q0:List (List AV)} {K:List (List AV)->Prop} (enc:α->List AV) (l:List α) (H:K (l.map enc)) (h:bt q0 (l.map enc):=by exact aT):∃q,bt q0 q/\K q:=⟨_,h,H⟩
def aM {ls2:List (List AV)} {B C:Nat} {K:List (List AV)->Prop} (hb:IN ((l1.length+l2.length)*B) C=true) (H:K ((l1++l2).map enc)) (hle:bt ls2 (l2.map enc):=by first|exact O4 _|exact Hy _ _|exact aT) :
  ((l1.map enc).length+ls2.length)*B<=C/\∃q,bt (l1.map enc++ls2) q/\K q:=EC hb hle H
def aD {B:Nat} {a b c d e f g:Prop} {K:List (List AV)->Prop} (hb:IN ((l1.length+l2.length)*B) 140737488355328=true) (H:K ((l1++l2).map enc)) (h1:a:=by rfl) (h2:b:=by rfl) (h3:c:=by rfl) (h4:d:=by rfl) (h5:e:=by rfl) (h6:f:=by decide) (h7:g:=by decide) :
  a/\b/\c/\d/\e/\f/\g/\((l1.map enc).length+(l2.map enc).length)*B<=140737488355328/\∀q,q=l1.map enc++l2.map enc->K q:=Hr hb h1 h2 h3 h4 h5 h6 h7 H
end
section
variable {Γ:Z7} {n:Nat} {c:List Nat} {ts:Ts} {os:Os} {Q:Qt} {x y:Code}
def z2 (h:Wz c (j6 prog Γ x ts os (SQ prog Γ y Q))):Wz (2::c) (j6 prog Γ (.seq x y) ts os Q):=⟨.tu h.o⟩
def z3 (hn:Γ.n=n) (h:Wz c (fM prog tab eC Γ n (.seq x y) ts os Q)):Wz (3::c) (j6 prog Γ (.seq x y) ts os Q):=⟨H6 hn h.o⟩
def z4 (hn:Γ.n=n) {a:Operand} (h:Wz c (fM prog tab eC Γ n (.cond a x y) ts os Q)):Wz (4::c) (j6 prog Γ (.cond a x y) ts os Q):=⟨M3 hn h.o⟩
def z5 (hn:Γ.n=n) {id:Nat} {l:Array Oper} (h:Wz c (fM prog tab eC Γ n (.region id l false) ts os Q)):Wz (5::c) (j6 prog Γ (.region id l false) ts os Q):=⟨M4 hn h.o⟩
def z6 {b:Nat} (h:Wz c (j6 prog Γ x ts os (BQ b Q))):Wz (6::c) (j6 prog Γ (.block b x) ts os Q):=⟨.sd h.o⟩
def z7 (hn:Γ.n=n) (h:Wz c (fM prog tab eC Γ n .ret ts os Q)):Wz (7::c) (j6 prog Γ .ret ts os Q):=⟨ao hn h.o⟩
def z8 (hn:Γ.n=n) {id:Nat} {l:Array Oper} (hd:ee l.toList=true) (h:Wz c (fa ts fun ts=>iX prog tab eC n l.toList 0 l.toList ts os [] (Q .normal))):Wz (8::c) (j6 prog Γ (.region id l true) ts os Q):=⟨tY hn hd h.o⟩
def z9 (hn:Γ.n=n) {id:Nat} {l:Array Oper} (hd:ee l.toList=true) (h:Wz c (fa ts fun ts=>iX prog tab eC n l.toList 0 l.toList ts os [] (SQ prog Γ y Q .normal))):Wz (9::c) (j6 prog Γ (.seq (.region id l true) y) ts os Q):=⟨.tu (tY hn hd h.o)⟩
def Lw {p K:Prop} (hp:p) (h:Wz c K):Wz (10::c) (p/\K):=⟨⟨hp,h.o⟩⟩
def Lx {p K:Prop} (h:Wz c p):Wz (11::c) (p\/K):=⟨.inl h.o⟩
def z12 {p K:Prop} (h:Wz c K):Wz (12::c) (p\/K):=⟨.inr h.o⟩
def Ly {α:Type} {l:List α} {enc:α->List AV} {K:Nat->Prop} (h:Wz c (K l.length)):Wz (13::c) (∀n:Nat,n=(l.map enc).length->n<=maxLen->K n):=⟨J2 fun _=>h.o⟩
def M1 (h:Wz c (Q .normal ts os)):Wz (14::c) (X6 Γ ts os Q):=⟨.done h.o⟩
def MA {P:Program} (h:Wz c (j6 P Γ x ts os fun e ts' os'=>match e with
  |.normal=>X6 Γ ts' os' Q
  |.exit id=>Q (.exit id) ts' os'
  |.ret=>Q .ret ts' os')):Wz (15::c) (j6 P Γ x ts os Q):=⟨.snoc h.o⟩
def MB {a b:Int} (h0:0<b) (h1:b<=4611686018427387904) {K:Prop} (h:Wz c K):Wz (16::c) (b≠0/\I5 (a.tmod b)/\K):=⟨Hv h0 h1 h.o⟩
def z17 {p q K:Prop} (hp:p) (hq:q) (h:Wz c K):Wz (17::c) (p/\q/\K):=⟨⟨hp,hq,h.o⟩⟩
def MC {p K:Prop} (h:Wz c K):Wz (18::c) (p->K):=⟨fun _=>h.o⟩
def MD {P:Program} (h:Wz c (iS os [] fun os=>j6 P Γ x ts os Q)):Wz (19::c) (j6 P Γ x ts os Q):=⟨by have:=(ji os [] _).1 h.o;rwa [List.append_nil] at this⟩
def z0 {G:Prop} (h:Wz c G):Wz (0::c) G:=⟨h.o⟩
def z1 (hn:Γ.n=n) (h:Wz c (Q .normal ts os)):Wz (1::c) (j6 prog Γ .skip ts os Q):=⟨K7 hn h.o⟩
def z20 (hn:Γ.n=n) {id:Nat} (h:Wz c (Q (.exit id) ts os)):Wz (20::c) (j6 prog Γ (.exit id) ts os Q):=⟨M0 hn h.o⟩
def zT {b:Bool} {X Y:Prop} (hb:b=true) (h:Wz c X):Wz c (iO.match_1 (motive:=fun _ _ _=>Prop) b X Y (fun X _=>X) (fun _ Y=>Y)):=⟨d13 hb h.o⟩
def zF {b:Bool} {X Y:Prop} (hb:b=false) (h:Wz c Y):Wz c (iO.match_1 (motive:=fun _ _ _=>Prop) b X Y (fun X _=>X) (fun _ Y=>Y)):=⟨nu hb h.o⟩
end
def je {G:Prop} (rl:List (Nat×Nat):=[]) (a:Wz rl G:=by obtain rfl:=oI h;exact ta):G:=a.o
def le {G:Prop} {σ:Type} (v:σ) (rl:List (Nat×Nat)) (a:Wz (v,rl) G:=by exact Lr h (by first|with_reducible assumption|exact rfl) (Nat.lt_succ_self _)):G:=a.o
structure iB (R:Prop):Prop where
 o:R
def so {f n:Nat} {fn:Func} {c:Code} {need upd:Os} {ins:List AV} {av:AV} {news:List Nat} (hf:prog.funcs[f]?=some fn) (hn:fn.ntmps=n)
  (h:∀Γ:Z7,Γ.n=n->j6 prog Γ c (ux ins) need (d37 tab fn.results.toList av upd news)) (hb:fn.body=some c:=by rfl) (hc:bg prog f=true:=by kernel_rfl)
  (hl:IN ins.length n=true:=by rfl) (hneed:(need.all fun p=>IN top p.1 && (lk upd p.1).isSome)=true:=by rfl) (hnews:(news.all fun i=>(lk upd i).isSome)=true:=by rfl):Spec prog f need ins av upd news :=
 Spec.of eg hf hb hn hc hl hneed hnews h
def gz (ks ms:Nat) {Γ:Z7} {n:Nat} (hn:Γ.n=n) {id:Nat} {l:Array Oper} {ts:Ts} {os:Os} {Q:Qt} (h:fa ts fun ts=>iY prog tab eC n l.toList ks ms 0 l.toList ts os [] none (Q .normal)) (hd:ee l.toList=true:=by kernel_rfl):j6 prog Γ (.region id l true) ts os Q:=Hp ks ms hn hd h
def se {β:Type} {b b':Bool} {x y:Option β} {r:β} (h:(bif b then x else y)=some r) {X Y:Prop} (hx:b'=true->x=some r->X) (hy:b'=false->y=some r->Y) (e:b=b':=by rfl):iO.match_1 (motive:=fun _ _ _=>Prop) b' X Y (fun X _=>X) (fun _ Y=>Y):=by
 subst e;exact LW h hx hy
theorem w9.c3 {c:Ctx} {w:World}:∀{us:List Value} {a X Y:AV} {cs:List AV},w9 c w us (a::X::Y::cs)->∃v0 vl vq vs,us=v0::vl::vq::vs/\Rd c w v0 a/\Rd c w vl X/\Rd c w vq Y/\w9 c w vs cs
 |_,_,_,_,_,.cons h0 (.cons h1 (.cons h2 t))=>⟨_,_,_,_,rfl,h0,h1,h2,t⟩
def mb {P:Program} {f b e b':Nat} {u0 u1 av:AV} (X Y:AV) {cs cs' ins:List AV} {need upd:Os} {news:List Nat} (h:∀vl vq,Spec P f ((b,.box (u0::.aU vl::.aU vq::cs) e)::need) ins av ((b',.box (u1::.aU vl::.aU vq::cs') e)::upd) news)
  (hb:b=b':=by rfl) (hi:((X.ids++Y.ids).all fun i=>!news.contains i)=true:=by rfl):Spec P f ((b,.box (u0::X::Y::cs) e)::need) ins av ((b',.box (u1::X::Y::cs') e)::upd) news:=by
 subst hb;have sm:∀{Z Z':List AV} {os:Os} {id:Nat} {o:Obj},lk ((b,.box Z e)::os) id=some o->∃o',lk ((b,.box Z' e)::os) id=some o'/\(∀c x,aW c id o x↔aW c id o' x)/\(o=o'\/(id=b/\o=.box Z e/\o'=.box Z' e)):=fun {Z Z' os id o} hl=>by
  by_cases e1:b=id
  ·subst e1;rw[j5] at hl;cases hl;exact⟨_,j5 _ _ _,fun _ _=>Iff.rfl,.inr ⟨rfl,rfl,rfl⟩⟩
  ·rw[E8 _ _ e1] at hl;exact⟨o,by rw[E8 _ _ e1];exact hl,fun _ _=>Iff.rfl,.inl rfl⟩
 have up:∀{Z Z':List AV} {os:Os} {c:Ctx} {w:World},Q5 c w ((b,.box Z e)::os)->(∀us,w9 c w us Z->w.heap[c.μ b]?=some (.cells us.toArray e)->w9 c w us Z')->Q5 c w ((b,.box Z' e)::os):=fun {Z Z' os c w} hk hz =>
  ⟨fun id o hl=>by
   obtain⟨o',h1,h2,h3|⟨rfl,rfl,rfl⟩⟩:=sm (Z':=Z) hl
   ·subst h3;exact hk.rep id o h1
   ·obtain⟨us,e1,e2⟩:=hk.rep _ _ h1;exact⟨us,e1,hz us e2 e1⟩,
  fun id o x hl hf=>let ⟨o',h1,h2,_⟩:=sm (Z':=Z) hl;hk.lt id o' x h1 ((h2 c x).1 hf),
  fun id id' o o' x hne h1 h2 hf hf'=>let ⟨p,a1,a2,_⟩:=sm (Z':=Z) h1;let ⟨q,b1,b2,_⟩:=sm (Z':=Z) h2;hk.sep id id' p q x hne a1 b1 ((a2 c x).1 hf) ((b2 c x).1 hf'),hk.aq⟩
 refine⟨(h .nilFunc .nilFunc).1,fun id hid=>?_,fun c w args aO hr=>?_⟩
 ·have:=(h .nilFunc .nilFunc).2.1 id hid;rw[l8] at this⊢;split<;>simp_all
 ·obtain⟨us,e1,e2⟩:=aO.rep b _ (j5 _ _ _);obtain⟨v0,vl,vq,vs,rfl,h0,hX,hY,e2⟩:=e2.c3;have hok':Q5 c w ((b,.box (u0::.aU vl::.aU vq::cs) e)::need):=up aO fun us' h1 h2=>by
   rw[e1] at h2;have h3:us'=v0::vl::vq::vs:=by simpa using h2.symm
   subst h3;exact .cons h0 (.cons (.fz (.aU _)) (.cons (.fz (.aU _)) e2))
  refine((h vl vq).2.2 c w args hok' hr).mono fun ex w' ⟨v,c',he,hp,hrd⟩=>⟨v,c',he,?_,hrd⟩;have tc:∀x,Touch c ((b,.box (u0::.aU vl::.aU vq::cs) e)::need) ((b,.box (u1::.aU vl::.aU vq::cs') e)::upd) x->Touch c ((b,.box (u0::X::Y::cs) e)::need) ((b,.box (u1::X::Y::cs') e)::upd) x:=fun x ⟨id,o,h1,h2,h3⟩=>by
   obtain⟨o',a1,a2,_⟩:=sm (Z':=u0::X::Y::cs) h1;obtain⟨p,hp⟩:=Option.isSome_iff_exists.1 h2;obtain⟨p',b1,_⟩:=sm (Z':=u1::X::Y::cs') hp;exact⟨id,o',a1,by rw[b1];rfl,(a2 c x).1 h3⟩
  have nid:∀i,i∈X.ids\/i∈Y.ids->i ∉ news:=fun i hm hn=>by
   have:=MR.1 hi i (MT.2 hm);simp[hn] at this
  refine⟨hp.cX,hp.tape,hp.output,hp.size,hp.aq,fun x hx=>(hp.ak x hx).imp (fun h=>h) fun h=>h.imp (fun h=>h) (tc x),fun x hx hn=>hp.ab x hx fun ht=>hn (tc x ht),hp.ctx,?_,fun id o x hl hf=>?_⟩
  ·refine up hp.aO fun us' h1 h2=>?_;obtain⟨_,_,_,_,rfl,g0,g1,g2,h1⟩:=h1.c3;rw[g1.jE,g2.jE];exact .cons g0 (.cons (Rd.post hp hok' hX fun id h1 h2=>nid id (.inl h2) h1) (.cons (Rd.post hp hok' hY fun id h1 h2=>nid id (.inr h2) h1) h1))
  ·obtain⟨o',a1,a2,_⟩:=sm (Z':=u1::.aU vl::.aU vq::cs') hl;exact(hp.az id o' x a1 ((a2 c' x).1 hf)).imp (fun h=>h) (tc x)
def Sx {c:List Nat} {G R:Prop} (k:R) (a:iB R->Wz c G:=by
  intro q_;(repeat (first|refine z2 ?_|refine z3 hn ?_|(refine z0 ?_;(repeat (first|refine zT (by with_reducible assumption) ?_|refine zF (by with_reducible assumption) ?_)))|refine z4 hn ?_|refine z5 hn ?_|refine z1 hn ?_|refine z7 hn ?_|refine z8 hn C8 ?_|refine z6 ?_|refine Lw rfl ?_|refine Ly ?_|refine z9 hn C8 ?_|refine z12 ?_|refine Lx ?_|refine z20 hn ?_|refine M1 ?_|refine MA ?_|refine MB G8 G8 ?_|refine z17 G8 G8 ?_|refine MC ?_|refine MD ?_));exact⟨q_.o⟩):Wz c G:=a ⟨k⟩
def S (c:List Nat) {G R:Prop} (k:R) (a:iB R->Wz c G:=by intro q_;exact Sx q_.o):G:=(a ⟨k⟩).o
def Sj (c:List Nat) {G R:Prop} (rl:List (Nat×Nat):=[]) (a:iB R->Wz c G:=by intro q_;exact Sx q_.o) (b:Wz rl R:=by obtain rfl:=oI h;exact ta):G:=(a ⟨b.o⟩).o
def Sr (c:List Nat) {G R:Prop} (rl:List (Nat×Nat):=[]) (a:iB R->Wz c G:=by intro q_;exact Sx q_.o) (b:Wz rl R:=by obtain rfl:=oI h;(repeat (have e_:=oI g;clear g;subst e_));exact EW fm):G:=(a ⟨b.o⟩).o
def B (c:List Nat) {G R:Prop} (k:R) (a:iB R->Wz c G:=by intro q_;refine Sx ?_;exact LO h q_.o):G:=(a ⟨k⟩).o
def A (c:List Nat) {G R:Prop} (k:R) (a:iB R->Wz c G:=by intro q_;refine Sx ?_;exact Lm h q_.o):G:=(a ⟨k⟩).o
def I (c:List Nat) {G R R':Prop} (k:R) (k':R') (a:iB R->iB R'->Wz c G:=by intro p_ q_;refine Sx ?_;exact se h p_.o q_.o):G:=(a ⟨k⟩ ⟨k'⟩).o
structure Pk (c:List Nat):Prop where
def Pj {c:List Nat} (_:Pk c) {G R:Prop} (a:iB R->Wz c G:=by intro q_;exact Sx q_.o) (b:Wz ([]:List (Nat×Nat)) R:=by obtain rfl:=oI h;exact ta):G:=(a ⟨b.o⟩).o
def Pr {c:List Nat} (_:Pk c) {G R:Prop} (a:iB R->Wz c G:=by intro q_;exact Sx q_.o) (b:Wz ([]:List (Nat×Nat)) R:=by obtain rfl:=oI h;(repeat (have e_:=oI g;clear g;subst e_));exact EW fm):G:=(a ⟨b.o⟩).o
def Ij (c d:List Nat) {G R:Prop} (k:R) (a:Pk d->iB R->Wz c G:=by intro p_ q_;refine Sx ?_;refine se h ?_ q_.o;intro _ h;exact Pj p_):G:=(a ⟨⟩ ⟨k⟩).o
def Ir (c d:List Nat) {G R:Prop} (k:R) (a:Pk d->iB R->Wz c G:=by intro p_ q_;refine Sx ?_;refine se h ?_ q_.o;intro _ h;exact Pr p_):G:=(a ⟨⟩ ⟨k⟩).o
def F8 (c d e:List Nat) {G:Prop} (a:Pk d->Pk e->Wz c G:=by intro p_ q_;refine Sx ?_;refine se h ?_ ?_;intro _ h;exact Pj p_;intro _ h;exact Pj q_):G:=(a ⟨⟩ ⟨⟩).o
def ia (c d e:List Nat) {G:Prop} (a:Pk d->Pk e->Wz c G:=by intro p_ q_;refine Sx ?_;refine se h ?_ ?_;intro _ h;exact Pr p_;intro _ h;exact Pr q_):G:=(a ⟨⟩ ⟨⟩).o
end Go.Proofs.YtibjcppjfkamhaaGreatDoor
