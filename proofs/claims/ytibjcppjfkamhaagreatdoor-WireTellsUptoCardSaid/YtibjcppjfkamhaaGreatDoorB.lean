import Derived.Orders
import Derived.Still
import Derived.Test.YtibjcppjfkamhaaGreatDoorProg
import Derived.KernelRfl
import Derived.Test.YtibjcppjfkamhaaGreatDoorRows
import Derived.Deep.Slices
import Derived.JoinedCond
import Derived.Shelf.Small.Bits
import Derived.Shelf.Strconv.Atoi
import Derived.Shelf.Strconv.Itoa0
import Derived.Shelf.Strconv.Itoa1
import Derived.Shelf.LaysM
import Derived.Shelf.Strconv.Itoa2
import Derived.Shelf.Strconv.Itoa3
import Derived.Shelf.Strconv.AtoiErrFast
import Derived.Shelf.Strconv.ParseIntEmpty
import Derived.Shelf.Strconv.AtoiFail
import Derived.Shelf.Strconv.Clone
import Derived.Shelf.Strconv.SyntaxError
import Derived.Shelf.LaysC
import Derived.Shelf.Strconv.ToError
import Derived.Shelf.Strconv.Lower
import Derived.Shelf.Strconv.ParseUint10
import Derived.Shelf.Strconv.ParseUint10Empty
import Derived.Shelf.Strconv.ParseUint10Any
import Derived.Shelf.Strconv.ParseInt10
import Derived.Shelf.Strconv.AtoiLong
import Derived.Shelf.Strconv.AtoiInnerAll
import Derived.Shelf.Strconv.RangeError
import Derived.Shelf.Strconv.ToErrorRange
import Derived.Shelf.Strconv.AtoiAll
import Derived.Shelf.Strconv.ErrVarAll
import Derived.Shelf.Strings.Search1
import Derived.Shelf.Strings.Search2
import Derived.Shelf.Strings.Cut
import Derived.Shelf.Strings.Shaped
import Derived.Lib.ItoaNum
import Derived.Lib.AtoiAll
import Derived.Lib.IndexMore
import Derived.Lib.ItoaLen
import Derived.Lib.Builder
import Derived.Lib.UnsafeStr
import Derived.Lib.Walk
import Derived.Laws.Externs
import Derived.Shelf.RegionOpenPlain
import Derived.Lib.AtoiAllCases
import Derived.Stop.LaidErr
import Derived.Shelf.Vars
import Derived.MakeChecks
import Derived.Test.YtibjcppjfkamhaaGreatDoorA
set_option linter.unusedVariables false
set_option linter.defProp false
set_option linter.unusedSimpArgs false
namespace Go.Proofs.YtibjcppjfkamhaaGreatDoor
open Go.RowKit Go.Proofs.Tryz
open _root_.And renaming intro->A5
open _root_.Bool renaming and_eq_true->A7,not_true->AI
open _root_.ByteArray renaming empty->AE
open _root_.List renaming getElem?_eq_getElem->A8,getElem?_eq_some_iff->AF,replicate->AG,all_eq_true->AH,mem_cons->AJ,append_assoc->AK,mem_map->AL,mem_of_getElem?->AO,length_cons->AP,map_cons->AQ,length_map->AR,getElem?_set->AS,mem_append->AT,getElem?_eq_none->AW,ext_getElem?->AY,getElem?_map->Aa,getElem?_drop->Ac
open _root_.Nat renaming beq->A4,le_refl->AA,eq_of_beq_eq_true->AB,ble->AD,blt->AM,le_of_ble_eq_true->AU
open _root_.Option renaming bind_some->A0,map_eq_some_iff->AZ
open _root_.Or renaming inl->A9
def top : Nat:=1000
def eg : Os->Os->Prop
 |[],_=>True
 |(k,o)::r,os=>lk os k=some o/\eg r os
theorem jG {os:Os}:∀{need:Os},eg need os->∀id o,lk need id=some o->lk os id=some o
 |(k,x)::r,h,id,o,hl=>by
  rw[j5] at hl;split at hl
  ·rename_i e;subst e;cases hl;exact h.1
  ·exact jG h.2 id o hl
def dD : AV->Bool
 |.int _=>true
 |.ik _ _=>true
 |.bool _=>true
 |.str _=>true
 |.any=>true
 |.aU _=>true
 |.br _=>true
 |_=>false
def iQ : AV->Bool
 |.aS l=>l.all dD
 |.agg l=>l.all dD
 |a=>dD a
def kp {c c':Ctx} {w w':World} {v:Value} {a:AV} (h:dD a=true) (b:Rd c w v a):Rd c' w' v a:=by
 cases a<;>first|cases h|skip
 ·exact Rd.bZ v
 ·obtain⟨rfl,h⟩:=b.aR;exact .fz (.int h)
 ·rw[b.fY];exact .fz (.ik _ _)
 ·rw[b.ai];exact .fz (.bool _)
 ·obtain⟨rfl,h⟩:=b.aq;exact .fz (.str h)
 ·rcases b.gm with⟨rfl,rfl⟩|⟨t,p,rfl,rfl⟩
  ·exact .fz .cB
  ·exact .fz (.cY t p)
 ·rw[b.gi];exact .fz (.aU _)
theorem kh {c c':Ctx} {w w':World}:∀{us:List Value} {a_:List AV},a_.all dD=true->l8 c w us a_->l8 c' w' us a_
 |_,_,_,.nil=>.nil
 |_,_,h,.cons x t=>by
  simp only[List.all_cons,A7] at h;exact .cons (kp h.1 x) (kh h.2 t)
def vS {c c':Ctx} {w w':World} {v:Value} {a:AV} (h:iQ a=true) (b:Rd c w v a):Rd c' w' v a:=by
 unfold iQ at h;split at h
 ·obtain⟨us,rfl,d⟩:=b.dJ;exact .aS (kh h d)
 ·obtain⟨us,rfl,d⟩:=b.bM;exact .agg (kh h d)
 ·exact kp h b
def lJ : Obj->Prop
 |.aI=>True
 |.row _ ls _=>∀c∈ls,c.all dD=true
 |.deep _ _ b l _ _=>∀c∈l,∀(off:Nat) (a:AV),c[off]?=some a->match lk b off with
  |none=>dD a=true
  |some _=>∃isz ls,a=.sl isz ls/\∀d∈ls,d.all dD=true
 |_=>False
def hB : Os->Prop
 |[]=>True
 |p::r=>lJ p.2/\hB r
theorem hB.at : ∀{l:Os},hB l->∀{id:Nat} {o:Obj},lk l id=some o->lJ o
 |(k,x)::r,h,id,o,hl=>by
  rw[j5] at hl;split at hl
  ·cases hl;exact h.1
  ·exact hB.at h.2 hl
def lG : AV->Bool
 |.aS l=>l.all fun a=>match a with|.aG _=>true|.agg b=>b.all dD|a=>dD a
 |.aG _=>true
 |.agg b=>b.all dD
 |a=>dD a
def pa {Φ b:Nat->Prop} {w w':World} {v:Value} {a:AV} (h:dD a=true) (c:Rf Φ w v a):Rf b w' v a:=by
 cases c<;>first|cases h|skip
 ·exact .any _
 ·exact .int (by assumption)
 ·exact .ik _ _
 ·exact .bool _
 ·exact .str (by assumption)
 ·exact .cB
 ·exact .cY _ _
 ·exact .aU _
theorem nC {Φ a:Nat->Prop} {w w':World}:∀{us:List Value} {a_:List AV},a_.all dD=true->p8 Φ w us a_->p8 a w' us a_
 |_,_,_,.nil=>.nil
 |_,_,h,.cons x t=>by
  simp only[List.all_cons,A7] at h;exact .cons (pa h.1 x) (nC h.2 t)
theorem lJ.rep {c c':Ctx} {w:World} {id:Nat} {o:Obj} (r:lJ o) (h:bm c w id o) (q:c'.hd=c.hd) (I:c'.μ=c.μ):bm c' w id o:=by
 cases o with
 |aI=>trivial
 |row sz ls e =>
  obtain⟨css,s,f,t⟩:=h;exact⟨css,by rw[q];exact s,f,fun i us b n d=>nC (r b (AO d)) (t i us b n d)⟩
 |deep sz e v l J sh =>
  obtain⟨css,s,f,t,E⟩:=h;refine⟨css,by rw[q];exact s,⟨f.len,fun i us b n d=>⟨(f.cell i us b n d).1,fun off u a g j m=>?_⟩,fun i us b off isz ie u n d g j m=>?_,fun i off x us u g j m=>by rw[q];exact f.hole i off x us u g j m,f.apart⟩,by rw[q];exact t,by rw[q];exact E⟩
  ·have:=r b (AO d) off a j;rw[m] at this;exact pa this ((f.cell i us b n d).2 off u a g j m)
  ·obtain⟨ls,A,css',F,G,H⟩:=f.inner i us b off isz ie u n d g j m;have:=r b (AO d) off _ A;rw[g] at this;obtain⟨z,D,e1,B⟩:=this;cases e1;exact⟨ls,A,css',F,G,fun k us' p C y=>nC (B p (AO y)) (H k us' p C y)⟩
 |_=>exact r.elim
def vV {c c':Ctx} {w:World} {v:Value} {a:AV} (b:lG a=true) (h:Rd c w v a) (j:c'.hd=c.hd):Rd c' w v a:=by
 have aG:∀{v:Value} {id:Nat},Rd c w v (.aG id)->Rd c' w v (.aG id):=fun {v id} h=>by
  obtain⟨A,n,cap,e1,f,g,i⟩:=h.aj;rw[e1];exact .aG (by rw[j];exact f) g i
 have agg:∀{v:Value} {d:List AV},d.all dD=true->Rd c w v (.agg d)->Rd c' w v (.agg d):=fun {v d} b h=>by
  obtain⟨us,rfl,e⟩:=h.bM;exact .agg (kh b e)
 unfold lG at b;split at b
 ·rename_i l;obtain⟨us,rfl,e⟩:=h.dJ;refine .aS ?_;clear h
  induction l generalizing us with
  |nil=>cases e;exact .nil
  |cons a l ih =>
   cases e with|cons h t =>
   simp only[List.all_cons,A7] at b;refine .cons ?_ (ih b.2 _ t);cases a<;>first|exact aG h|exact agg b.1 h|exact kp b.1 h
 ·exact aG h
 ·exact agg b h
 ·exact kp b h
structure Y7 (P:Program) (f:Nat) (ins:List AV) (os:Os) (K:Kt):Prop where
 out:(∃(ins0 ins':List AV) (g need upd:Os) (news:List Nat) (av:AV),Spec P f need ins' av upd news/\dN os ins ins0 g/\cu ins0 ins'/\eg need os/\(need.all fun p=>(lk g p.1).isNone)=true/\(need.all fun p=>fJ news p.2.ids)=true /\
  K av ((g++need).map (·.1)) news (upd++D7 g)) \/
 (∃(ins0 ins':List AV) (g:Os) (av:AV),Spec P f [] ins' av [] []/\eF os ins ins0 g/\cu ins0 ins'/\iQ av=true/\K av (g.map (·.1)) [] []) \/
 (∃(ins0 ins':List AV) (g upd:Os) (news:List Nat) (av:AV),Spec P f [] ins' av upd news/\eF os ins ins0 g/\cu ins0 ins'/\lG av=true/\hB upd/\K av (g.map (·.1)) news upd)
section
variable {P:Program} {tab:F7} {et:Y9} {o:Oper} {ev:Ev} {os:Os} {K:Kt}
theorem Y7.fz {f:Nat} {ins a:List AV} {need upd:Os} {news:List Nat} {av:AV} (h:Spec P f need a av upd news) (b:cu (J9 os ins).1 a) (e:eg need os) (hd:(need.all fun p=>(lk (J9 os ins).2 p.1).isNone)=true)
  (d:(need.all fun p=>fJ news p.2.ids)=true) (c:K av (((J9 os ins).2++need).map (·.1)) news (upd++D7 (J9 os ins).2)):Y7 P f ins os K :=
 ⟨.inl ⟨_,a,_,need,upd,news,av,h,qm ins,b,e,hd,d,c⟩⟩
theorem Y7.a_ {f:Nat} {ins a:List AV} {need upd:Os} {news:List Nat} {av:AV} (h:Spec P f need a av upd news) (b:cu ins a) (g:eg need os)
  (e:(need.all fun p=>fJ news p.2.ids)=true) (d:K av (need.map (·.1)) news upd):Y7 P f ins os K :=
 ⟨.inl ⟨ins,a,[],need,upd,news,av,h,⟨fun _ _ h=>(by cases h),fun _ _ h=>(by cases h),fun c w us _ h=>l8.mono (c:=c) (c':=c.fz []) (fun _ _=>rfl) (fun _ h=>A9 h) (fun _ _=>⟨rfl,rfl⟩) h⟩,b,g,AH.2 fun _ _=>rfl,e,by simpa[D7] using d⟩⟩
theorem Y7.gp {f:Nat} {ins a:List AV} {av:AV} (h:Spec P f [] a av [] []) (b:cu (J9 os ins).1 a) (d:iQ av=true) (c:K av ((J9 os ins).2.map (·.1)) [] []):Y7 P f ins os K :=
 ⟨.inr (.inl ⟨_,a,_,av,h,(qm ins).gp,b,d,c⟩)⟩
def nE {c:Go.Call} {f:Operand} {g:Nat} {d:List Value} {e:Operand->Value} {w:World} (l:o.op=.call c) (j:c.callee=.value f) (a:b7 P g=true) (e1:e f=.func (.func g) #[] d.toArray) :
  (execOp e o).run P w=.ok (.enter g (c.args.toList.map e++d).toArray) w:=by
 unfold b7 at a;split at a
 ·rename_i fn i;simp only[A7,Bool.not_eq_true',beq_eq_false_iff_ne,ne_eq] at a;have b:fn.body.isNone=false:=by cases m:fn.body<;>simp_all
  have k:c.args.map e++d.toArray=(c.args.toList.map e++d).toArray:=by
   apply Array.toList_inj.1;simp
  simp[execOp,l,resolve,j,e1,Deferred.ofValue,invoke,callFunc,i,a.2,k];intro h;rw[h] at b;cases b
 ·cases a
def wj {c:Go.Call} {f:Operand} {g:Nat} {d:List AV} (D:o.op=.call c) (y:c.callee=.value f) (N:ev f=.fn g d) {l k:List AV} {gz:Os} {av:AV} (a:Spec P g [] k av [] [])
  (J:eF os (c.args.toList.map ev++d) l gz) (B:cu l k) (z:iQ av=true) (L:K av (gz.map (·.1)) [] []):J5 P o ev os K:=by
 intro _;obtain⟨p,C,a⟩:=a;refine⟨av,gz,[],[],fun q w H aD I=>?_,J.sub,fun id A=>(by cases A),L⟩;have rf:Rd q w (H f) (.fn g d):=by
  have:=I f (by simp[D,Op.operands,Go.Call.operands,y])
  rwa [N] at this
 obtain⟨s,e1,t⟩:=rf.il;have n:l8 q w (c.args.toList.map H++s) (c.args.toList.map ev++d):=(jX fun x O=>I x (by simp[D,Op.operands,Go.Call.operands,y];exact .inr (by simpa using O))).append t;have i:=jR B (J.run q w _ aD n);have R:=aF.freeze aD;have m:∀(id:Nat) (o:Obj),lk ([]:Os) id=some o->False:=fun id o h=>(by cases h);have G:H7 (q.fz gz) w []:=⟨fun id o h=>(m id o h).elim,fun id o b h=>(m id o h).elim,fun id F o Q b _ h=>(m id o h).elim,R.aD.aX⟩;have j:=a (q.fz gz) w (c.args.toList.map H++s).toArray G (by simpa using i);rw[nE D y p e1];refine j.mono fun e w' ⟨v,c',M,r,E⟩=>⟨v,M,q,⟨r.bV,r.tape,r.output,r.size,fun _ h=>h,fun _ h=>.inl h,fun b u _=>r.aP b u fun⟨id,o,h,_⟩=>m id o h,fun _ _=>⟨rfl,rfl⟩,
  ⟨fun id o h=>(m id o h).elim,fun id o b h=>(m id o h).elim,fun id F o Q b _ h=>(m id o h).elim,fun b u=>Nat.lt_of_lt_of_le (aD.aX b u) r.size⟩,fun id o b h=>(m id o h).elim⟩,vS z E⟩
def vI {c:Go.Call} {f:Operand} {g:Nat} {d:List AV} (O:o.op=.call c) (G:c.callee=.value f) (r:ev f=.fn g d) {n m:List AV} {gz upd:Os} {news:List Nat} {av:AV} (a:Spec P g [] m av upd news)
  (U:eF os (c.args.toList.map ev++d) n gz) (M:cu n m) (J:lG av=true) (L:hB upd) (W:K av (gz.map (·.1)) news upd):J5 P o ev os K:=by
 intro _;obtain⟨q,t,a⟩:=a;refine⟨av,gz,upd,news,fun y w S aD T=>?_,U.sub,t,W⟩;have rf:Rd y w (S f) (.fn g d):=by
  have:=T f (by simp[O,Op.operands,Go.Call.operands,G])
  rwa [r] at this
 obtain⟨z,e1,B⟩:=rf.il;have p:l8 y w (c.args.toList.map S++z) (c.args.toList.map ev++d):=(jX fun x Z=>T x (by simp[O,Op.operands,Go.Call.operands,G];exact .inr (by simpa using Z))).append B;have k:=jR M (U.run y w _ aD p);have p1:=aF.freeze aD;have D:∀(id:Nat) (o:Obj),lk ([]:Os) id=some o->False:=fun id o h=>(by cases h);have R:H7 (y.fz gz) w []:=⟨fun id o h=>(D id o h).elim,fun id o b h=>(D id o h).elim,fun id u o E b _ h=>(D id o h).elim,p1.aD.aX⟩;have l:=a (y.fz gz) w (c.args.toList.map S++z).toArray R (by simpa using k);rw[nE O G q e1];refine l.mono fun e w' ⟨v,c',X,j,Q⟩=>⟨v,X,{ c' with Φ:=y.Φ },⟨j.bV,j.tape,j.output,j.size,fun _ h=>h,fun _ h=>.inl h,fun b A _=>j.aP b A fun⟨id,o,h,_⟩=>D id o h,fun i Y=>j.ctx i Y,
  ⟨fun id o h=>(L.at h).rep (j.aD.rep id o h) rfl rfl,fun id o b h r=>?_,fun id u o E b N h V r=>?_,fun b A=>Nat.lt_of_lt_of_le (aD.aX b A) j.size⟩,fun id o b h r=>?_⟩,vV J Q rfl⟩
 ·have s:aK c' id o b:=by cases o<;>exact r
  have:=j.aD.lt id o b h s;exact⟨this.1,fun A=>this.2 (j.aX b (.inl A))⟩
 ·have H:aK c' id o b:=by cases o<;>exact r
  intro I;have C:aK c' u E b:=by cases E<;>exact I
  exact j.aD.sep id u o E b N h V H C
 ·have s:aK c' id o b:=by cases o<;>exact r
  rcases j.ab id o b h s with F|⟨i,x,F,_⟩
  ·exact .inl F
  ·exact(D i x F).elim
def wJ {c:Go.Call} {f:Operand} {g:Nat} {caps:List AV} (ho:o.op=.call c) (hc:c.callee=.value f) (hf:ev f=.fn g caps) (h:Y7 P g (c.args.toList.map ev++caps) os K):J5 P o ev os K:=by
 rcases h.out with⟨ins0,ins',gz,need,upd,news,av,hspec,hz,hle,hs,hd,hfr,hK⟩|⟨ins0,ins',gz,av,hspec,hz,hle,hfl,hK⟩|⟨ins0,ins',gz,upd,news,av,hspec,hz,hle,hfl,hfu,hK⟩
 case inr.inl=>exact wj ho hc hf hspec hz hle hfl hK
 case inr.inr=>exact vI ho hc hf hspec hz hle hfl hfu hK
 intro _;obtain⟨hcall,hnews,hspec⟩:=hspec;have hsub:=jG hs;obtain⟨s1,s2,s3⟩:=jB hz.sub hsub;have hnone:∀id x,lk need id=some x->lk gz id=none:=fun id x h=>by
  have:=AH.1 hd _ (O1 h);simpa using this
 refine⟨av,gz++need,upd++D7 gz,news,fun cx w ρ aD hr=>?_,s1,fun id hid=>?_,hK⟩
 ·have rf:Rd cx w (ρ f) (.fn g caps):=by
   have:=hr f (by simp[ho,Op.operands,Go.Call.operands,hc])
   rwa [hf] at this
  obtain⟨cus,e1,hcus⟩:=rf.il;have hargs:l8 cx w (c.args.toList.map ρ++cus) (c.args.toList.map ev++caps):=(jX fun x hx=>hr x (by simp[ho,Op.operands,Go.Call.operands,hc];exact .inr (by simpa using hx))).append hcus;have hargs':=jR hle (hz.run cx w _ (aD.sub s3) hargs);have p1:=(aF.freeze (aD.sub s3)).dY s3;have ok1:H7 (cx.fz gz) w need:=by
   have hfrm:=aD.frame (fun _ _ h=>h) p1 (fun _ h=>(by cases h)) (fun _ _ _ _ _ h=>(by cases h));refine hfrm.sub fun id x hl=>?_;have hg:lk (D7 gz) id=none:=by
    have:=jA gz id;rw[hnone id x hl] at this;cases hq:lk (D7 gz) id with
    |none=>rfl
    |some y=>rw[hq] at this;cases this
   rw[C9,hg];simpa using s2 id x hl
  have hcalls:=hspec (cx.fz gz) w (c.args.toList.map ρ++cus).toArray ok1 (by simpa using hargs');rw[nE ho hc hcall e1];refine hcalls.mono fun e w' ⟨v,c',he,hp,hrd⟩=>⟨v,he,c',?_,hrd⟩;have:=aF.trans aD p1 hp (fun _ h=>(by cases h)) hnews (fun id x hl=>by
   have hg:lk (D7 gz) id=none:=by
    have:=jA gz id;rw[hnone id x hl] at this;cases hq:lk (D7 gz) id with
    |none=>rfl
    |some y=>rw[hq] at this;cases this
   rw[C9,hg];simpa using s2 id x hl) (fun _ _ _ _ _ h=>(by cases h)) (fun id x hl hu y hy=>by
   rw[C9] at hl;cases hg:lk (D7 gz) id with
   |some z =>
    rw[hg] at hl;simp at hl;subst hl;rw[fh hg];simp[Obj.ids]
   |none =>
    rw[hg] at hl;simp at hl;rw[C9] at hl;cases hgz:lk gz id with
    |some z =>
     rw[hgz] at hl;simp at hl;subst hl;rw[hz.ids id z hgz];simp
    |none =>
     rw[hgz] at hl;simp at hl;exact hQ (AH.1 hfr _ (O1 hl)) y hy)
  simpa using this
 ·rw[C9];have:=hnews id hid;cases hu:lk upd id with
  |none=>rw[hu] at this;cases this
  |some x=>rfl
def iZ (os:Os):AV->Bool
 |.aG id=>match lk os id with
  |some (.deep _ _ _ _ _ _)=>true
  |_=>false
 |.ep id _ _ _=>match lk os id with
  |some (.deep _ _ _ _ _ _)=>true
  |_=>false
 |_=>false
def xm (tab:F7) (t:TypeId):Bool:=match lk tab t with
 |some ti=>match lk tab ti.elem with
  |some te=>A4 te.kind 1 && A4 te.len 1
  |none=>false
 |none=>false
def fN {b:Bool} {X Y Z:Prop} (h:bif b then X else Y) (a:b=true->X->Z) (c:b=false->Y->Z):Z:=by
 cases b
 ·exact c rfl h
 ·exact a rfl h
def rY (tab:F7) (t:TypeId):Bool:=match lk tab t with
 |some ti=>A4 ti.kind 2
 |none=>false
def rh (tab:F7) (t:TypeId) (x:AV):Bool :=
 match lk tab t with
 |some ti=>match x with
  |.str _=>A4 ti.kind 4
  |.mp _=>A4 ti.kind 8
  |_=>A4 ti.kind 2
 |none=>false
def oC (P:Program) (tab:F7) (d:Nat) (c:Go.Call) (ev:Ev) (os:Os) (K:Kt):Prop :=
 match c.callee with
 |.builtin b=>match b,c.args.toList,c.argTypes.toList with
  |.len,[x],[t]=>bif iZ os (ev x) then(match rY tab t with
    |true=>mf os (ev x) K
    |false=>False) else match rh tab t (ev x) with
   |true=>mo os (ev x) K
   |false=>False
  |.append,[x,y],[t,e]=>bif iZ os (ev x) then nI tab os d t e (ev x) (ev y) K else bif xC (ev y) then n0 tab os d t e (ev x) (ev y) K else nc tab os d t e (ev x) (ev y) K
  |.min,[x,y],_=>oF (ev x) (ev y) K
  |.max,[x,y],_=>oE (ev x) (ev y) K
  |_,_,_=>False
 |.value f=>match ev f with
  |.fn g a=>Y7 P g (c.args.toList.map ev++a) os K
  |_=>False
 |.invoke _ _=>False
def vY (n:E5 P tab) (d:Nat) {c:Go.Call} (e:o.op=.call c) (h:oC P tab d c ev os K):J5 P o ev os K:=by
 unfold oC at h;obtain⟨callee,args,argTypes⟩:=c;split at h
 ·rename_i b w;simp only at w;subst w;split at h
  ·rename_i x t i u;have a:args=#[x]:=by simpa using congrArg List.toArray i
   have k:argTypes=#[t]:=(by simpa using congrArg List.toArray u);subst a k;refine fN h (fun _ h=>?_) fun _ h=>?_
   ·split at h
    ·rename_i q;unfold rY at q;split at q
     ·rename_i ti l;exact x5 n l (AB q) e h
     ·cases q
    ·exact h.elim
   split at h
   ·rename_i j;refine xA n e ?_ h;unfold rh at j;split at j
    ·rename_i ti l;rw[l];split at j
     ·rename_i s m;rw[m];exact AB j
     ·rename_i s m;rw[m];exact AB j
     ·rename_i r p;have:=AB j;cases m:ev x<;>first|exact this|exact absurd m (r _)|exact absurd m (p _)
    ·cases j
   ·exact h.elim
  ·rename_i x y t B i u;have a:args=#[x,y]:=by simpa using congrArg List.toArray i
   have k:argTypes=#[t,B]:=(by simpa using congrArg List.toArray u);subst a k;exact fN h (fun _ h=>uW n d e h) fun _ h=>fN h (fun _ h=>sd n d e h) fun _ h=>ub n d e h
  ·rename_i x y i;have a:args=#[x,y]:=by simpa using congrArg List.toArray i
   subst a;exact xW e h
  ·rename_i x y i;have a:args=#[x,y]:=by simpa using congrArg List.toArray i
   subst a;exact xJ e h
  ·exact h.elim
 ·rename_i f z;split at h
  ·rename_i g v A;exact wJ e z A h
  ·exact h.elim
 ·exact h.elim
def eE (P:Program) (tab:F7) (et:Y9) (d:Nat) (op:Op) (ev:Ev) (os:Os) (K:Kt):Prop :=
 match op with
 |.move x=>K (ev x) [] [] []
 |.assign x=>K (ev x) [] [] []
 |.pick c a b=>mi ev c a b K
 |.alloc t=>nn tab d t K
 |.box t x=>oN d t (ev x) K
 |.build t e=>nz tab ev t e K
 |.buildSlice t n e=>bif xm tab t then(na tab os ev d t n e K\/kI tab os ev d t n e K) else kI tab os ev d t n e K
 |.load t x=>bif iZ os (ev x) then nj tab os t (ev x) K else mc tab os t (ev x) (oY os K)
 |.store t x y=>bif iZ os (ev x) then nb tab os t (ev x) (ev y) K else nS tab os t (ev x) (ev y) K
 |.nilCheck x=>oL (ev x) K
 |.binOp op t x y _=>bif oU y then mr tab op t (ev x) (ev y) K else oK tab et op t (ev x) (ev y) (fun av=>K av [] [] [])
 |.unOp op _ x=>oc op (ev x) K
 |.convert s t x=>mm tab s t (ev x) K
 |.makeFunc fn f c=>mb ev fn f c K
 |.makeSlice t x y=>ml tab d t (ev x) (ev y) K
 |.slice t x h g none=>bif iZ os (ev x) then nV tab os d t (ev x) (M7 ev h) (M7 ev g) K else o0 tab os d t (ev x) (M7 ev h) (M7 ev g) K
 |.fieldAddr s x f=>mV tab s (ev x) f K
 |.field s x f=>oA tab s (ev x) f K
 |.indexAddr t x i=>bif iZ os (ev x) then mO tab os t (ev x) (ev i) K else mY tab os t (ev x) (ev i) K
 |.index t x i=>nr tab t (ev x) (ev i) K
 |.extract x i=>nF (ev x) i K
 |.makeMap _ none=>r8 d K
 |.lookup t x k false=>nN tab os t (ev x) (ev k) K
 |.mapUpdate t x k v=>mX tab os t (ev x) (ev k) (ev v) K
 |.call c=>oC P tab d c ev os K
 |_=>False
def bH (hT:E5 P tab) (hE:Z6 P et) (d:Nat) (h:eE P tab et d o.op ev os K):J5 P o ev os K:=by
 cases ho:o.op<;>rw[ho] at h<;>simp only[eE] at h
 case move x=>exact qD (.inl ho) h
 case assign x=>exact qD (.inr ho) h
 case pick c a b=>exact wZ ho h
 case alloc t=>exact vo hT d ho h
 case box t x=>exact xL d ho h
 case build t ps=>exact w1 hT ho h
 case buildSlice t n ps=>exact fN h (fun _ h=>h.elim (fun h=>ux hT d ho h) fun h=>qE hT d ho h) fun _ h=>qE hT d ho h
 case load t x=>exact fN h (fun _ h=>vp hT ho h) fun _ h=>(wV hT ho h).res
 case store t x y=>exact fN h (fun _ h=>vA hT ho h) fun _ h=>vC hT ho h
 case nilCheck x=>exact xR ho h
 case binOp op t x y ty=>exact fN h (fun hy h=>xN hT ho hy h) fun _ h=>xO hT hE ho h
 case unOp op t x=>exact xh ho h
 case convert s t x=>exact wx hT ho h
 case makeFunc fn f c=>exact wT ho h
 case makeSlice t x y=>exact wG hT d ho h
 case slice t x lo hi mx=>cases mx with
  |none=>exact fN h (fun _ h=>uf hT d ho h) fun _ h=>vQ hT d ho h
  |some m=>exact h.elim
 case fieldAddr s x f=>exact sO hT ho h
 case field s x f=>exact vK hT ho h
 case indexAddr t x i=>exact fN h (fun _ h=>tl hT ho h) fun _ h=>sT hT ho h
 case index t x i=>exact vG hT ho h
 case extract x i=>exact ua ho h
 case makeMap t r=>cases r with
  |none=>exact uU d ho h
  |some r=>exact h.elim
 case lookup t x k b=>cases b with
  |false=>exact uj hT ho h
  |true=>exact h.elim
 case mapUpdate t x k v=>exact sN hT ho h
 case call c=>exact vY hT d ho h
end
def pL {p:Prop} [Decidable p] {X Y:Prop} (a:p->X) (b:¬p->Y):eK (decide p) X Y:=by
 by_cases h:p
 ·rw[Al h];exact a h
 ·rw[Ak h];exact b h
def D5 (a:List Nat) (ts:Ts):Bool:=match a with
 |[]=>true
 |_=>ts.all fun p=>fJ a p.2.ids
def D6 (a:List Nat) (b os:Os):Bool:=match a with
 |[]=>true
 |_=>a.all (fun i=>AM i top) && os.all fun p=>(lk b p.1).isSome || fJ a p.2.ids
def dM (n:Nat):Option Tmp->Bool
 |none=>true
 |some d=>AM d n
def bX : Option Tmp->AV->Ts->Ts
 |none,_,ts=>ts
 |some d,av,ts=>(d,av)::ts
def force (a:AV) (K:AV->Prop):Prop :=
 match a with
 |.any=>K .any
 |.int n=>K (.int n)
 |.ik k n=>K (.ik k n)
 |.bool b=>K (.bool b)
 |.str s=>K (.str s)
 |.sl sz ls=>K (.sl sz ls)
 |.ptr id off=>K (.ptr id off)
 |.fp d=>K (.fp d)
 |.aG id=>K (.aG id)
 |.bo id n=>K (.bo id n)
 |.cI id n sz=>K (.cI id n sz)
 |.ep id i sz off=>K (.ep id i sz off)
 |.fn f d=>K (.fn f d)
 |.agg d=>K (.agg d)
 |.aS d=>K (.aS d)
 |.a8=>K .a8
 |.cz b=>K (.cz b)
 |.aL=>K .aL
 |.aA=>K .aA
 |.mp id=>K (.mp id)
 |.bL id=>K (.bL id)
 |.np id=>K (.np id)
 |.br b=>K (.br b)
 |.aU v=>K (.aU v)
def force_eq (a:AV) (K:AV->Prop):force a K↔K a:=by cases a<;>exact Iff.rfl
def dv : Os->Os->(Os->Prop)->Prop
 |[],os,K=>K os
 |(k,o)::r,os,K=>dv r os fun x=>K ((k,o)::x)
theorem ea : ∀(a os:Os) (K:Os->Prop),dv a os K↔K (a++os)
 |[],_,_=>Iff.rfl
 |(k,o)::r,os,K=>by rw[dv,ea r os];rfl
def db : Ts->(Ts->Prop)->Prop
 |[],K=>K []
 |(k,a)::r,K=>db r fun x=>K ((k,a)::x)
theorem iA : ∀(ts:Ts) (K:Ts->Prop),db ts K↔K ts
 |[],_=>Iff.rfl
 |(k,a)::r,K=>by rw[db,iA r]
def iI (ops:List Oper) (ts:Ts) (j:Nat):Option Bool :=
 match ops[j]? with
 |some o=>match o.dst with
  |some d=>match lk ts d with
   |some (.bool b)=>some b
   |_=>none
  |none=>none
 |none=>none
def hC (ops:List Oper) (ts:Ts) (j:Nat):Bool :=
 match ops[j]? with
 |some o=>match o.dst with
  |some d=>match lk ts d with
   |some (.aS [])=>true
   |_=>false
  |none=>false
 |none=>false
def ee (ops:List Oper) (o:Oper) (ts:Ts) (X Y:Prop):Prop :=
 match o.guard with
 |none=>X
 |some (j,true)=>match hC ops ts j with
  |true=>Y
  |false=>match iI ops ts j with
   |some b=>eK b X Y
   |none=>False
 |some (j,false)=>match hC ops ts j with
  |true=>Y
  |false=>match iI ops ts j with
   |some b=>eK b Y X
   |none=>False
def fk (P:Program) (tab:F7) (et:Y9) (n:Nat) (ops:List Oper):List Oper->Ts->Os->(Ts->Os->Prop)->Prop
 |[],ts,os,K=>K ts os
 |o::rest,ts,os,K=>match o.dst with
  |some d=>match AM d n with
   |true=>ee ops o ts
    (eE P tab et d o.op (bJ ts) os fun av _ a b=>match D5 a ts && D6 a b os with
     |true=>force av fun av=>dv b os fun os=>fk P tab et n ops rest ((d,av)::ts) os K
     |false=>False)
    (fk P tab et n ops rest ((d,.aS [])::ts) os K)
   |false=>False
  |none=>ee ops o ts
   (eE P tab et 0 o.op (bJ ts) os fun av _ a b=>match D5 a ts && D6 a b os with
    |true=>dv b os fun os=>fk P tab et n ops rest ts os K
    |false=>False)
   (fk P tab et n ops rest ts os K)
section
variable {P:Program} {tab:F7} {et:Y9} {Γ:K5}
theorem dS.put {c c':Ctx} {w w':World} {ts:Ts} {a:Act} {need upd:Os} {news:List Nat} {v:Value} {av:AV} {dst:Option Tmp} (h:dS c w ts a) (k:H7 c w need) (l:aF c w c' w' need upd news) (j:∀t x,lk ts t=some x->∀id∈news,id ∉ x.ids)
  (m:Rd c' w' v av) (hd:dM a.tmps.size dst=true):dS c' w' (bX dst av ts) (a.put dst v):=by
 cases dst with
 |none =>
  intro t x e;obtain⟨u,f,g⟩:=h t x e;exact⟨u,f,g.post l k (j t x e)⟩
 |some d =>
  intro t x e;have i:d<a.tmps.size:=AU hd;simp only[bX,j5] at e;by_cases b:d=t
  ·rw[Ah b] at e;cases e;subst b;exact⟨v,by simp[Act.put,i],m⟩
  ·rw[Ag b] at e;obtain⟨u,f,g⟩:=h t x e;exact⟨u,by simp[Act.put,Array.getElem?_setIfInBounds_ne b,f],g.post l k (j t x e)⟩
def j9 {b:List Nat} {ts:Ts} (h:D5 b ts=true):∀t x,lk ts t=some x->∀id∈b,id ∉ x.ids:=by
 intro t x d id a;unfold D5 at h;split at h
 ·cases a
 ·exact hQ (AH.1 h _ (O1 d)) id a
def hP {b:List Nat} {d os:Os} (h:D6 b d os=true):(∀id o,lk os id=some o->lk d id=none->∀x∈b,x ∉ o.ids)/\∀x∈b,x<top:=by
 unfold D6 at h;split at h
 ·exact⟨fun _ _ _ _ _ h=>(by cases h),fun _ h=>(by cases h)⟩
 ·simp only[A7] at h;refine⟨fun id o e f x a=>?_,fun x a=>?_⟩
  ·have:=AH.1 h.2 _ (O1 e);simp only[f,Option.isSome_none,Bool.false_or] at this;exact hQ this x a
  ·exact AU (AH.1 h.1 x a)
def lv (Γ:K5) (c:Ctx):Prop:=∀id,top<=id->c.μ id=Γ.c.μ id/\c.hd id=Γ.c.hd id
structure rj (Γ:K5) (ts:Ts) (os:Os) (c:Ctx) (a:Act) (w:World):Prop where
 rel:uH Γ ts os c a w
 same:lv Γ c
def o6 (Γ:K5) (ts:Ts) (os:Os) (a:Act) (w:World):Prop:=∃c,rj Γ ts os c a w
theorem bK.inst {r:Result Next} {R:Value->World->Prop} (h:bK P r R):∃v w,R v w:=by
 unfold bK at h;split at h
 ·exact⟨_,_,h⟩
 ·exact⟨_,_,h⟩
 ·obtain⟨e,w',b,⟨v,_,a⟩,_⟩:=h [];exact⟨v,w',a⟩
 ·exact h.elim
def mW {c:Ctx} {w:World} {ops:List Oper} {ts:Ts} {a:Act} {j:Nat} {b:Bool} (h:dS c w ts a) (e:iI ops ts j=some b):yielded ops.toArray a.tmps j=some b:=by
 unfold iI at e;split at e
 ·rename_i o k;split at e
  ·rename_i d hd;split at e
   ·rename_i l i;cases e;obtain⟨v,f,g⟩:=h d _ i;rw[g.ai] at f;unfold yielded;simp[k,hd,f]
   ·cases e
  ·cases e
 ·cases e
def mT {c:Ctx} {w:World} {ops:List Oper} {ts:Ts} {a:Act} {j:Nat} (h:dS c w ts a) (b:hC ops ts j=true):yielded ops.toArray a.tmps j=none:=by
 unfold hC at b;split at b
 ·rename_i o i;split at b
  ·rename_i d hd;split at b
   ·rename_i g;obtain⟨v,e,f⟩:=h d _ g;obtain⟨us,rfl,_⟩:=f.dJ;unfold yielded;simp[i,hd,e]
   ·cases b
  ·cases b
 ·cases b
def qg {c:Ctx} {w:World} {ops:List Oper} {o:Oper} {ts:Ts} {a:Act} {X Y:Prop} (h:dS c w ts a) (d:ee ops o ts X Y):(Region.wanted o (yielded ops.toArray a.tmps)=true/\X)\/(Region.wanted o (yielded ops.toArray a.tmps)=false/\Y):=by
 unfold ee at d;unfold Region.wanted;split at d
 ·rename_i e;rw[e];exact .inl ⟨rfl,d⟩
 ·rename_i j e;rw[e];split at d
  ·rename_i g;have:=mT h g;exact .inr ⟨by simp[this],d⟩
  split at d
  ·rename_i b f;have:=mW h f;cases b
   ·exact .inr ⟨by simp[this],d⟩
   ·exact .inl ⟨by simp[this],d⟩
  ·exact d.elim
 ·rename_i j e;rw[e];split at d
  ·rename_i g;have:=mT h g;exact .inr ⟨by simp[this],d⟩
  split at d
  ·rename_i b f;have:=mW h f;cases b
   ·exact .inl ⟨by simp[this],d⟩
   ·exact .inr ⟨by simp[this],d⟩
  ·exact d.elim
def jS (a:Act) (dst:Option Tmp) (v:Value):(a.put dst v).tmps.size=a.tmps.size:=by cases dst<;>simp[Act.put]
def put_defers (a:Act) (dst:Option Tmp) (v:Value):(a.put dst v).defers=a.defers:=by cases dst<;>simp[Act.put]
def pX {o:Oper} {ts:Ts} {os:Os} {a:Act} {w:World} {K:Kt} (h:J5 P o (bJ ts) os K) (H:o6 Γ ts os a w)
  {u:Act->World->Prop} {Q:Exit->Act->World->Prop} (F:∀av rd l p,K av rd l p->(∀v w' c',D5 l ts=true->D6 l p os=true->dM Γ.n o.dst=true->rj Γ (bX o.dst av ts) (p++os) c' (a.put o.dst v) w'->u (a.put o.dst v) w')/\D5 l ts=true/\D6 l p os=true/\dM Γ.n o.dst=true) :
  o.wp P a w u Q:=by
 obtain⟨c,⟨hd,D,k,aD,i⟩,f⟩:=H;have g:∀x∈o.op.operands.toList,Rd c w (a.eval x) (bJ ts x):=fun x _=>hJ k x;obtain⟨av,need,upd,news,j,b,d,q⟩:=h ⟨c,w,a.eval,aD,g⟩;obtain⟨e,f1,y,z⟩:=F _ _ _ _ q;have r:=j c w a.eval (aD.sub b) g;unfold Oper.wp;refine r.upon fun v w' ⟨c',m,I⟩=>?_;obtain⟨A,E⟩:=hP y;refine e v w' c' f1 y z ⟨⟨by rw[put_defers];exact hd,by rw[jS];exact D,k.put (aD.sub b) m (j9 f1) I (by rw[D];exact z),aD.frame b m d A,i.post aD b m d A⟩,fun id s=>?_⟩;have t:id ∉ news:=fun G=>by have:=E id G;omega
 have B:=m.ctx id t;have C:=f id s;exact⟨B.1.trans C.1,B.2.trans C.2⟩
def jH {o:Oper} {ts:Ts} {os:Os} {a:Act} {w:World} (j:o6 Γ ts os a w) (hd:dM Γ.n o.dst=true):o6 Γ (bX o.dst (.aS []) ts) os (a.put o.dst undef) w:=by
 obtain⟨c,⟨e,d,f,b,g⟩,i⟩:=j;exact⟨c,⟨by rw[put_defers];exact e,by rw[jS];exact d,f.put (need:=[]) (upd:=[]) (news:=[]) (b.sub fun _ _ h=>by cases h) (aF.refl b.aX) (fun _ _ _ _ h=>by cases h) (Rd.aS (us:=[]) .nil) (by rw[d];exact hd),b,g⟩,i⟩
theorem jD (m:E5 P tab) (j:Z6 P et) {ops:List Oper} {Q:Exit->Act->World->Prop} {l2:List Oper}:∀(l:List Oper) (ts:Ts) (os:Os) (K:Ts->Os->Prop) (a:Act) (w:World),fk P tab et Γ.n ops l ts os K->o6 Γ ts os a w ->
  (∀s r u w',K s r->o6 Γ s r u w'->wpList P ops.toArray Q l2 u w')->wpList P ops.toArray Q (l++l2) a w
 |[],ts,os,K,a,w,h,t,k=>k ts os a w h t
 |o::rest,ts,os,K,a,w,h,t,k=>by
  obtain⟨c,b⟩:=t;have f:o6 Γ ts os a w:=⟨c,b⟩;rw[List.cons_append];unfold wpList;unfold fk at h;split at h
  ·rename_i d hd;split at h
   ·rename_i q;rcases qg b.rel.ts h with⟨i,h⟩|⟨i,h⟩
    ·rw[Ah i];refine .inl (pX (bH m j _ h) f fun av rd x y e=>?_);split at e
     ·rename_i g;simp only[A7] at g;rw[force_eq,ea] at e;refine⟨fun v w' c' _ _ _ p=>jD m j rest _ _ K _ _ e ⟨c',by rw[hd] at p⊢;exact p⟩ k,g.1,g.2,by rw[hd];exact q⟩
     ·exact e.elim
    ·rw[Ag (by rw[i];simp)];have:=jH (o:=o) f (by rw[hd];exact q);exact jD m j rest _ _ K _ _ h (by rw[hd] at this⊢;exact this) k
   ·exact h.elim
  ·rename_i hd;rcases qg b.rel.ts h with⟨i,h⟩|⟨i,h⟩
   ·rw[Ah i];refine .inl (pX (bH m j _ h) f fun av rd x y e=>?_);split at e
    ·rename_i g;simp only[A7] at g;rw[ea] at e;refine⟨fun v w' c' _ _ _ p=>jD m j rest _ _ K _ _ e ⟨c',by rw[hd] at p⊢;exact p⟩ k,g.1,g.2,by rw[hd];rfl⟩
    ·exact e.elim
   ·rw[Ag (by rw[i];simp)];have:=jH (o:=o) f (by rw[hd];rfl);exact jD m j rest _ _ K _ _ h (by rw[hd] at this⊢;exact this) k
def vy (j:E5 P tab) (g:Z6 P et) {ops:List Oper} {Q:Exit->Act->World->Prop} (l:List Oper) (ts:Ts) (os:Os) (K:Ts->Os->Prop) (a:Act) (w:World) (h:fk P tab et Γ.n ops l ts os K) (m:o6 Γ ts os a w)
  (i:∀d b e w',K d b->o6 Γ d b e w'->Q .normal e w'):wpList P ops.toArray Q l a w:=by
 have:=jD j g (l2:=[]) l ts os K a w h m fun d b e w' k f=>i d b e w' k f
 rwa [List.append_nil] at this
inductive Ex : Type where
 |normal
 |exit (id:Nat)
 |ret
def gC : Exit->Ex->Prop
 |.normal,.normal=>True
 |.exit i,.exit j=>i=j
 |.ret,.ret=>True
 |_,_=>False
abbrev Qt := Ex->Ts->Os->Prop
structure j4 (P:Program) (Γ:K5) (c:Code) (ts:Ts) (os:Os) (Q:Qt):Prop where
 run:∀a w,o6 Γ ts os a w->c.wp P (fun e a' w'=>∃ex ts' os',gC e ex/\Q ex ts' os'/\o6 Γ ts' os' a' w') a w
def dA (P:Program) (tab:F7) (et:Y9) (Γ:K5) (n:Nat):Code->Ts->Os->Qt->Prop
 |.skip,ts,os,Q=>Q .normal ts os
 |.seq x y,ts,os,Q=>dA P tab et Γ n x ts os fun e d a=>match e with
  |.normal=>j4 P Γ y d a Q
  |.exit id=>Q (.exit id) d a
  |.ret=>Q .ret d a
 |.cond c x y,ts,os,Q=>match bJ ts c with
  |.bool b=>eK b (j4 P Γ x ts os Q) (j4 P Γ y ts os Q)
  |_=>False
 |.block id c,ts,os,Q=>dA P tab et Γ n c ts os fun e d a=>match e with
  |.normal=>Q .normal d a
  |.exit f=>match A4 f id with
   |true=>Q .normal d a
   |false=>Q (.exit f) d a
  |.ret=>Q .ret d a
 |.loop c,ts,os,Q=>j4 P Γ (.loop c) ts os Q
 |.region id ops false,ts,os,Q=>db ts fun ts=>fk P tab et n ops.toList ops.toList ts os (Q .normal)
 |.region id ops true,ts,os,Q=>j4 P Γ (.region id ops true) ts os Q
 |.exit id,ts,os,Q=>Q (.exit id) ts os
 |.ret,ts,os,Q=>Q .ret ts os
 |_,_,_,_=>False
theorem j4.mono {c:Code} {ts:Ts} {os:Os} {Q f:Qt} (h:j4 P Γ c ts os Q) (k:∀e ts os,Q e ts os->f e ts os):j4 P Γ c ts os f :=
 ⟨fun a w l=>wp_mono (h.run a w l) fun e m w' ⟨ex,d,b,g,i,j⟩=>⟨ex,d,b,g,k _ _ _ i,j⟩⟩
theorem oB (u:E5 P tab) (t:Z6 P et):∀(c:Code) (ts:Ts) (os:Os) (Q:Qt),dA P tab et Γ Γ.n c ts os Q->j4 P Γ c ts os Q
 |.skip,ts,os,Q,h=>⟨fun a w k=>wp_skip ⟨.normal,ts,os,trivial,h,k⟩⟩
 |.seq x y,ts,os,Q,h=>by
  refine⟨fun a w k=>wp_seq (wp_mono ((oB u t x ts os _ h).run a w k) fun e r w' ⟨ex,f,d,o,g,m⟩=>?_)⟩;cases e<;>cases ex<;>simp only[gC] at o<;>first|exact o.elim|skip
  ·exact g.run r w' m
  ·subst o;exact⟨.exit _,f,d,rfl,g,m⟩
  ·exact⟨.ret,f,d,trivial,g,m⟩
 |.cond c x y,ts,os,Q,h=>by
  unfold dA at h;split at h
  ·rename_i b q;refine⟨fun a w k=>?_⟩;obtain⟨A,l⟩:=k;have p:=hJ l.rel.ts c;rw[q] at p;cases b
   ·exact wp_cond_false p.ai (h.run a w ⟨A,l⟩)
   ·exact wp_cond_true p.ai (h.run a w ⟨A,l⟩)
  ·exact h.elim
 |.block id c,ts,os,Q,h=>by
  refine⟨fun a w k=>wp_block (wp_mono ((oB u t c ts os _ h).run a w k) fun e r w' ⟨ex,f,d,o,g,m⟩=>?_)⟩
  match e,ex,o,g with
  |.normal,.normal,_,g=>exact⟨.normal,f,d,trivial,g,m⟩
  |.exit i,.exit j,o,g =>
   have s:i=j:=o;subst s;simp only at g;split at g
   ·rename_i q;have B:=AB q;simp only[Exit.inBlock,Ah B];exact⟨.normal,f,d,trivial,g,m⟩
   ·rename_i q;have v:¬i=id:=fun e=>by rw[e] at q;simp at q
    simp only[Exit.inBlock,Ag v];exact⟨.exit i,f,d,rfl,g,m⟩
  |.ret,.ret,_,g=>exact⟨.ret,f,d,trivial,g,m⟩
 |.loop c,ts,os,Q,h=>h
 |.region id ops false,ts,os,Q,h=>⟨fun a w k=>wp_region_list (by
   have:=vy u t (Q:=fun e r w'=>∃ex f d,gC e ex/\Q ex f d/\o6 Γ f d r w') ops.toList ts os (Q .normal) a w ((iA ts _).1 h) k fun f d r w' C z=>⟨.normal,f,d,trivial,C,z⟩;simpa using this)⟩
 |.region id ops true,ts,os,Q,h=>h
 |.exit id,ts,os,Q,h=>⟨fun a w k=>wp_exit ⟨.exit id,ts,os,rfl,h,k⟩⟩
 |.ret,ts,os,Q,h=>⟨fun a w k=>wp_ret ⟨.ret,ts,os,trivial,h,k⟩⟩
 |.rangeFunc _ _ _ _,_,_,_,h=>h.elim
 |.scope _,_,_,_,h=>h.elim
 |.label _,_,_,_,h=>h.elim
 |.goto _,_,_,_,h=>h.elim
 |.refuse _,_,_,_,h=>h.elim
end
section
mutual
def AV.aw (ρ:Nat->Nat):AV->AV
 |.ptr id off=>.ptr (ρ id) off
 |.aG id=>.aG (ρ id)
 |.bo id n=>.bo (ρ id) n
 |.cI id n sz=>.cI (ρ id) n sz
 |.ep id i sz off=>.ep (ρ id) i sz off
 |.mp id=>.mp (ρ id)
 |.bL id=>.bL (ρ id)
 |.np id=>.np (ρ id)
 |.fn f b=>.fn f (AV.bf ρ b)
 |.agg b=>.agg (AV.bf ρ b)
 |.aS b=>.aS (AV.bf ρ b)
 |a=>a
def AV.bf (ρ:Nat->Nat):List AV->List AV
 |[]=>[]
 |a::l=>a.aw ρ::AV.bf ρ l
end
def Ctx.bD (c:Ctx) (ρ:Nat->Nat):Ctx:={ c with μ:=fun i=>c.μ (ρ i),hd:=fun i=>c.hd (ρ i) }
section
variable {c:Ctx} {w:World} {ρ:Nat->Nat}
mutual
theorem Rd.aW : ∀(a:AV) {v:Value},Rd c w v (a.aw ρ)->Rd (c.bD ρ) w v a
 |.ptr id off,_,h=>by rw[h.bR];exact .ptr rfl
 |.aG id,_,h=>by obtain⟨A,n,cap,e1,d,j,l⟩:=h.aj;rw[e1];exact .aG d j l
 |.bo id n,_,h=>by obtain⟨A,m,cap,e1,d,j,l,q⟩:=h.dj;rw[e1];exact .bo d j l q
 |.cI id n sz,_,h=>by obtain⟨A,m,cap,e1,d,j,l,q⟩:=h.jx;rw[e1];exact .cI d j l q
 |.ep id i sz off,_,h=>by obtain⟨g,r,m,cap,e1,d⟩:=h.gj;rw[e1];exact .ep d
 |.mp id,_,h=>by rw[h.ir];exact .mp rfl
 |.bL id,_,h=>by obtain⟨A,n,cap,vs,e1,d,j,l⟩:=h.fb;rw[e1];exact .bL d j l
 |.np id,_,h=>by
  rcases h.sB with e|e
  ·rw[e];exact .iu
  ·rw[e];exact .iv rfl
 |.br b,_,h=>by cases h with|fz h=>exact .fz h
 |.fn f o,_,h=>by obtain⟨us,e,p⟩:=Rd.il h;rw[e];exact .fn (l8.aW o p)
 |.agg o,_,h=>by obtain⟨us,e,p⟩:=Rd.bM h;rw[e];exact .agg (l8.aW o p)
 |.aS o,_,h=>by obtain⟨us,e,p⟩:=Rd.dJ h;rw[e];exact .aS (l8.aW o p)
 |.any,_,_=>Rd.bZ _
 |.int n,_,h=>by cases h with|fz h=>exact .fz h
 |.ik k n,_,h=>by cases h with|fz h=>exact .fz h
 |.bool b,_,h=>by cases h with|fz h=>exact .fz h
 |.str s,_,h=>by cases h with|fz h=>exact .fz h
 |.sl sz ls,_,h=>by cases h with|fz h=>exact .fz h
 |.fp o,_,h=>by cases h with|fz h=>exact .fz h
 |.a8,_,h=>by cases h with|fz h=>exact .fz h
 |.cz b,_,h=>by cases h with|fz h=>exact .fz h
 |.aL,_,h=>by cases h with|fz h=>exact .fz h
 |.aA,_,h=>by cases h with|fz h=>exact .fz h
 |.aU v,_,h=>by cases h with|fz h=>exact .fz h
theorem l8.aW : ∀(a_:List AV) {vs:List Value},l8 c w vs (AV.bf ρ a_)->l8 (c.bD ρ) w vs a_
 |[],_,h=>by cases h;exact .nil
 |a::l,_,h=>by cases h with|cons h t=>exact .cons (Rd.aW a h) (l8.aW l t)
end
end
def Obj.aw (ρ:Nat->Nat):Obj->Obj
 |.box b e=>.box (AV.bf ρ b) e
 |.eqv j v=>.eqv (ρ j) v
 |.ay sz ls e i off x=>.ay sz ls e i off (ρ x)
 |.deep sz e a l d sh=>.deep sz e a l (d.map fun p=>(p.1,p.2.1,ρ p.2.2)) (ρ sh)
 |o=>o
def ly {ρ:Nat->Nat} {f:List (Nat×Nat×Nat)} {i off:Nat}:X6 (f.map fun p=>(p.1,p.2.1,ρ p.2.2)) i off↔X6 f i off:=by
 constructor
 ·rintro⟨x,d⟩;obtain⟨⟨a,b,y⟩,g,e⟩:=AL.1 d;cases e;exact⟨y,g⟩
 ·rintro⟨x,d⟩;exact⟨ρ x,AL.2 ⟨_,d,rfl⟩⟩
def jV {ρ:Nat->Nat} {css:List (List Value)} {f:List (Nat×Nat×TypeId)} {g:List (Nat×Nat×Nat)} {i off:Nat} {v:Value}:X0 css f (g.map fun p=>(p.1,p.2.1,ρ p.2.2)) i off v↔X0 css f g i off v :=
 ⟨fun⟨us,p,a,b,d,e⟩=>⟨us,p,a,b,d,fun h=>e (ly.2 h)⟩,fun⟨us,p,a,b,d,e⟩=>⟨us,p,a,b,d,fun h=>e (ly.1 h)⟩⟩
theorem iz.aW {c:Ctx} {w:World} {ρ:Nat->Nat} {id sz e sh:Nat} {a:List (Nat×Nat×TypeId)} {l:List (List AV)} {m:List (Nat×Nat×Nat)} (h:iz c.Φ c.hd w (ρ id) sz e a l (m.map fun p=>(p.1,p.2.1,ρ p.2.2)) (ρ sh)) :
  iz (c.bD ρ).Φ (c.bD ρ).hd w id sz e a l m sh:=by
 obtain⟨css,r,g,s,t⟩:=h;refine⟨css,r,⟨g.len,g.cell,fun i us q off isz ie u d f k n o=>g.inner i us q off isz ie u d f k n fun h=>o (ly.1 h),fun i off x us u d f k=>g.hole i off (ρ x) us u (AL.2 ⟨_,d,rfl⟩) f k,fun i off v y j z b d f=>g.apart i off v y j z b (jV.2 d) (jV.2 f)⟩,
  fun v=>(s v).trans ⟨fun⟨i,off,h⟩=>⟨i,off,jV.1 h⟩,fun⟨i,off,h⟩=>⟨i,off,jV.2 h⟩⟩,fun i off v b d=>t i off v b (jV.2 d)⟩
theorem bm.aW {c:Ctx} {w:World} {ρ:Nat->Nat} {id:Nat} {o:Obj} (h:bm c w (ρ id) (o.aw ρ)):bm (c.bD ρ) w id o:=by
 cases o with
 |aI=>trivial
 |js g G=>exact h
 |box f e=>obtain⟨us,a,b⟩:=h;exact⟨us,a,l8.aW f b⟩
 |ax l=>exact h
 |deep sz e d l k sh=>exact iz.aW h
 |row sz ls e=>exact h
 |pins sz l e=>exact h
 |nest sz e isz ie l=>exact h
 |ay sz ls e i off x=>obtain⟨v,a,b⟩:=h;exact⟨v,Rd.aW (.aG x) a,b⟩
 |eqv j v=>exact h
def e6 {c:Ctx} {ρ:Nat->Nat} {id:Nat} {o:Obj} {b:Nat}:aK (c.bD ρ) id o b↔aK c (ρ id) (o.aw ρ) b:=by cases o<;>exact Iff.rfl
def rn (l:List (Nat×Nat)) (i:Nat):Nat:=match lk l i with
 |some j=>j
 |none=>i
def lW (l:List (Nat×Nat)):Bool:=l.all fun p=>AM p.1 top
def kx {l:List (Nat×Nat)} (h:lW l=true) {i:Nat} (b:top<=i):rn l i=i:=by
 unfold rn;split
 ·rename_i j a;have:=AU (AH.1 h _ (O1 a));simp only at this;omega
 ·rfl
def ja (ρ:Nat->Nat) (os:Os):Bool:=os.all fun p=>os.all fun q=>A4 p.1 q.1 || !Nat.beq (ρ p.1) (ρ q.1)
def uw {ρ:Nat->Nat} {os:Os} (h:ja ρ os=true) {i j:Nat} {o g:Obj} (d:lk os i=some o) (f:lk os j=some g) (b:i≠j):ρ i≠ρ j:=by
 have a:=AH.1 (AH.1 h _ (O1 d)) _ (O1 f);simp only[Bool.or_eq_true,Bool.not_eq_true'] at a;rcases a with a|a
 ·exact absurd (AB a) b
 ·intro e;rw[e] at a;simp at a
def re : Option AV->AV->Prop
 |some a,b=>iq a b
 |none,b=>b=.any
def lT (ρ:Nat->Nat) (ts:Ts):Ts->Prop
 |[]=>True
 |(t,a)::r=>re (lk ts t) (a.aw ρ)/\lT ρ ts r
def iX (ρ:Nat->Nat) (os:Os):Os->Prop
 |[]=>True
 |(id,o)::r=>lk os (ρ id)=some (o.aw ρ)/\iX ρ os r
theorem kb {ρ:Nat->Nat} {os:Os}:∀{a:Os},iX ρ os a->∀id o,lk a id=some o->lk os (ρ id)=some (o.aw ρ)
 |(k,x)::r,h,id,o,hl=>by
  rw[j5] at hl;split at hl
  ·rename_i e;subst e;cases hl;exact h.1
  ·exact kb h.2 id o hl
theorem H7.aW {c:Ctx} {w:World} {os a:Os} {ρ:Nat->Nat} (h:H7 c w os) (e:iX ρ os a) (l:ja ρ a=true):H7 (c.bD ρ) w a:=by
 have e:=kb e;exact⟨fun id o d=>(h.rep _ _ (e id o d)).aW,fun id o b d g=>h.lt _ _ b (e id o d) (e6.1 g),fun id k o m b j d f g i=>h.sep _ _ _ _ b (uw l d f j) (e id o d) (e k m f) (e6.1 g) (e6.1 i),h.aX⟩
section
variable {P:Program} {tab:F7} {et:Y9} {Γ:K5}
structure bj (ts:Ts) (os:Os) (ts2:Ts) (os2:Os) (rl:List (Nat×Nat)):Prop where
 t:lT (rn rl) ts ts2
 o:iX (rn rl) os os2
 inj:ja (rn rl) os2=true
 top:lW rl=true
theorem r9 {ts:Ts} {ρ:Nat->Nat}:∀{a:Ts},lT ρ ts a->∀t x,lk a t=some x->re (lk ts t) (x.aw ρ)
 |(k,y)::r,h,t,x,hl=>by
  rw[j5] at hl;split at hl
  ·rename_i e;subst e;cases hl;exact h.1
  ·exact r9 h.2 t x hl
theorem dS.aW {c:Ctx} {w:World} {ts d:Ts} {a:Act} {ρ:Nat->Nat} (h:dS c w ts a) (m:∀t x,lk d t=some x->t<a.tmps.size) (n:lT ρ ts d):dS (c.bD ρ) w d a:=by
 intro t x j;have e:=r9 n t x j;have i:=m t x j;cases g:lk ts t with
 |some b =>
  rw[g] at e;obtain⟨v,k,l⟩:=h t b g;exact⟨v,k,Rd.aW x (mj e l)⟩
 |none =>
  rw[g] at e;refine⟨a.tmps[t],by simp[i],Rd.aW x ?_⟩;have f:x.aw ρ=.any:=e;rw[f];exact Rd.bZ _
theorem bj.rel {ts:Ts} {os:Os} {f:Ts} {g:Os} {l:List (Nat×Nat)} (h:bj ts os f g l) (v:(f.all fun p=>AM p.1 Γ.n)=true) {a:Act} {w:World} (y:o6 Γ ts os a w):o6 Γ f g a w:=by
 obtain⟨c,⟨m,k,q,r,d⟩,s⟩:=y;have j:=kb h.o;refine⟨c.bD (rn l),⟨m,k,q.aW (fun t x i=>by rw[k];exact AU (AH.1 v _ (O1 i))) h.t,r.aW h.o h.inj,⟨d.bV,d.tape,d.output,d.size,d.aX,d.aV,d.aP,fun id o b i u=>d.ab _ _ b (j id o i) (e6.1 u)⟩⟩,fun id e=>?_⟩;have:=s id e;rw[<-kx h.top e] at this;simpa[Ctx.bD,kx h.top e] using this
theorem j4.sub {c:Code} {ts b:Ts} {os d:Os} {Q:Qt} (i:List (Nat×Nat)) (h:bj ts os b d i) (f:(b.all fun p=>AM p.1 Γ.n)=true) (e:j4 P Γ c b d Q):j4 P Γ c ts os Q :=
 ⟨fun a w g=>e.run a w (h.rel f g)⟩
def exists_least {p:Nat->Prop} (h:∃n,p n):∃n,p n/\∀m,p m->n<=m:=by
 obtain⟨n,f⟩:=h
 induction n using Nat.strongRecOn with
 |_ n ih =>
  by_cases a:∃m,m<n/\p m
  ·obtain⟨m,b,d⟩:=a;exact ih m b d
  ·exact⟨n,f,fun m e=>by
    rcases Nat.lt_or_ge m n with h|h
    ·exact absurd ⟨m,h,e⟩ a
    ·exact h⟩
theorem j4.loop {ι:Type} (St:ι->Ts) (g:ι->Os) (m:ι->Nat) {c:Code} {ts:Ts} {os:Os} {Q:Qt} (t:ι) (B:List (Nat×Nat)) (G:bj ts os (St t) (g t) B) (D:∀i,((St i).all fun p=>AM p.1 Γ.n)=true)
  (M:∀i,j4 P Γ c (St i) (g i) fun e f d=>match e with
   |.normal=>∃j E,m j<m i/\bj f d (St j) (g j) E
   |.exit id=>Q (.exit id) f d
   |.ret=>Q .ret f d):j4 P Γ (.loop c) ts os Q:=by
 refine⟨fun a w q=>?_⟩;let I:Act->World->Prop:=fun a w=>∃i,o6 Γ (St i) (g i) a w;have v:I a w:=⟨t,G.rel (D t) q⟩;have l:∀a w,∃n,I a w->(∃i,m i=n/\o6 Γ (St i) (g i) a w)/\∀i,o6 Γ (St i) (g i) a w->n<=m i:=by
  intro a w;by_cases s:I a w
  ·obtain⟨i,J⟩:=s;obtain⟨n,⟨j,C,u⟩,H⟩:=exists_least (p:=fun n=>∃i,m i=n/\o6 Γ (St i) (g i) a w) ⟨m i,i,rfl,J⟩;exact⟨n,fun _=>⟨⟨j,C,u⟩,fun k K=>H (m k) ⟨k,rfl,K⟩⟩⟩
  ·exact⟨0,fun h=>absurd h s⟩
 refine wp_loop I (fun a w=>Classical.choose (l a w)) v fun a w s=>?_;obtain⟨⟨i,C,u⟩,_⟩:=Classical.choose_spec (l a w) s;refine wp_mono ((M i).run a w u) fun e F w' ⟨ex,f,d,A,o,b⟩=>?_
 match e,ex,A,o with
 |.normal,.normal,_,o =>
  obtain⟨j,E,L,r⟩:=o;have z:=r.rel (D j) b;refine⟨⟨j,z⟩,?_⟩;have:=(Classical.choose_spec (l F w') ⟨j,z⟩).2 j z;omega
 |.exit x,.exit y,A,o=>exact⟨.exit y,f,d,A,o,b⟩
 |.ret,.ret,_,o=>exact⟨.ret,f,d,trivial,o,b⟩
theorem j4.bC {c:Code} {ts:Ts} {os:Os} {Q:Qt} (t:Nat) {a:AV} (g:lk ts t=some a) (h:bC [a]->j4 P Γ c ts os Q):j4 P Γ c ts os Q:=by
 refine⟨fun x w f=>?_⟩;have e:=f;obtain⟨i,b,_⟩:=e;obtain⟨v,_,d⟩:=b.ts t a g;refine(h ?_).run x w f;cases d with
 |fz d=>exact(p8.cons d .nil).bC
 |_=>trivial
end
end
section
variable {P:Program} {tab:F7} {et:Y9} {Γ:K5}
theorem o6.ghost {ts:Ts} {os need upd:Os} {news:List Nat} {a:Act} {w:World} (ex:Ts) (J:o6 Γ ts os a w) (e:eg need os) (p:D5 news ts=true) (q:D6 news upd os=true) (f:(news.all fun i=>(lk upd i).isSome)=true)
  (I:∀c,H7 c w need->∃c',aF c w c' w need upd news/\∀t x,lk ex t=some x->∃y,lk ts t=some y/\∀v,Rd c w v y->Rd c' w v x):o6 Γ (ex++ts) (upd++os) a w:=by
 obtain⟨c,⟨D,E,B,l,F⟩,G⟩:=J;have m:=jG e;have k:∀id∈news,(lk upd id).isSome=true:=fun id h=>by simpa using AH.1 f id h
 obtain⟨c',b,o⟩:=I c (l.sub m);obtain⟨A,C⟩:=hP q;refine⟨c',⟨D,E,fun t x d=>?_,l.frame m b k A,F.post l m b k A⟩,fun id r=>?_⟩
 ·rw[C9] at d;cases n:lk ex t with
  |some y =>
   rw[n] at d;simp at d;subst d;obtain⟨z,K,u⟩:=o t y n;obtain⟨v,g,j⟩:=B t z K;exact⟨v,g,u v j⟩
  |none =>
   rw[n] at d;simp at d;obtain⟨v,g,j⟩:=B t x d;exact⟨v,g,j.post b (l.sub m) (j9 p t x d)⟩
 ·have s:id ∉ news:=fun H=>by have:=C id H;omega
  have g:=b.ctx id s;have j:=G id r;exact⟨g.1.trans j.1,g.2.trans j.2⟩
def nJ {a t:Nat} {x y:AV} (h:lk [(a,x)] t=some y):t=a/\y=x:=by
 rw[j5] at h;split at h
 ·rename_i e;cases h;exact⟨e.symm,rfl⟩
 ·cases h
theorem o6.bd {ts:Ts} {os:Os} (t id sz e:Nat) (d:lk ts t=some .a8) (k:D5 [id] ts=true) (l:D6 [id] [(id,.row sz [] e)] os=true) {a:Act} {w:World} (u:o6 Γ ts os a w):o6 Γ ((t,.aG id)::ts) ((id,.row sz [] e)::os) a w:=by
 refine o6.ghost (need:=[]) (upd:=[(id,.row sz [] e)]) (news:=[id]) [(t,.aG id)] u trivial k l (by simp[j3]) fun c aD=>⟨c.aE id (.slice none 0 0),?_,fun E x z=>?_⟩
 ·have m:(c.aE id (.slice none 0 0)).hd id=.slice none 0 0:=by simp[Ctx.aE]
  have f:∀b,¬aK (c.aE id (.slice none 0 0)) id (.row sz [] e) b:=fun b p=>by
   have g:((c.aE id (.slice none 0 0)).hd id).ownBlock=some b:=p;rw[m] at g;cases g
  refine⟨rfl,rfl,rfl,AA _,fun _ h=>h,fun _ h=>.inl h,fun _ _ _=>rfl,fun i q=>⟨rfl,by have:i≠id:=(by simpa using q);simp[Ctx.aE,this]⟩,⟨fun i o d=>?_,fun i o b d j=>?_,fun i C o D b s d r j=>?_,aD.aX⟩,fun i o b d j=>?_⟩<;>rw[j5] at d<;>split at d<;>first|(rename_i e1;subst e1;cases d)|cases d
  ·exact⟨[],by rw[m];exact⟨.inl ⟨rfl,rfl⟩,o5,o5⟩,rfl,fun i us B h=>by simp at h⟩
  ·exact absurd j (f b)
  ·exact absurd j (f b)
  ·exact absurd j (f b)
 ·obtain⟨rfl,rfl⟩:=nJ z;exact⟨_,d,fun v y=>by rw[y.ah];exact .aG (n:=0) (cap:=0) (A:=none) (by simp[Ctx.aE]) (AA _) (by simp[maxLen])⟩
theorem j4.bd {c:Code} {ts:Ts} {os:Os} {Q:Qt} (t id sz e:Nat) (f:lk ts t=some .a8) (b:D5 [id] ts=true) (d:D6 [id] [(id,.row sz [] e)] os=true) (h:j4 P Γ c ((t,.aG id)::ts) ((id,.row sz [] e)::os) Q):j4 P Γ c ts os Q :=
 ⟨fun a w g=>h.run a w (o6.bd t id sz e f b d g)⟩
theorem j4.freeze {c:Code} {ts:Ts} {os:Os} {Q:Qt} (t id:Nat) {sz e:Nat} {ls:List (List AV)} (d:lk ts t=some (.aG id)) (b:lk os id=some (.row sz ls e)) (h:j4 P Γ c ((t,.sl sz ls)::ts) ((id,.aI)::os) Q):j4 P Γ c ts os Q:=by
 refine⟨fun a w f=>h.run a w (o6.ghost (need:=[(id,.row sz ls e)]) (upd:=[(id,.aI)]) (news:=[]) [(t,.sl sz ls)] f ⟨b,trivial⟩ rfl rfl rfl fun c aD=>⟨c.fz [(id,.row sz ls e)],aF.freeze aD,fun j x i=>?_⟩)⟩;obtain⟨rfl,rfl⟩:=nJ i;exact⟨_,d,fun v g=>lB aD (j3 _ _ _) g⟩
def entry : Nat->List AV->Ts
 |_,[]=>[]
 |k,a::l=>(k,a)::entry (k+1) l
theorem pU : ∀(l:List AV) (k t:Nat) (x:AV),lk (entry k l) t=some x->k<=t/\l[t-k]?=some x
 |[],k,t,x,h=>by cases h
 |a::l,k,t,x,h=>by
  unfold entry at h;rw[j5] at h;split at h
  ·rename_i e;subst e;cases h;exact⟨AA _,o5⟩
  ·obtain⟨d,b⟩:=pU l (k+1) t x h;refine⟨d9,?_⟩;rw[show t-k=(t-(k+1))+1 by omega];simpa using b
def kz : List AV->Ts
 |[]=>[]
 |[a]=>[(0,a)]
 |[a,b]=>[(0,a),(1,b)]
 |[a,b,c]=>[(0,a),(1,b),(2,c)]
 |[a,b,c,d]=>[(0,a),(1,b),(2,c),(3,d)]
 |[a,b,c,d,e]=>[(0,a),(1,b),(2,c),(3,d),(4,e)]
 |[a,b,c,d,e,f]=>[(0,a),(1,b),(2,c),(3,d),(4,e),(5,f)]
 |[a,b,c,d,e,f,g]=>[(0,a),(1,b),(2,c),(3,d),(4,e),(5,f),(6,g)]
 |[a,b,c,d,e,f,g,h]=>[(0,a),(1,b),(2,c),(3,d),(4,e),(5,f),(6,g),(7,h)]
 |l=>entry 0 l
def ug (l:List AV):kz l=entry 0 l:=by
 unfold kz;split<;>rfl
def gg (tab:F7) (ts:Ts) (os:Os):List ResultVar->Option (List AV)
 |[]=>some []
 |.tmp t::r=>match lk ts t,gg tab ts os r with
  |some a,some l=>some (a::l)
  |_,_=>none
 |.cell t ty::r=>match lk ts t,lk tab ty,gg tab ts os r with
  |some (.ptr id off),some ti,some l=>match lk os id with
   |some (.box b _)=>match fM ti b off with
    |some a=>some (a::l)
    |none=>none
   |_=>none
  |_,_,_=>none
def oV : List AV->AV
 |[a]=>a
 |l=>.aS l
theorem nX (o:E5 P tab) {c:Ctx} {w:World} {ts:Ts} {os:Os} {a:Act} (d:dS c w ts a) (aD:H7 c w os):∀(l:List ResultVar) (r:List AV),gg tab ts os l=some r ->
  ∃vs:List Value,(l.mapM (fun x=>match x with
     |ResultVar.tmp t=>pure (a.tmps.getD t undef)
     |ResultVar.cell D t=>do loadVar t (<-asAddr (a.tmps.getD D undef)):ResultVar->Sem Value)).run P w=.ok vs w/\l8 c w vs r
 |[],r,h=>by cases h;exact⟨[],o5,.nil⟩
 |.tmp t::l,r,h=>by
  unfold gg at h;split at h
  ·rename_i x C B f;cases h;obtain⟨vs,i,k⟩:=nX o d aD l C f;obtain⟨v,g,m⟩:=d t x B;refine⟨v::vs,?_,.cons m k⟩;have q:a.tmps.getD t undef=v:=by simp[Array.getD_eq_getD_getElem?,g]
   rw[List.mapM_cons];simp only[Sem.run_bind,Sem.run_pure,Result.andThen_ok,i,q]
  ·cases h
 |.cell t ty::l,r,h=>by
  unfold gg at h;split at h
  ·rename_i id off ti C B A f;split at h
   ·rename_i J e s;split at h
    ·rename_i x z;cases h;obtain⟨vs,i,k⟩:=nX o d aD l C f;obtain⟨v,g,m⟩:=d t _ B;obtain⟨us,E,F⟩:=aD.rep id _ s;obtain⟨y,n,G⟩:=hY (b:=c.μ id) (p:=0) (o ty ti A) z F (fun j u I=>by
      unfold World.cell?;simp only[Nat.zero_add,E];simpa using I)
     rw[Nat.zero_add] at n;refine⟨y::vs,?_,.cons G k⟩;rw[m.bR] at g;simp only[Instr.loadAt,Instr.sureAddr,pure_bind] at n;have q:a.tmps.getD t undef=.pointer (some ⟨c.μ id,off,none⟩):=by simp[Array.getD_eq_getD_getElem?,g]
     rw[List.mapM_cons];have H:∀x:Addr,asAddr (.pointer (some x))=pure x:=fun _=>rfl;simp only[Sem.run_bind,Sem.run_pure,Result.andThen_ok,q,H,n,i]
    ·cases h
   ·cases h
  ·cases h
def kl : List Value->Value
 |[v]=>v
 |l=>.tuple l.toArray
def w8 {c:Ctx} {w:World}:∀{vs:List Value} {r:List AV},l8 c w vs r->Rd c w (kl vs) (oV r)
 |_,_,.nil=>.aS .nil
 |_,_,.cons h .nil=>h
 |_,_,.cons h (.cons k t)=>.aS (.cons h (.cons k t))
def sb {fn:Func} {tmps:Array Value} {w:World} {vs:List Value} (h:(fn.results.toList.mapM (fun x=>match x with
     |ResultVar.tmp t=>pure (tmps.getD t undef)
     |ResultVar.cell b t=>do loadVar t (<-asAddr (tmps.getD b undef)):ResultVar->Sem Value)).run P w=.ok vs w):(results fn tmps).run P w=.ok (kl vs) w:=by
 unfold results;rw[Array.mapM_eq_mapM_toList];simp only[Sem.run_bind,Sem.run_map,Sem.run_pure];refine Eq.trans (congrArg (fun r:Result (List Value)=>(r.andThen fun a w'=>Result.ok a.toArray w').andThen fun a w'=>Result.ok (if h:a.size=1 then a[0] else Value.tuple a) w') h) ?_;simp only[Result.andThen_ok];congr 1;cases vs with
 |nil=>rfl
 |cons v vs=>cases vs with
  |nil=>rfl
  |cons u vs=>rfl
structure Fin (tab:F7) (rs:List ResultVar) (ts:Ts) (os:Os) (av:AV) (upd:Os) (news:List Nat) (rl:List (Nat×Nat)) (r:List AV):Prop where
 res:gg tab ts os rs=some r
 out:iq (oV r) (av.aw (rn rl))
 obj:iX (rn rl) os upd
 inj:ja (rn rl) upd=true
 top:lW rl=true
 mem:(upd.all fun p=>news.elem p.1 || AD Go.Proofs.YtibjcppjfkamhaaGreatDoor.top p.1)=true
 ids:(av.ids.all fun i=>(lk upd i).isSome || AD Go.Proofs.YtibjcppjfkamhaaGreatDoor.top i)=true
 jw:(upd.all fun p=>p.2.ids.all fun i=>(lk upd i).isSome || AD Go.Proofs.YtibjcppjfkamhaaGreatDoor.top i)=true
def mv (tab:F7) (b:List ResultVar) (av:AV) (upd:Os) (news:List Nat):Qt:=fun e ts os =>
 match e with
 |.exit _=>False
 |.normal=>∃a r,Fin tab b ts os av upd news a r
 |.ret=>∃a r,Fin tab b ts os av upd news a r
theorem Spec.of (hT:E5 P tab) {f n:Nat} {fn:Func} {c:Code} (E:P.funcs[f]?=some fn) (D:fn.body=some c) (hn:fn.ntmps=n) (hc:b7 P f=true) {need upd:Os} {ins:List AV} {av:AV} {news:List Nat}
  (g:AD ins.length n=true) (G:(need.all fun p=>AD top p.1 && (lk upd p.1).isSome)=true) (H:(news.all fun i=>(lk upd i).isSome)=true)
  (h:∀Γ:K5,Γ.n=n->j4 P Γ c (kz ins) need (mv tab fn.results.toList av upd news)):Spec P f need ins av upd news:=by
 refine⟨hc,fun id F=>by simpa using AH.1 H id F,fun J w args aD m=>calls_of_wp E D ?_⟩;have hsz:args.size=ins.length:=by simpa using m.length
 have hle:=AU g;let Γ:K5:=⟨J,w,need,n⟩;have A:o6 Γ (entry 0 ins) need { tmps:=args++Array.replicate (fn.ntmps-args.size) undef,defers:=[] } w:=by
  refine⟨J,⟨rfl,?_,fun t x C=>?_,aD,⟨rfl,rfl,rfl,AA _,fun _ h=>h,fun _ h=>.inl h,fun _ _=>rfl,fun id o b V L=>.inr ⟨id,o,V,L⟩⟩⟩,fun _ _=>⟨rfl,rfl⟩⟩
  ·show(args++Array.replicate (fn.ntmps-args.size) undef).size=n;rw[Array.size_append,Array.size_replicate,hn];omega
  ·obtain⟨_,L⟩:=pU ins 0 t x C;rw[Nat.sub_zero] at L;obtain⟨v,W,N⟩:=m.get L;refine⟨v,?_,N⟩;have M:args[t]?=some v:=by simpa using W
   have Y:t<args.size:=(Array.getElem?_eq_some_iff.1 M).1;show(args++Array.replicate (fn.ntmps-args.size) undef)[t]?=some v;rw[Array.getElem?_append_left Y,M]
 rw[<-ug] at A;refine wp_mono ((h Γ rfl).run _ w A) fun e a' w' ⟨ex,ts',os',hm,S,I⟩=>?_;have K:(∃u r,Fin tab fn.results.toList ts' os' av upd news u r)->a'.defers=[]/\∃v,(results fn a'.tmps).run P w'=.ok v w'/\∃U c',Ending.returned v=.returned U/\aF J w c' w' need upd news/\Rd c' w' U av:=by
  rintro⟨u,r,a⟩;obtain⟨y,⟨V,L,W,N,z⟩,h6⟩:=I;obtain⟨vs,g1,g2⟩:=nX hT W N fn.results.toList r a.res;have hso:=kb a.obj;have hu:=N.aW a.obj a.inj;have O:∀id o,lk upd id=some o->id∈news\/top<=id:=fun id o g=>by
   have:=AH.1 a.mem _ (O1 g);simp only[Bool.or_eq_true] at this;exact this.imp (fun h=>by simpa using h) fun h=>AU h
  let c':Ctx:={ Φ:=y.Φ,μ:=fun i=>if(lk upd i).isSome then y.μ (rn u i) else J.μ i,hd:=fun i=>if(lk upd i).isSome then y.hd (rn u i) else J.hd i };have s:∀i,(lk upd i).isSome=true->c'.μ i=(y.bD (rn u)).μ i/\c'.hd i=(y.bD (rn u)).hd i:=fun i hi=>by simp[c',Ctx.bD,hi]
  have d:∀b,Γ.aG b->w.heap.size<=b\/Touch J need upd b:=fun b D=>D.imp (fun h=>h) fun⟨id,o,q1,q2⟩=>⟨id,o,q1,by
   have:=AH.1 G _ (O1 q1);simp only[A7] at this;exact this.2,q2⟩
  have k:∀l:List Nat,(l.all fun i=>(lk upd i).isSome || AD Go.Proofs.YtibjcppjfkamhaaGreatDoor.top i)=true->∀x∈l,c'.μ x=(y.bD (rn u)).μ x/\c'.hd x=(y.bD (rn u)).hd x:=fun l g x C=>by
   by_cases B:(lk upd x).isSome=true
   ·exact s x B
   ·have:=AH.1 g x C;simp only[Bool.or_eq_true] at this;have ht:=AU (this.resolve_left B);have h7:=h6 x ht;simp only[c',Ag B,Ctx.bD,kx a.top ht];exact⟨h7.1.symm,h7.2.symm⟩
  have j:∀id o b,lk upd id=some o->(aK c' id o b↔aK (y.bD (rn u)) id o b):=fun id o b g=>jP (s id (by rw[g];rfl)) (k _ (AH.1 a.jw _ (O1 g)));refine⟨V,kl vs,?_,kl vs,c',rfl,⟨z.bV,z.tape,z.output,z.size,z.aX,fun b D=>?_,fun b D hnt=>z.aP b fun ho=>?_,fun id F=>?_,⟨fun id o g=>?_,fun id o b g E=>?_,fun id T o o' b Z g Q E X=>?_,N.aX⟩,fun id o b g E=>?_⟩,?_⟩
  ·exact sb g1
  ·exact(z.aV b D).imp (fun h=>h) (d b)
  ·rcases d b ho with h|h
   ·exact absurd D (Nat.not_lt.2 h)
   ·exact hnt h
  ·by_cases B:(lk upd id).isSome=true
   ·obtain⟨o,ho⟩:=Option.isSome_iff_exists.1 B;rcases O id o ho with C|C
    ·exact absurd C F
    ·have:=h6 id C;rw[(s id B).1,(s id B).2];simpa[Ctx.bD,kx a.top C] using this
   ·simp[c',B]
  ·exact(hu.rep id o g).aP (s id (by rw[g];rfl)) (fun _ _=>rfl) (fun _ h=>h) (fun _ _=>rfl) (k _ (AH.1 a.jw _ (O1 g)))
  ·exact hu.lt id o b g ((j id o b g).1 E)
  ·exact hu.sep id T o o' b Z g Q ((j id o b g).1 E) ((j T o' b Q).1 X)
  ·exact d b (z.ab _ _ b (hso id o g) (e6.1 ((j id o b g).1 E)))
  ·have q:=(mj a.out (w8 g2)).aW;exact Rd.mono (c:=y.bD (rn u)) (c':=c') (fun _ _=>rfl) (fun _ h=>h) (k _ a.ids) q
 match e,ex,hm,S with
 |.normal,.normal,_,S=>exact K S
 |.ret,.ret,_,S=>exact K S
end
def waits (o:Oper) (i:Nat):Bool:=o.after.toList.any fun e=>Region.binds .any e && A4 e.on i
def iJ (ops:List Oper):Nat->Oper->Nat->Bool
 |0,o,i=>waits o i
 |n+1,o,i=>waits o i || o.after.toList.any fun e=>Region.binds .any e && (match ops[e.on]? with
  |some m=>iJ ops n m i
  |none=>false)
def O7 (ops:List Oper) (o:Oper) (i:Nat):Bool:=iJ ops 12 o i
def rD {o:Oper} {e:_} (b:e∈o.after.toList) (a:Region.binds .any e=true):waits o e.on=true:=by
 unfold waits;exact List.any_eq_true.2 ⟨e,b,by simp[a]⟩
def qw {ops:List Oper} {o:Oper} {i:Nat} (h:waits o i=true):O7 ops o i=true:=by unfold O7 iJ;rw[h];rfl
def ao (ops:List Oper) (o:Oper):List Nat :=
 (o.op.operands.toList.filterMap fun|.tmp t=>some t|_=>none) ++
 (match o.guard with
  |some (g,_)=>match ops[g]? with
   |some x=>x.dst.toList
   |none=>[]
  |none=>[])
def bx (ops:List Oper) (x y:Oper):Bool :=
 (match x.dst with
  |some d=>(ao ops y).elem d || (y.dst == some d)
  |none=>false) ||
 (match y.dst with
  |some d=>(ao ops x).elem d
  |none=>false)
def X5 (ops:List Oper):Bool :=
 (ops.zipIdx.all fun(o,k)=>o.after.toList.all fun e=>!Region.binds .any e || AM e.on k) &&
 (ops.zipIdx.all fun(y,k)=>ops.zipIdx.all fun(x,i)=>!Nat.blt i k || !bx ops x y || waits y i) &&
 (ops.all fun o=>match o.op with|.select _ _=>false|_=>true)
structure bp (ops:List Oper) (σ:List Nat):Prop where
 nodup:σ.Nodup
 lt:∀i∈σ,i<ops.length
 wait:∀pre j post,σ=pre++j::post->∀o,ops[j]?=some o->∀i,waits o i=true->i∈post
theorem bp.cons {ops:List Oper} {d:List Nat} {k:Nat} {o:Oper} (h:bp ops d) (f:ops[k]?=some o) (g:k ∉ d) (l:∀i,waits o i=true->i∈d):bp ops (k::d):=by
 refine⟨List.nodup_cons.2 ⟨g,h.nodup⟩,fun i a=>?_,fun pre j post b x e i a=>?_⟩
 ·rcases AJ.1 a with rfl|a
  ·exact(AF.1 f).1
  ·exact h.lt i a
 ·cases pre with
  |nil =>
   simp at b;obtain⟨rfl,rfl⟩:=b;rw[f] at e;cases e;exact l i a
  |cons p pre =>
   simp at b;exact h.wait pre j post b.2 x e i a
theorem bp.eY {ops:List Oper} {k:List Nat} (h:bp ops k):∀(n:Nat) {pre post:List Nat} {j:Nat} (b:k=pre++j::post) {o:Oper} (d:ops[j]?=some o) {i:Nat} (a:iJ ops n o i=true),i∈post
 |0,pre,post,j,b,o,d,i,a=>h.wait pre j post b o d i a
 |n+1,pre,post,j,b,o,d,i,a=>by
  unfold iJ at a;rw[Bool.or_eq_true] at a;rcases a with a|a
  ·exact h.wait pre j post b o d i a
  ·obtain⟨e,q,a⟩:=List.any_eq_true.1 a;simp only[A7] at a;obtain⟨l,a⟩:=a;have p:=h.wait pre j post b o d e.on (rD q l);obtain⟨r,s,g⟩:=List.append_of_mem p;split at a
   ·rename_i m f;have:=h.eY n (pre:=pre++j::r) (post:=s) (by rw[b,g];simp) f a;rw[g];simp[this]
   ·cases a
theorem bp.cj {ops:List Oper} {a:List Nat} (h:bp ops a) {pre post:List Nat} {j:Nat} (b:a=pre++j::post) {o:Oper} (d:ops[j]?=some o) {i:Nat} (e:O7 ops o i=true):i∈post :=
 h.eY _ b d e
theorem bp.s0 {ops:List Oper} {f:List Nat} (h:bp ops f) {o:Oper} (j:∀i,waits o i=true->i∈f) {i:Nat} (a:O7 ops o i=true):i∈f:=by
 unfold O7 iJ at a;rw[Bool.or_eq_true] at a;rcases a with a|a
 ·exact j i a
 ·obtain⟨e,k,a⟩:=List.any_eq_true.1 a;simp only[A7] at a;obtain⟨l,n,g⟩:=List.append_of_mem (j e.on (rD k a.1));have b:=a.2;split at b
  ·rename_i m d;have:=h.eY _ g d b;rw[g];simp[this]
  ·cases b
def down : Nat->List Nat
 |0=>[]
 |k+1=>k::down k
def nK {k i:Nat}:i∈down k↔i<k:=by
 induction k with
 |zero=>simp[down]
 |succ k ih=>simp only[down,AJ,ih];omega
theorem nG {ops:List Oper} (h:X5 ops=true):∀k,k<=ops.length->bp ops (down k)
 |0,_=>⟨by simp[down],by simp[down],fun pre j post d=>by simp[down] at d⟩
 |k+1,m=>by
  have ih:=nG h k d9;have l:ops[k]?=some ops[k]:=A8 d9;refine ih.cons l (by rw[nK];omega) fun i g=>?_;rw[nK];unfold X5 at h;simp only[A7] at h;have f:=AH.1 h.1.1 (ops[k],k) (by rw[List.mem_zipIdx_iff_getElem?];exact l);simp only[AH] at f;unfold waits at g;obtain⟨e,d,b⟩:=List.any_eq_true.1 g;simp only[A7] at b;have a:=f e d;rw[b.1] at a;simp only[AI,Bool.false_or] at a;have:=AU a;have:=AB b.2;omega
theorem bp.first {ops:List Oper} {p:List Nat} (h:bp ops p) (W:Nat->Bool) {k:Nat} (D:∀i,i<k->W i=true->i∈p) (A:∀i∈p,W i=true->i<k)
  (E:∀i j o,i<j->j<k->W i=true->W j=true->ops[j]?=some o->O7 ops o i=true):p.find? W=(down k).find? W:=by
 have d:∀k,(down k).find? W=none\/∃j,(down k).find? W=some j/\j<k/\W j=true/\∀i,i<k->W i=true->i<=j:=by
  intro k
  induction k with
  |zero=>exact .inl rfl
  |succ k ih =>
   simp only[down,List.find?_cons];by_cases b:W k=true
   ·rw[b];exact .inr ⟨k,rfl,d9,b,fun i q _=>d9⟩
   ·simp only[b];rcases ih with ih|⟨j,x,y,n,z⟩
    ·exact .inl ih
    ·refine .inr ⟨j,x,d9,n,fun i q l=>?_⟩;rcases Nat.lt_or_eq_of_le (Nat.le_of_lt_succ q) with h|h
     ·exact z i h l
     ·subst h;exact absurd l b
 rcases d k with C|⟨j,x,y,n,z⟩
 ·rw[C,List.find?_eq_none];intro i q b;have r:=A i q b;have:=List.find?_eq_none.1 C i (nK.2 r);exact this b
 ·rw[x];have B:=D j y n;obtain⟨pre,post,e⟩:=List.append_of_mem B;rw[e,List.find?_append];have g:pre.find? W=none:=by
   rw[List.find?_eq_none];intro m s b;have v:m∈p:=by rw[e];simp[s]
   have t:=A m v b;have F:=z m t b;have G:m≠j:=by
    rintro rfl;have a:=h.nodup;rw[e] at a;have:=(List.nodup_append.1 a).2.2 m s m o5;exact this rfl
   have f:ops[j]?=some (ops[j]'(h.lt j B)):=A8 _;have u:=h.cj e f (E m j _ d9 y b n f);have a:=h.nodup;rw[e] at a;exact(List.nodup_append.1 a).2.2 m s m (by simp[u]) rfl
  rw[g];simp[n]
structure Q8 where
 av:AV
 need:Os
 upd:Os
 news:List Nat
 deriving Inhabited
section
variable (ops:List Oper) (R:Nat->Q8) (ts0:Ts) (os0:Os)
def q8 : List Nat->Ts
 |[]=>ts0
 |k::σ=>match (ops[k]?).bind (·.dst) with
  |some d=>(d,(R k).av)::q8 σ
  |none=>q8 σ
def F9 : List Nat->Os
 |[]=>os0
 |k::σ=>(R k).upd++F9 σ
def dL (t:Nat) (k:Nat):Bool:=(ops[k]?).bind (·.dst) == some t
def ez (id:Nat) (k:Nat):Bool:=(lk (R k).upd id).isSome
theorem gZ (t:Nat):∀a:List Nat,lk (q8 ops R ts0 a) t=match a.find? (dL ops t) with
  |some k=>some (R k).av
  |none=>lk ts0 t
 |[]=>rfl
 |k::a=>by
  rw[List.find?_cons];unfold q8;cases hd:(ops[k]?).bind (·.dst) with
  |none =>
   have:dL ops t k=false:=by unfold dL;rw[hd];rfl
   rw[this];exact gZ t a
  |some d =>
   simp only;rw[j5];by_cases h:d=t
   ·subst h;have:dL ops d k=true:=by unfold dL;rw[hd];simp
    rw[this,Ah rfl]
   ·have:dL ops t k=false:=by unfold dL;rw[hd];simpa using h
    rw[this,Ag h];exact gZ t a
theorem fi (id:Nat):∀a:List Nat,lk (F9 R os0 a) id=match a.find? (ez R id) with
  |some k=>lk (R k).upd id
  |none=>lk os0 id
 |[]=>rfl
 |k::a=>by
  rw[List.find?_cons];unfold F9;rw[C9];cases b:lk (R k).upd id with
  |none =>
   have:ez R id k=false:=by unfold ez;rw[b];rfl
   rw[this];simpa using fi id a
  |some x =>
   have:ez R id k=true:=by unfold ez;rw[b];rfl
   rw[this];simp[b]
end
theorem pb : ∀(n:Nat) (l:List Nat),l.Nodup->(∀i∈l,i<n)->l.length<=n
 |0,l,_,h=>by
  cases l with
  |nil=>simp
  |cons a l=>exact absurd (h a o5) d9
 |n+1,l,d,h=>by
  have ih:=pb n (l.erase n) (d.erase n) fun i b=>by
   have f:=h i (List.mem_of_mem_erase b);have g:i≠n:=fun e=>by
    subst e;exact(d.not_mem_erase b).elim
   omega
  have:l.length<=(l.erase n).length+1:=by
   rw[List.length_erase];split<;>omega
  omega
def mentions (r:Q8):List Nat:=r.av.ids++r.upd.flatMap fun p=>p.2.ids
def keys (os:Os):List Nat:=os.map (·.1)
def dZ {os:Os} {id:Nat} (h:(lk os id).isSome=true):id∈keys os:=by
 obtain⟨o,a⟩:=Option.isSome_iff_exists.1 h;exact AL.2 ⟨_,O1 a,rfl⟩
structure Comm (a b:Q8):Prop where
 wr:∀id∈keys a.upd,id ∉ keys b.need
 ww:∀id∈keys a.upd,id ∉ keys b.upd
 nm:∀id∈a.news,id ∉ mentions b
def Rw (a b:Q8):Prop:=∀id∈keys b.upd,id ∉ keys a.need
def V5 (ops:List Oper) (o:Oper) (ts:Ts) (b:Bool):Prop :=
 match o.guard with
 |none=>b=true
 |some (j,a)=>(hC ops ts j=true/\b=false)\/∃x,iI ops ts j=some x/\(x == a)=b
structure ra (P:Program) (Γ:K5) (ops:List Oper) (o:Oper) (ts:Ts) (os:Os) (r:Q8):Prop where
 guard:V5 ops o ts true
 oq:iw P o (bJ ts) r.av r.need r.upd r.news
 need:∀id ob,lk r.need id=some ob->lk os id=some ob
 news:∀id∈r.news,(lk r.upd id).isSome=true
 og:D5 r.news ts=true
 im:D6 r.news r.upd os=true
structure rI (ops:List Oper) (o:Oper) (ts:Ts) (r:Q8):Prop where
 guard:V5 ops o ts false
 eq:r=⟨.aS [],[],[],[]⟩
theorem V5.run {c:Ctx} {w:World} {ops:List Oper} {o:Oper} {ts:Ts} {a:Act} {b:Bool} (h:dS c w ts a) (e:V5 ops o ts b):Region.wanted o (yielded ops.toArray a.tmps)=b:=by
 unfold V5 at e;unfold Region.wanted;split at e
 ·rename_i g;rw[g,e]
 ·rename_i j d g;rw[g];rcases e with⟨f,rfl⟩|⟨x,f,i⟩
  ·have:=mT h f;simp only[this];rfl
  have:=mW h f;simp only[this];rw[<-i];cases x<;>cases d<;>rfl
structure fv (P:Program) (ops:List Oper) (R:Nat->Q8) (ts0:Ts) (os0:Os) (i k:Nat):Prop where
 upd:(R i).upd=[]
 news:(R i).news=[]
 s9:∀j,i<j->j<k->∀id∈keys (R j).upd,id ∉ keys (R i).need
 oq:∃o need',ops[i]?=some o/\iw P o (bJ (q8 ops R ts0 (down i))) (R i).av need' [] []/\(∀id ob,lk need' id=some ob->lk (F9 R os0 (down (k+1))) id=some ob)/\∀id∈keys need',id∈keys (R i).need
section
variable {P:Program} {Γ:K5} {ops:List Oper} {R:Nat->Q8} {ts0:Ts} {os0:Os}
structure Lex (P:Program) (Γ:K5) (ops:List Oper) (R:Nat->Q8) (ts0:Ts) (os0:Os) (n:Nat):Prop where
 gA:∀k o,k<n->ops[k]?=some o->ra P Γ ops o (q8 ops R ts0 (down k)) (F9 R os0 (down k)) (R k)\/rI ops o (q8 ops R ts0 (down k)) (R k)
 dst:∀k o,k<n->ops[k]?=some o->dM Γ.n o.dst=true
 comm:∀i k o,i<k->k<n->ops[k]?=some o->O7 ops o i=false->Comm (R i) (R k)/\(Rw (R i) (R k)\/fv P ops R ts0 os0 i k)
def kR (hd:X5 ops=true) {i k:Nat} {x y:Oper} (f:ops[i]?=some x) (g:ops[k]?=some y) (b:i<k) (e:bx ops x y=true):waits y i=true:=by
 unfold X5 at hd;simp only[A7] at hd;have d:=AH.1 hd.1.2 (y,k) (by rw[List.mem_zipIdx_iff_getElem?];exact g);have a:=AH.1 d (x,i) (by rw[List.mem_zipIdx_iff_getElem?];exact f);simp only[e,AI,Bool.or_false,Bool.or_eq_true,Bool.not_eq_true'] at a;rcases a with a|a
 ·have:AM i k=true:=Nat.ble_eq_true_of_le b;rw[this] at a;cases a
 ·exact a
def qt (hd:X5 ops=true) {m:List Nat} (l:bp ops m) {k:Nat} {o:Oper} (A:ops[k]?=some o) (v:k ∉ m) (F:∀i,waits o i=true->i∈m) {t:Nat} (B:t∈ao ops o) :
  lk (q8 ops R ts0 m) t=lk (q8 ops R ts0 (down k)) t:=by
 have f:∀i,dL ops t i=true->∃x,ops[i]?=some x/\x.dst=some t:=fun i b=>by
  unfold dL at b;cases d:ops[i]? with
  |none=>rw[d] at b;simp at b
  |some x=>rw[d] at b;exact⟨x,rfl,by simpa using b⟩
 have D:=l.first (dL ops t) (k:=k) (fun i b a=>by
   obtain⟨x,d,g⟩:=f i a;exact F i (kR hd d A b (by unfold bx;rw[g];simp[B]))) (fun i b a=>by
   obtain⟨x,d,g⟩:=f i a;rcases Nat.lt_or_ge i k with h|h
   ·exact h
   ·have E:i≠k:=fun e=>v (e▸b);have q:=kR hd A d d9 (by
     unfold bx;rw[g];cases o.dst<;>simp[B])
    obtain⟨pre,post,u⟩:=List.append_of_mem b;have:=l.wait pre i post u x d k q;exact absurd (by rw[u];simp[this]) v) (fun i j x n H a p d=>by
   obtain⟨y,G,r⟩:=f i a;obtain⟨z,C,s⟩:=f j p;rw[d] at C;cases C;exact qw (kR hd G d n (by unfold bx;rw[r,s];simp)))
 rw[gZ,gZ,D]
def vP {n:Nat} (u:Lex P Γ ops R ts0 os0 ops.length) {l:List Nat} (d:bp ops l) {k:Nat} {o:Oper} (z:ops[k]?=some o) (y:k ∉ l) (C:∀i,waits o i=true->i∈l) {id:Nat} (g:id∈keys (R k).need) (r:∀j∈l,k<j->Rw (R k) (R j)) :
  lk (F9 R os0 l) id=lk (F9 R os0 (down k)) id:=by
 have q:k<ops.length:=(AF.1 z).1;have A:=d.first (ez R id) (k:=k) (fun i f b=>by
   cases a:O7 ops o i with
   |true=>exact d.s0 C a
   |false=>exact absurd g ((u.comm i k o f q z a).1.wr id (dZ b))) (fun i f b=>by
   rcases Nat.lt_or_ge i k with h|h
   ·exact h
   ·have B:i≠k:=fun e=>y (e▸f);have p:=d.lt i f;have t:ops[i]?=some ops[i]:=A8 p;cases a:O7 ops ops[i] k with
    |true =>
     obtain⟨pre,post,v⟩:=List.append_of_mem f;have:=d.cj v t a;exact absurd (by rw[v];simp[this]) y
    |false=>exact absurd g (r i f d9 id (dZ b))) (fun i j x m D b s t=>by
   cases a:O7 ops x i with
   |true=>rfl
   |false=>exact absurd (dZ s) ((u.comm i j x m d9 t a).1.ww id (dZ b)))
 rw[fi,fi,A]
def vL (p:Lex P Γ ops R ts0 os0 ops.length) {g:List Nat} (e:bp ops g) {k:Nat} {o:Oper} (A:ops[k]?=some o) (D:k ∉ g) (F:∀i,waits o i=true->i∈g) {m:Nat} (z:m∈g) (t:k<m) (hS:fv P ops R ts0 os0 k m) (B:¬Rw (R k) (R m)) {id:Nat} (d:id∈keys (R k).need) :
  lk (F9 R os0 g) id=lk (F9 R os0 (down (m+1))) id:=by
 have s:k<ops.length:=(AF.1 A).1;have E:=e.lt m z;have C:=e.first (ez R id) (k:=m+1) (fun i q a=>by
   rcases Nat.lt_trichotomy i k with h|h|h
   ·cases b:O7 ops o i with
    |true=>exact e.s0 F b
    |false=>exact absurd d ((p.comm i k o h s A b).1.wr id (dZ a))
   ·subst h;unfold ez at a;rw[hS.upd] at a;cases a
   ·rcases Nat.lt_or_ge i m with v|v
    ·exact absurd d (hS.s9 i h v id (dZ a))
    ·have:i=m:=d9;subst this;exact z) (fun i q a=>by
   rcases Nat.lt_or_ge i (m+1) with h|h
   ·exact h
   ·have f:=e.lt i q;have l:ops[i]?=some ops[i]:=A8 f;cases b:O7 ops ops[i] k with
    |true =>
     obtain⟨pre,post,y⟩:=List.append_of_mem q;have:=e.cj y l b;exact absurd (by rw[y];simp[this]) D
    |false =>
     rcases(p.comm k i _ d9 f l b).2 with n|n
     ·exact absurd d (n id (dZ a))
     ·exact absurd (fun id d=>n.s9 m t d9 id d) B) (fun i j x r G a u l=>by
   cases b:O7 ops x i with
   |true=>rfl
   |false=>exact absurd (dZ u) ((p.comm i j x r d9 l b).1.ww id (dZ a)))
 rw[fi,fi,C]
def vd (hd:X5 ops=true) (u:Lex P Γ ops R ts0 os0 ops.length) {m:List Nat} (b:bp ops m) (d:∀i,i<ops.length->i∈m) :
  (∀t,lk (q8 ops R ts0 m) t=lk (q8 ops R ts0 (down ops.length)) t)/\∀id,lk (F9 R os0 m) id=lk (F9 R os0 (down ops.length)) id:=by
 refine⟨fun t=>?_,fun id=>?_⟩
 ·have l:∀i,dL ops t i=true->∃x,ops[i]?=some x/\x.dst=some t:=fun i a=>by
   unfold dL at a;cases h:ops[i]? with
   |none=>rw[h] at a;simp at a
   |some x=>rw[h] at a;exact⟨x,rfl,by simpa using a⟩
  have n:=b.first (dL ops t) (k:=ops.length) (fun i a _=>d i a) (fun i a _=>b.lt i a) (fun i j x e r f g h=>by
   obtain⟨y,v,p⟩:=l i f;obtain⟨z,s,q⟩:=l j g;rw[h] at s;cases s;exact qw (kR hd v h e (by unfold bx;rw[p,q];simp)))
  rw[gZ,gZ,n]
 ·have n:=b.first (ez R id) (k:=ops.length) (fun i a _=>d i a) (fun i a _=>b.lt i a) (fun i j x e r f g h=>by
   cases o:O7 ops x i with
   |true=>rfl
   |false=>exact absurd (dZ g) ((u.comm i j x e r h o).1.ww id (dZ f)))
  rw[fi,fi,n]
theorem o6.congr {ts g:Ts} {os f:Os} {a:Act} {w:World} (h:o6 Γ ts os a w) (q:∀t,lk g t=lk ts t) (i:∀id,lk f id=lk os id):o6 Γ g f a w:=by
 obtain⟨c,⟨j,k,l,m,d⟩,n⟩:=h;exact⟨c,⟨j,k,fun t x e=>l t x (by rw[<-q];exact e),m.sub fun id o e=>by rw[<-i];exact e,⟨d.bV,d.tape,d.output,d.size,d.aX,d.aV,d.aP,fun id o b e p=>d.ab id o b (by rw[<-i];exact e) p⟩⟩,n⟩
end
structure V where
 k:Int
 n:Int
 deriving DecidableEq,Inhabited
structure Ln where
 cls:Int
 found:Int
 deriving DecidableEq,Inhabited
structure St where
 cls:Int
 name:ByteArray
 pos:Int
 deriving DecidableEq,Inhabited
structure Ins where
 op:Int
 a:Int
 b:Int
 c:Int
 name:ByteArray
 deriving DecidableEq,Inhabited
structure Me where
 name:ByteArray
 args:Int
 aJ:Int
 aO:Int
 code:List Ins
 deriving DecidableEq,Inhabited
structure Cl where
 name:ByteArray
 aH:Int
 aC:Int
 aB:List Me
 deriving DecidableEq,Inhabited
structure Ob where
 cls:Int
 aC:List V
 deriving DecidableEq,Inhabited
structure Wd where
 a7:List Cl
 heap:List Ob
 aN:Int
 deriving DecidableEq,Inhabited
def Q0 (n:Int):List AV:=[.int n]
def fE (s:ByteArray):List AV:=[.str s]
def eV (v:V):List AV:=[.int v.k,.int v.n]
def rq (x:Ln):List AV:=[.int x.cls,.int x.found]
def rr (s:St):List AV:=[.int s.cls,.str s.name,.int s.pos]
def dF (i:Ins):List AV:=[.int i.op,.int i.a,.int i.b,.int i.c,.str i.name]
def X7 (m:Me):List AV:=[.str m.name,.int m.args,.int m.aJ,.int m.aO,.sl 5 (m.code.map dF)]
def gB (c:Cl):List AV:=[.str c.name,.int c.aH,.int c.aC,.sl 5 (c.aB.map X7)]
def ig (o:Ob):List AV:=[.int o.cls,.sl 2 (o.aC.map eV)]
def ba (w:Wd):List AV:=[.sl 4 (w.a7.map gB),.sl 2 (w.heap.map ig),.int w.aN]
section
variable {P:Program} {Γ:K5} {ops:List Oper} {R:Nat->Q8} {ts0:Ts} {os0:Os}
def vB {o:Oper} {i:Nat}:waits o i=true↔∃e∈o.after,Region.binds .any e=true/\e.on=i:=by
 unfold waits;rw[List.any_eq_true];constructor
 ·rintro⟨e,b,a⟩;simp only[A7] at a;exact⟨e,by simpa using b,a.1,AB a.2⟩
 ·rintro⟨e,b,a,rfl⟩;exact⟨e,by simpa using b,by simp[a]⟩
def qK (hd:X5 ops=true) {g:List Nat} (m:bp ops g) {k:Nat} {o:Oper} (r:ops[k]?=some o) (q:k ∉ g) (u:∀i,waits o i=true->i∈g) {b:Bool} (h:V5 ops o (q8 ops R ts0 (down k)) b):V5 ops o (q8 ops R ts0 g) b:=by
 have e:∀t∈ao ops o,lk (q8 ops R ts0 g) t=lk (q8 ops R ts0 (down k)) t:=fun t s=>qt hd m r q u s;unfold V5 at h⊢;split at h
 ·exact h
 ·rename_i j p n;rcases h with⟨c,l⟩|⟨x,c,l⟩
  ·refine .inl ⟨?_,l⟩;unfold hC at c⊢;cases f:ops[j]? with
   |none=>rw[f] at c;cases c
   |some y =>
    rw[f] at c;simp only at c⊢;cases a:y.dst with
    |none=>rw[a] at c;cases c
    |some d =>
     rw[a] at c;simp only at c⊢;rw[e d (by unfold ao;rw[n];simp[f,a])];exact c
  refine .inr ⟨x,?_,l⟩;unfold iI at c⊢;cases f:ops[j]? with
  |none=>rw[f] at c;cases c
  |some y =>
   rw[f] at c;simp only at c⊢;cases a:y.dst with
   |none=>rw[a] at c;cases c
   |some d =>
    rw[a] at c;simp only at c⊢;rw[e d (by unfold ao;rw[n];simp[f,a])];exact c
def w6 (hd:X5 ops=true) (X:Lex P Γ ops R ts0 os0 ops.length) {q:List Nat} (l:bp ops q) {k:Nat} {o:Oper} (B:ops[k]?=some o) (L:k ∉ q) (hw:∀i,waits o i=true->i∈q) {a:Act} {w:World}
  (hr:o6 Γ (q8 ops R ts0 q) (F9 R os0 q) a w) {K:Act->World->Prop} {Q:Exit->Act->World->Prop} (hK:∀a' w',o6 Γ (q8 ops R ts0 (k::q)) (F9 R os0 (k::q)) a' w'->K a' w'):wpOp P ops.toArray Q k K a w:=by
 have hkl:k<ops.length:=(AF.1 B).1;have J:=X.dst k o hkl B;obtain⟨c,b⟩:=hr;have G:=b.rel.ts;unfold wpOp;have ho':ops.toArray[k]?=some o:=by simpa using B
 simp only[ho'];have ets:∀v,o6 Γ (bX o.dst (R k).av (q8 ops R ts0 q)) ((R k).upd++F9 R os0 q) (a.put o.dst v) w->True:=fun _ _=>trivial;have tsc:q8 ops R ts0 (k::q)=bX o.dst (R k).av (q8 ops R ts0 q):=by
  rw[q8,B];cases N:o.dst<;>simp[bX,N]
 rcases X.gA k o hkl B with D|S
 ·rw[(qK hd l B L hw D.guard).run G,Ah rfl];left;have hev:∀x∈o.op.operands.toList,Rd c w (a.eval x) (bJ (q8 ops R ts0 (down k)) x):=fun x M=>by
   have e:bJ (q8 ops R ts0 (down k)) x=bJ (q8 ops R ts0 q) x:=by
    cases x with
    |tmp t =>
     unfold bJ;simp only;rw[qt hd l B L hw (by unfold ao;rw[AT];left;rw[List.mem_filterMap];exact⟨.tmp t,M,rfl⟩)]
    |_=>rfl
   rw[e];exact hJ G x
  have F:∃f,iw P o (bJ (q8 ops R ts0 (down k))) (R k).av f (R k).upd (R k).news/\∀id ob,lk f id=some ob->lk (F9 R os0 q) id=some ob:=by
   by_cases A:∀j∈q,k<j->Rw (R k) (R j)
   ·refine⟨(R k).need,D.oq,fun id ob h=>?_⟩;rw[vP (n:=0) X l B L hw (dZ (by rw[h];rfl)) A];exact D.need id ob h
   ·simp only[Classical.not_forall] at A;obtain⟨m,z,hkm,hN⟩:=A;have hml:=l.lt m z;have hmo:ops[m]?=some ops[m]:=A8 hml;have hS:fv P ops R ts0 os0 k m:=by
     cases E:O7 ops ops[m] k with
     |true =>
      obtain⟨pre,post,O⟩:=List.append_of_mem z;have:=l.cj O hmo E;exact absurd (by rw[O];simp[this]) L
     |false=>exact(X.comm k m _ hkm hml hmo E).2.resolve_left hN
    obtain⟨o',f,ho2,ht,hn,hsub⟩:=hS.oq;rw[B] at ho2;cases ho2;refine⟨f,by rw[hS.upd,hS.news];exact ht,fun id ob h=>?_⟩;rw[vL X l B L hw z hkm hS hN (hsub _ (dZ (by rw[h];rfl)))];exact hn id ob h
  obtain⟨f,tri',g⟩:=F;have later:∀j∈q,¬j<k->∀x∈(R k).news,x ∉ mentions (R j):=fun j T y x M=>by
   have hne:j≠k:=fun e=>L (e▸T);have Z:=l.lt j T;have hjo:ops[j]?=some ops[j]:=A8 Z;cases E:O7 ops ops[j] k with
   |true =>
    obtain⟨pre,post,O⟩:=List.append_of_mem T;have:=l.cj O hjo E;exact absurd (by rw[O];simp[this]) L
   |false=>exact(X.comm k j _ d9 Z hjo E).1.nm x M
  have memd:∀j,j<k->∀p:Nat×AV,True:=fun _ _ _=>trivial;have V:∀j,j<k->(∃d,(ops[j]?).bind (·.dst)=some d/\(d,(R j).av)∈q8 ops R ts0 (down k))\/(ops[j]?).bind (·.dst)=none:=by
   have:∀n j,j<n->(∃d,(ops[j]?).bind (·.dst)=some d/\(d,(R j).av)∈q8 ops R ts0 (down n))\/(ops[j]?).bind (·.dst)=none:=by
    intro n
    induction n with
    |zero=>intro j h;omega
    |succ n ih =>
     intro j h;rcases Nat.lt_or_eq_of_le (Nat.le_of_lt_succ h) with h|h
     ·rcases ih j h with⟨d,W,Y⟩|W
      ·refine .inl ⟨d,W,?_⟩;simp only[down,q8];split
       ·exact List.mem_cons_of_mem _ Y
       ·exact Y
      ·exact .inr W
     ·subst h;cases N:(ops[j]?).bind (·.dst) with
      |none=>exact .inr rfl
      |some d=>refine .inl ⟨d,rfl,?_⟩;simp only[down,q8,N];simp
   exact fun j h=>this k j h
  have I:∀p∈ts0,p∈q8 ops R ts0 (down k):=by
   have:∀n,∀p∈ts0,p∈q8 ops R ts0 (down n):=by
    intro n
    induction n with
    |zero=>exact fun p h=>h
    |succ n ih =>
     intro p h;simp only[down,q8];split
     ·exact List.mem_cons_of_mem _ (ih p h)
     ·exact ih p h
   exact this k
  have U:∀j,j<k->∀p∈(R j).upd,p∈F9 R os0 (down k):=by
   have:∀n j,j<n->∀p∈(R j).upd,p∈F9 R os0 (down n):=by
    intro n
    induction n with
    |zero=>intro j h;omega
    |succ n ih =>
     intro j h p C;simp only[down,F9];rcases Nat.lt_or_eq_of_le (Nat.le_of_lt_succ h) with h|h
     ·exact List.mem_append_right _ (ih j h p C)
     ·subst h;exact List.mem_append_left _ C
   exact fun j h=>this k j h
  have H:∀p∈os0,p∈F9 R os0 (down k):=by
   have:∀n,∀p∈os0,p∈F9 R os0 (down n):=by
    intro n
    induction n with
    |zero=>exact fun p h=>h
    |succ n ih=>intro p h;simp only[down,F9];exact List.mem_append_right _ (ih p h)
   exact this k
  have og:∀t x,lk (q8 ops R ts0 q) t=some x->∀id∈(R k).news,id ∉ x.ids:=by
   intro t x s id u;have key:∀p∈q8 ops R ts0 (down k),id ∉ p.2.ids:=fun p C=>by
    have r:=D.og;unfold D5 at r;split at r
    ·rename_i e;rw[e] at u;cases u
    ·exact hQ (AH.1 r p C) id u
   rw[gZ] at s;cases r:q.find? (dL ops t) with
   |none=>rw[r] at s;exact key _ (I _ (O1 s))
   |some j =>
    rw[r] at s;simp only[Option.some.injEq] at s;subst s;have T:=List.mem_of_find?_eq_some r;by_cases y:j<k
    ·rcases V j y with⟨d,_,z⟩|hnn
     ·exact key _ z
     ·have:=List.find?_some r;unfold dL at this;rw[hnn] at this;simp at this
    ·intro z;exact later j T y id u (by unfold mentions;simp[z])
  have im:(∀id ob,lk (F9 R os0 q) id=some ob->lk (R k).upd id=none->∀x∈(R k).news,x ∉ ob.ids)/\∀x∈(R k).news,x<top:=by
   refine⟨fun id ob s hu x M z=>?_,(hP D.im).2⟩;have key:∀p∈F9 R os0 (down k),p.1=id->x ∉ p.2.ids:=fun p C O=>by
    have r:=D.im;unfold D6 at r;split at r
    ·rename_i e;rw[e] at M;cases M
    ·simp only[A7] at r;have:=AH.1 r.2 p C;rw[O,hu] at this;simp only[Option.isSome_none,Bool.false_or] at this;exact hQ this x M
   rw[fi] at s;cases r:q.find? (ez R id) with
   |none=>rw[r] at s;exact key _ (H _ (O1 s)) rfl z
   |some j =>
    rw[r] at s;simp only at s;have T:=List.mem_of_find?_eq_some r;by_cases y:j<k
    ·exact key _ (U j y _ (O1 s)) rfl z
    ·refine later j T y x M ?_;unfold mentions;rw[AT];right;rw[List.mem_flatMap];exact⟨_,O1 s,z⟩
  have hgo:=tri' c w a.eval (b.rel.aD.sub g) hev;unfold Oper.wp;refine hgo.upon fun v w' ⟨c',C,hv⟩=>hK _ _ ⟨c',?_,?_⟩
  ·have hn:=b.rel.n;refine⟨by rw[put_defers];exact b.rel.defers,by rw[jS];exact hn,?_,?_,?_⟩
   ·rw[tsc];exact G.put (b.rel.aD.sub g) C og hv (by rw[hn];exact J)
   ·exact b.rel.aD.frame g C D.news im.1
   ·exact b.rel.inv.post b.rel.aD g C D.news im.1
  ·intro id u;have hno:id ∉ (R k).news:=fun z=>by have:=im.2 id z;omega
   have W:=C.ctx id hno;have Y:=b.same id u;exact⟨W.1.trans Y.1,W.2.trans Y.2⟩
 ·rw[(qK hd l B L hw S.guard).run G,Ag o5];have hs:=jH (o:=o) ⟨c,b⟩ J;refine hK _ _ ?_;rw[tsc,F9,S.eq];exact hs
def pQ (hd:X5 ops=true) (N:Lex P Γ ops R ts0 os0 ops.length) {Q:Exit->Act->World->Prop} (V:∀a w,o6 Γ (q8 ops R ts0 (down ops.length)) (F9 R os0 (down ops.length)) a w->Q .normal a w) :
  ∀(fuel:Nat) (b:Array Bool) (c:List Nat) (a:Act) (w:World),bp ops c->(∀i,i<ops.length->(b.getD i true=true↔i∈c))->b.size=ops.length->c.length+fuel=ops.length ->
   o6 Γ (q8 ops R ts0 c) (F9 R os0 c) a w->wpAny P .any ops.toArray Q fuel b a w:=by
 have x:∀(b:Array Bool) (c:List Nat),bp ops c->(∀i,i<ops.length->(b.getD i true=true↔i∈c))->b.size=ops.length->Region.ready .any ops.toArray b=[]->∀i,i<ops.length->i∈c:=by
  intro b c d m E q i
  induction i using Nat.strongRecOn with
  |_ i ih =>
   intro g;cases C:b.getD i true with
   |true=>exact(m i g).1 C
   |false =>
    exfalso;have O:i∈Region.ready .any ops.toArray b:=by
     rw[mem_ready];refine⟨C,ops[i],by simp[g],fun e H r=>?_⟩;have n:=hd;unfold X5 at n;simp only[A7] at n;have B:=AH.1 n.1.1 (ops[i],i) (by rw[List.mem_zipIdx_iff_getElem?];exact A8 g);simp only[AH] at B;have G:=B e (by simpa using H);rw[r] at G;simp only[AI,Bool.false_or] at G;have J:e.on<i:=AU G;have M:=(m e.on d9).2 (ih e.on J d9);have v:e.on<b.size:=d9;simp only[Array.getD_eq_getD_getElem?,Array.getElem?_eq_getElem v,Option.getD_some] at M⊢;exact M
    rw[q] at O;cases O
 have y:∀(c:List Nat) (a:Act) (w:World),bp ops c->(∀i,i<ops.length->i∈c)->o6 Γ (q8 ops R ts0 c) (F9 R os0 c) a w->Q .normal a w:=fun c a w d f q=>by
  obtain⟨e1,U⟩:=vd hd N d f;exact V a w (q.congr (fun t=>(e1 t).symm) fun id=>(U id).symm)
 intro fuel
 induction fuel with
 |zero =>
  intro b c a w d m E z q;have f:∀i,i<ops.length->i∈c:=fun i g=>Classical.byContradiction fun W=>by
   have:=pb ops.length (i::c) (List.nodup_cons.2 ⟨W,d.nodup⟩) fun j u=>by
    rcases AJ.1 u with rfl|u
    ·exact g
    ·exact d.lt j u
   simp at this;omega
  refine⟨?_,y c a w d f q⟩;apply List.eq_nil_iff_forall_not_mem.2;intro i g;rw[mem_ready] at g;obtain⟨F,o,D,_⟩:=g;have l:i<ops.length:=by
   have:=(Array.getElem?_eq_some_iff.1 D).1;simpa using this
  have:=(m i l).2 (f i l);rw[F] at this;cases this
 |succ fuel ih =>
  intro b c a w d m E z q;refine⟨fun L=>y c a w d (x b c d m E L) q,fun i g=>?_⟩;rw[mem_ready] at g;obtain⟨F,o,D,k⟩:=g;have l:i<ops.length:=by
   have:=(Array.getElem?_eq_some_iff.1 D).1;simpa using this
  have A:ops[i]?=some o:=by simpa using D
  have p:i ∉ c:=fun h=>by
   have:=(m i l).2 h;rw[F] at this;cases this
  have S:∀j,waits o j=true->j∈c:=fun j u=>by
   obtain⟨e,H,C,rfl⟩:=vB.1 u;have n:=k e H C;have v:e.on<b.size:=Classical.byContradiction fun I=>by
    simp only[Array.getD_eq_getD_getElem?,Array.getElem?_eq_none (Nat.le_of_not_lt I),Option.getD_none] at n;cases n
   have B:b.getD e.on true=true:=by
    simp only[Array.getD_eq_getD_getElem?,Array.getElem?_eq_getElem v,Option.getD_some] at n⊢;exact n
   exact(m e.on d9).1 B
  refine w6 hd N d A p S q fun T w' K=>ih _ (i::c) T w' (d.cons A p S) (fun j u=>?_) (by simpa using E) bG K;by_cases s:i=j
  ·subst s;have:i<b.size:=d9;simp[this]
  ·rw[getD_set_ne true s];rw[m j u,AJ];exact⟨.inr,fun h=>h.resolve_left fun e=>s e.symm⟩
end
def ek (a b:List Nat):Bool:=a.all fun x=>!(b.elem x)
def fI {a b:List Nat} (h:ek a b=true):∀x∈a,x ∉ b:=fun x d c=>by
 have:=AH.1 h x d;simp at this;exact this c
structure dR where
 k:Nat
 need:List Nat
 writes:List Nat
 news:List Nat
def lM (ops:List Oper) (o:Oper) (a:List dR) (rd:List Nat) (b:Os) (av:AV):Bool :=
 a.all fun r=>(ek r.writes rd && ek r.writes (keys b) && ek (keys b) r.need && ek r.news (av.ids++b.flatMap fun p=>p.2.ids)) || O7 ops o r.k
def eM (k:Nat) (rd c:List Nat) (b:Os) (a:List dR):List dR :=
 match rd,b with
 |[],[]=>a
 |_,_=>⟨k,rd,keys b,c⟩::a
def dy (P:Program) (tab:F7) (et:Y9) (n:Nat) (ops:List Oper):Nat->List Oper->Ts->Os->List dR->(Ts->Os->Prop)->Prop
 |_,[],ts,os,_,K=>K ts os
 |k,o::rest,ts,os,log,K=>match o.dst with
  |some d=>match AM d n with
   |true=>ee ops o ts
    (eE P tab et d o.op (bJ ts) os fun av rd b a=>match D5 b ts && D6 b a os && lM ops o log rd a av with
     |true=>force av fun av=>dv a os fun os=>dy P tab et n ops (k+1) rest ((d,av)::ts) os (eM k rd b a log) K
     |false=>False)
    (dy P tab et n ops (k+1) rest ((d,.aS [])::ts) os log K)
   |false=>False
  |none=>ee ops o ts
   (eE P tab et 0 o.op (bJ ts) os fun av rd b a=>match D5 b ts && D6 b a os && lM ops o log rd a av with
    |true=>dv a os fun os=>dy P tab et n ops (k+1) rest ts os (eM k rd b a log) K
    |false=>False)
   (dy P tab et n ops (k+1) rest ts os log K)
section
variable {P:Program} {tab:F7} {et:Y9} {Γ:K5} {ops:List Oper} {ts0:Ts} {os0:Os}
def kf {o:Oper} {ts:Ts} {X Y:Prop} (h:ee ops o ts X Y):(V5 ops o ts true/\X)\/(V5 ops o ts false/\Y):=by
 unfold ee at h;unfold V5;cases e:o.guard with
 |none=>rw[e] at h;exact .inl ⟨rfl,h⟩
 |some p =>
  obtain⟨j,c⟩:=p;rw[e] at h;cases c with
  |true =>
   simp only at h⊢;split at h
   ·rename_i d;exact .inr ⟨.inl (by simp[d]),h⟩
   split at h
   ·rename_i b a;cases b
    ·exact .inr ⟨.inr ⟨false,a,rfl⟩,h⟩
    ·exact .inl ⟨.inr ⟨true,a,rfl⟩,h⟩
   ·exact h.elim
  |false =>
   simp only at h⊢;split at h
   ·rename_i d;exact .inr ⟨.inl (by simp[d]),h⟩
   split at h
   ·rename_i b a;cases b
    ·exact .inl ⟨.inr ⟨false,a,rfl⟩,h⟩
    ·exact .inr ⟨.inr ⟨true,a,rfl⟩,h⟩
   ·exact h.elim
def u7 (R:Nat->Q8) (k:Nat) (r:Q8):Nat->Q8:=fun i=>if i=k then r else R i
theorem ec (R:Nat->Q8) (k:Nat) (r:Q8):∀n,n<=k->q8 ops (u7 R k r) ts0 (down n)=q8 ops R ts0 (down n)
 |0,_=>rfl
 |n+1,h=>by
  have e:u7 R k r n=R n:=by unfold u7;rw[Ag d9]
  simp only[down,q8,ec R k r n d9,e]
theorem gX (R:Nat->Q8) (k:Nat) (r:Q8):∀n,n<=k->F9 (u7 R k r) os0 (down n)=F9 R os0 (down n)
 |0,_=>rfl
 |n+1,h=>by
  have e:u7 R k r n=R n:=by unfold u7;rw[Ag d9]
  simp only[down,F9,gX R k r n d9,e]
def fl (R:Nat->Q8) (k:Nat) (a:List dR):Prop:=∀i,i<k->((R i).need=[]/\(R i).upd=[]/\(R i).news=[])\/∃r∈a,r.k=i/\r.need=keys (R i).need/\r.writes=keys (R i).upd/\r.news=(R i).news
theorem Comm.aa {a b:Q8} (h:a.need=[]/\a.upd=[]/\a.news=[]):Comm a b:=by
 obtain⟨f,d,e⟩:=h;refine⟨fun id c=>?_,fun id c=>?_,fun id c=>?_⟩
 ·rw[d] at c;cases c
 ·rw[d] at c;cases c
 ·rw[e] at c;cases c
theorem Rw.aa {a b:Q8} (h:a.need=[]):Rw a b:=fun id _ c=>by rw[h] at c;cases c
theorem fv.set {P:Program} {R:Nat->Q8} {i k j:Nat} {r:Q8} (q:i<k) (s:k<j) (h:fv P ops R ts0 os0 i k):fv P ops (u7 R j r) ts0 os0 i k:=by
 have b:∀i,i≠j->u7 R j r i=R i:=fun i h=>by unfold u7;rw[Ag h]
 obtain⟨d,e,f,o,a,g,l,n,p⟩:=h;refine⟨by rw[b i d9];exact d,by rw[b i d9];exact e,fun m t c=>by rw[b m d9,b i d9];exact f m t c,o,a,g,?_,?_,by rw[b i d9];exact p⟩
 ·rw[ec R j r i d9,b i d9];exact l
 ·rw[gX R j r (k+1) d9];exact n
theorem Lex.step {R:Nat->Q8} {k:Nat} {o:Oper} {r:Q8} (e:Lex P Γ ops R ts0 os0 k) (f:ops[k]?=some o)
  (hd:ra P Γ ops o (q8 ops R ts0 (down k)) (F9 R os0 (down k)) r\/rI ops o (q8 ops R ts0 (down k)) r) (c:dM Γ.n o.dst=true) (s:∀i,i<k->O7 ops o i=false->Comm (R i) r/\(Rw (R i) r\/fv P ops (u7 R k r) ts0 os0 i k)):Lex P Γ ops (u7 R k r) ts0 os0 (k+1):=by
 have d:∀i,i≠k->u7 R k r i=R i:=fun i h=>by unfold u7;rw[Ag h]
 have g:u7 R k r k=r:=by unfold u7;rw[Ah rfl]
 refine⟨fun j x l a=>?_,fun j x l a=>?_,fun i j x b l a m=>?_⟩
 ·rw[ec R k r j d9,gX R k r j d9];by_cases h:j=k
  ·subst h;rw[f] at a;cases a;rw[g];exact hd
  ·rw[d j h];exact e.gA j x d9 a
 ·by_cases h:j=k
  ·subst h;rw[f] at a;cases a;exact c
  ·exact e.dst j x d9 a
 ·rw[d i d9];by_cases h:j=k
  ·subst h;rw[f] at a;cases a;rw[g];exact s i b m
  ·rw[d j h];obtain⟨p,q⟩:=e.comm i j x b d9 a m;exact⟨p,q.imp (fun h=>h) fun h=>h.set b d9⟩
def vh {os:Os} (h:os.map (·.1)=[]):os=[]:=by simpa using h
def sc {R:Nat->Q8} {k:Nat} {b:List dR} {o:Oper} {r:Q8} (a:fl R k b) (l:lM ops o b (r.need.map (·.1)) r.upd r.av=true):∀i,i<k->O7 ops o i=false->Comm (R i) r/\Rw (R i) r:=by
 intro i m n;rcases a i m with h|⟨x,p,rfl,f,g,j⟩
 ·exact⟨.aa h,.aa h.1⟩
 ·have:=AH.1 l x p;rw[n,Bool.or_false] at this;simp only[A7] at this;obtain⟨⟨⟨c,d⟩,c3⟩,e⟩:=this;rw[g] at c d;rw[f] at c3;rw[j] at e;exact⟨⟨fI c,fI d,fI e⟩,fI c3⟩
def qs {R:Nat->Q8} {k:Nat} {a:List dR} {r:Q8} (b:fl R k a) (n:∀id∈r.news,(lk r.upd id).isSome=true):fl (u7 R k r) (k+1) (eM k (r.need.map (·.1)) r.news r.upd a):=by
 intro i o;have l:∀i,i≠k->u7 R k r i=R i:=fun i h=>by unfold u7;rw[Ag h]
 have j:u7 R k r k=r:=by unfold u7;rw[Ah rfl]
 have grow:∀x∈a,x∈eM k (r.need.map (·.1)) r.news r.upd a:=fun x c=>by
  unfold eM;split
  ·exact c
  ·exact List.mem_cons_of_mem _ c
 by_cases h:i=k
 ·subst h;rw[j];unfold eM;split
  ·rename_i m g;have f:r.news=[]:=List.eq_nil_iff_forall_not_mem.2 fun id d=>by
    have:=n id d;rw[g] at this;cases this
   exact .inl ⟨vh m,g,f⟩
  ·exact .inr ⟨_,List.mem_cons_self,rfl,rfl,rfl,rfl⟩
 ·rw[l i h];exact(b i d9).imp (fun h=>h) fun⟨x,c,e⟩=>⟨x,grow x c,e⟩
theorem ns (Z:E5 P tab) (W:Z6 P et):∀(l:List Oper) (k:Nat) (R:Nat->Q8) (g:List dR) (K:Ts->Os->Prop),dy P tab et Γ.n ops k l (q8 ops R ts0 (down k)) (F9 R os0 (down k)) g K->Lex P Γ ops R ts0 os0 k->fl R k g->(∀j,l[j]?=ops[k+j]?)->k+l.length=ops.length ->
  (∃a w,o6 Γ (q8 ops R ts0 (down k)) (F9 R os0 (down k)) a w)->∃u,Lex P Γ ops u ts0 os0 ops.length/\K (q8 ops u ts0 (down ops.length)) (F9 u os0 (down ops.length))
 |[],k,R,g,K,h,S,t,hl,s,M=>by
  simp at s;subst s;exact⟨R,S,h⟩
 |o::l,k,R,g,K,h,S,t,hl,s,M=>by
  have T:ops[k]?=some o:=by simpa using(hl 0).symm
  have Q:∀j,l[j]?=ops[k+1+j]?:=fun j=>by
   have:=hl (j+1);simpa[Nat.add_assoc,Nat.add_comm 1 j] using this
  have B:k+1+l.length=ops.length:=by simp at s;omega
  obtain⟨a,w,E⟩:=M;have gA:∀(d:Nat) (dst:dM Γ.n o.dst=true) (V:Kt),V5 ops o (q8 ops R ts0 (down k)) true->eE P tab et d o.op (bJ (q8 ops R ts0 (down k))) (F9 R os0 (down k)) V ->
    (∀av rd N L,V av rd N L->D5 N (q8 ops R ts0 (down k))=true/\D6 N L (F9 R os0 (down k))=true/\lM ops o g rd L av=true/\dy P tab et Γ.n ops (k+1) l (bX o.dst av (q8 ops R ts0 (down k))) (L++F9 R os0 (down k)) (eM k rd N L g) K) ->
    ∃u,Lex P Γ ops u ts0 os0 ops.length/\K (q8 ops u ts0 (down ops.length)) (F9 u os0 (down ops.length)):=by
   intro d dst V A hst X;obtain⟨c,b⟩:=E;have O:∀x∈o.op.operands.toList,Rd c w (a.eval x) (bJ (q8 ops R ts0 (down k)) x):=fun x _=>hJ b.rel.ts x;obtain⟨av,need,upd,news,F,e,f,Y⟩:=bH Z W d hst ⟨c,w,a.eval,b.rel.aD,O⟩;obtain⟨f1,f2,f3,q⟩:=X _ _ _ _ Y;let r:Q8:=⟨av,need,upd,news⟩;have H:=S.step (r:=r) T (.inl ⟨A,F,e,f,f1,f2⟩) dst (fun i M hw=>(sc (r:=r) t f3 i M hw).imp (fun h=>h) .inl);have p:=qs (r:=r) (R:=R) t f;have G:u7 R k r k=r:=by unfold u7;rw[Ah rfl]
   have z:q8 ops (u7 R k r) ts0 (down (k+1))=bX o.dst av (q8 ops R ts0 (down k)):=by
    simp only[down,q8,ec R k r k (AA _),T,G];cases I:o.dst<;>simp[bX,I,r]
   have y:F9 (u7 R k r) os0 (down (k+1))=upd++F9 R os0 (down k):=by
    simp only[down,F9,gX R k r k (AA _),G];rfl
   have hgo:=F c w a.eval (b.rel.aD.sub e) O;obtain⟨v,w',c',U,hv⟩:=hgo.inst;obtain⟨g1,g2⟩:=hP f2;have J:o6 Γ (bX o.dst av (q8 ops R ts0 (down k))) (upd++F9 R os0 (down k)) (a.put o.dst v) w':=by
    refine⟨c',⟨by rw[put_defers];exact b.rel.defers,by rw[jS];exact b.rel.n,b.rel.ts.put (b.rel.aD.sub e) U (j9 f1) hv (by rw[b.rel.n];exact dst),b.rel.aD.frame e U f g1,b.rel.inv.post b.rel.aD e U f g1⟩,fun id hid=>?_⟩;have hno:id ∉ news:=fun hm=>by have:=g2 id hm;omega
    have h1:=U.ctx id hno;have h2:=b.same id hid;exact⟨h1.1.trans h2.1,h1.2.trans h2.2⟩
   exact ns Z W l (k+1) (u7 R k r) _ K (by rw[z,y];exact q) H p Q B ⟨_,_,by rw[z,y];exact J⟩
  have skip:dM Γ.n o.dst=true->V5 ops o (q8 ops R ts0 (down k)) false->dy P tab et Γ.n ops (k+1) l (bX o.dst (.aS []) (q8 ops R ts0 (down k))) (F9 R os0 (down k)) g K ->
    ∃u,Lex P Γ ops u ts0 os0 ops.length/\K (q8 ops u ts0 (down ops.length)) (F9 u os0 (down ops.length)):=by
   intro dst A q;let r:Q8:=⟨.aS [],[],[],[]⟩;have H:=S.step (r:=r) T (.inr ⟨A,rfl⟩) dst (fun i M hw=>⟨⟨fun id _ h=>(by cases h),fun id _ h=>(by cases h),fun id _ h=>(by cases h)⟩,.inl fun id h=>(by cases h)⟩);have p:fl (u7 R k r) (k+1) g:=fun i M=>by
    by_cases h:i=k
    ·subst h;have G:u7 R i r i=r:=by unfold u7;rw[Ah rfl]
     rw[G];exact .inl ⟨rfl,rfl,rfl⟩
    ·have eo:u7 R k r i=R i:=by unfold u7;rw[Ag h]
     rw[eo];exact t i d9
   have G:u7 R k r k=r:=by unfold u7;rw[Ah rfl]
   have z:q8 ops (u7 R k r) ts0 (down (k+1))=bX o.dst (.aS []) (q8 ops R ts0 (down k)):=by
    simp only[down,q8,ec R k r k (AA _),T,G];cases I:o.dst<;>simp[bX,I,r]
   have y:F9 (u7 R k r) os0 (down (k+1))=F9 R os0 (down k):=by
    simp only[down,F9,gX R k r k (AA _),G];rfl
   exact ns Z W l (k+1) (u7 R k r) g K (by rw[z,y];exact q) H p Q B ⟨_,_,by rw[z,y];exact jH (o:=o) E dst⟩
  unfold dy at h;split at h
  ·rename_i d hd;split at h
   ·rename_i hdl;have m:dM Γ.n o.dst=true:=by rw[hd];exact hdl
    rcases kf h with⟨A,h⟩|⟨A,h⟩
    ·refine gA d m _ A h fun av rd N L D=>?_;split at D
     ·rename_i C;simp only[A7] at C;rw[force_eq,ea] at D;exact⟨C.1.1,C.1.2,C.2,by rw[hd];exact D⟩
     ·exact D.elim
    ·exact skip m A (by rw[hd];exact h)
   ·exact h.elim
  ·rename_i hd;have m:dM Γ.n o.dst=true:=by rw[hd];rfl
   rcases kf h with⟨A,h⟩|⟨A,h⟩
   ·refine gA 0 m _ A h fun av rd N L D=>?_;split at D
    ·rename_i C;simp only[A7] at C;rw[ea] at D;exact⟨C.1.1,C.1.2,C.2,by rw[hd];exact D⟩
    ·exact D.elim
   ·exact skip m A (by rw[hd];exact h)
theorem o6.drew {ts:Ts} {os:Os} {a:Act} {w:World} (h:o6 Γ ts os a w):o6 Γ ts os a { w with drawn:=w.drawn+1 }:=by
 obtain⟨c,⟨f,g,i,d,b⟩,j⟩:=h;refine⟨c,⟨f,g,fun t x e=>?_,⟨fun id o e=>?_,d.lt,d.sep,d.aX⟩,⟨b.bV,b.tape,b.output,b.size,b.aX,b.aV,b.aP,b.ab⟩⟩,j⟩
 ·obtain⟨v,k,l⟩:=i t x e;exact⟨v,k,Rd.mono (c:=c) (c':=c) (w:=w) (w':={ w with drawn:=w.drawn+1 }) (fun _ _=>rfl) (fun _ h=>h) (fun _ _=>⟨rfl,rfl⟩) l⟩
 ·exact(d.rep id o e).aP (c':=c) ⟨rfl,rfl⟩ (fun _ _=>rfl) (fun _ h=>h) (fun _ _=>rfl) fun _ _=>⟨rfl,rfl⟩
theorem j4.draw (t:E5 P tab) (q:Z6 P et) {n:Nat} (v:Γ.n=n) (u:P.follows .mixedOrders=true) {id:Nat} {l:Array Oper} (hd:X5 l.toList=true) {ts:Ts} {os:Os} {Q:Qt} (h:db ts fun ts=>dy P tab et n l.toList 0 l.toList ts os [] (Q .normal)):j4 P Γ (.region id l true) ts os Q:=by
 subst v;rw[iA] at h;refine⟨fun a w x=>wp_region_any u ?_⟩;have c:=x.drew;obtain⟨R,s,r⟩:=ns (ops:=l.toList) (ts0:=ts) (os0:=os) t q l.toList 0 (fun _=>default) [] _ h ⟨fun k o b=>absurd b d9,fun k o b=>absurd b d9,fun i k o _ b=>absurd b d9⟩ (fun i g=>absurd g d9) (fun j=>by rw[Nat.zero_add]) d9 ⟨_,_,c⟩;have:=pQ (Q:=fun e p w'=>∃ex f d,gC e ex/\Q ex f d/\o6 Γ f d p w') hd s (fun p w' m=>⟨.normal,_,_,trivial,r,m⟩) l.toList.length (Array.replicate l.size false) [] a _ (nG hd 0 (Nat.zero_le _)) (fun i g=>by
  have:i<l.size:=by simpa using g
  simp[this]) o5 o5 c
 simpa using this
structure Sv where
 o:Oper
 ts:Ts
 av:AV
 rd:List Nat
def lE (ops:List Oper) (o:Oper) (k c d:Nat) (a:List dR) (rd:List Nat) (b:Os) (av:AV):Bool :=
 a.all fun r=>(ek r.writes rd && ek r.writes (keys b) && (ek (keys b) r.need || (A4 r.k c && A4 k d)) && ek r.news (av.ids++b.flatMap fun p=>p.2.ids)) || O7 ops o r.k
def mq (ts a:Ts):List Operand->Prop
 |[]=>True
 |x::l=>bJ a x=bJ ts x/\mq ts a l
theorem qi {ts a:Ts}:∀{l:List Operand},mq ts a l->∀x∈l,bJ a x=bJ ts x
 |[],_,x,h=>(by cases h)
 |y::l,h,x,b=>by
  rcases AJ.1 b with rfl|b
  ·exact h.1
  ·exact qi h.2 x b
def uN (b:Nat) (rd:List Nat) (a:List dR):Bool:=a.all fun r=>!(AM b r.k) || ek r.writes rd
def lF (P:Program) (tab:F7) (et:Y9) (k b c:Nat) (e:Option Sv) (a:List dR) (ts:Ts) (os:Os) (K:Prop):Prop :=
 match A4 k c with
 |true=>match e with
  |some s=>(uN b s.rd a=true/\mq s.ts ts s.o.op.operands.toList/\eE P tab et 0 s.o.op (bJ s.ts) os fun av rd d f=>av=s.av/\d=[]/\f=[]/\(rd.all fun x=>s.rd.elem x)=true)/\K
  |none=>False
 |false=>K
def iR (k b:Nat) (o:Oper) (ts:Ts) (av:AV) (rd c:List Nat) (d:Os) (a:Option Sv):Option Sv :=
 match A4 k b with
 |true=>match c,d with
  |[],[]=>some ⟨o,ts,av,rd⟩
  |_,_=>a
 |false=>a
def dz (P:Program) (tab:F7) (et:Y9) (n:Nat) (ops:List Oper) (b e:Nat):Nat->List Oper->Ts->Os->List dR->Option Sv->(Ts->Os->Prop)->Prop
 |_,[],ts,os,_,_,K=>K ts os
 |k,o::rest,ts,os,log,sv,K=>match o.dst with
  |some d=>match AM d n with
   |true=>ee ops o ts
    (eE P tab et d o.op (bJ ts) os fun av rd c a=>match D5 c ts && D6 c a os && lE ops o k b e log rd a av with
     |true=>force av fun av=>dv a os fun os=>lF P tab et k b e sv log ((d,av)::ts) os (dz P tab et n ops b e (k+1) rest ((d,av)::ts) os (eM k rd c a log) (iR k b o ts av rd c a sv) K)
     |false=>False)
    (dz P tab et n ops b e (k+1) rest ((d,.aS [])::ts) os log sv K)
   |false=>False
  |none=>ee ops o ts
   (eE P tab et 0 o.op (bJ ts) os fun av rd c a=>match D5 c ts && D6 c a os && lE ops o k b e log rd a av with
    |true=>dv a os fun os=>lF P tab et k b e sv log ts os (dz P tab et n ops b e (k+1) rest ts os (eM k rd c a log) (iR k b o ts av rd c a sv) K)
    |false=>False)
   (dz P tab et n ops b e (k+1) rest ts os log sv K)
section
variable {P:Program} {tab:F7} {et:Y9} {Γ:K5} {ops:List Oper} {ts0:Ts} {os0:Os}
def ft (ops:List Oper) (R:Nat->Q8) (ts0:Ts) (a k:Nat) (b:Option Sv):Prop:=∀s,b=some s->a<k/\ops[a]?=some s.o/\s.ts=q8 ops R ts0 (down a)/\(R a).av=s.av/\keys (R a).need=s.rd/\(R a).upd=[]/\(R a).news=[]
theorem ft.step {R:Nat->Q8} {a k:Nat} {b:Option Sv} {r:Q8} (h:ft ops R ts0 a k b):ft ops (u7 R k r) ts0 a (k+1) b:=fun s g=>by
 obtain⟨i,c,d,f⟩:=h s g;have e:u7 R k r a=R a:=by unfold u7;rw[Ag d9]
 exact⟨d9,c,by rw[ec R k r a d9];exact d,by rw[e];exact f⟩
theorem ft.save {R:Nat->Q8} {a k:Nat} {b:Option Sv} {o:Oper} {r:Q8} (h:ft ops R ts0 a k b) (g:ops[k]?=some o):ft ops (u7 R k r) ts0 a (k+1) (iR k a o (q8 ops R ts0 (down k)) r.av (r.need.map (·.1)) r.news r.upd b):=by
 unfold iR;split
 ·rename_i f;have:=AB f;subst this;split
  ·rename_i c d;intro s i;cases i;have e:u7 R k r k=r:=by unfold u7;rw[Ah rfl]
   exact⟨d9,g,(ec R k r k (AA _)).symm,by rw[e],by rw[e];rfl,by rw[e];exact d,by rw[e];exact c⟩
  ·exact h.step
 ·exact h.step
def uS {R:Nat->Q8} {k f g:Nat} {b:List dR} {o:Oper} {r:Q8} (a:fl R k b) (n:lE ops o k f g b (r.need.map (·.1)) r.upd r.av=true):∀i,i<k->O7 ops o i=false->Comm (R i) r/\(Rw (R i) r\/(i=f/\k=g)):=by
 intro i p q;rcases a i p with h|⟨x,s,rfl,j,l,m⟩
 ·exact⟨.aa h,.inl (.aa h.1)⟩
 ·have:=AH.1 n x s;rw[q,Bool.or_false] at this;simp only[A7,Bool.or_eq_true] at this;obtain⟨⟨⟨c,d⟩,c3⟩,e⟩:=this;rw[l] at c d;rw[j] at c3;rw[m] at e;refine⟨⟨fI c,fI d,fI e⟩,c3.imp (fun h=>fI h) fun h=>⟨AB h.1,AB h.2⟩⟩
theorem nt (hT:E5 P tab) (hE:Z6 P et) (y M:Nat):∀(l:List Oper) (k:Nat) (R:Nat->Q8) (m:List dR) (N:Option Sv) (K:Ts->Os->Prop),ft ops R ts0 y k N->dz P tab et Γ.n ops y M k l (q8 ops R ts0 (down k)) (F9 R os0 (down k)) m N K->Lex P Γ ops R ts0 os0 k->fl R k m->(∀j,l[j]?=ops[k+j]?)->k+l.length=ops.length ->
  (∃a w,o6 Γ (q8 ops R ts0 (down k)) (F9 R os0 (down k)) a w)->∃C,Lex P Γ ops C ts0 os0 ops.length/\K (q8 ops C ts0 (down ops.length)) (F9 C os0 (down ops.length))
 |[],k,R,m,N,K,L,h,hL,u,hl,A,hi=>by
  simp at A;subst A;exact⟨R,hL,h⟩
 |o::l,k,R,m,N,K,L,h,hL,u,hl,A,hi=>by
  have ho:ops[k]?=some o:=by simpa using(hl 0).symm
  have hl':∀j,l[j]?=ops[k+1+j]?:=fun j=>by
   have:=hl (j+1);simpa[Nat.add_assoc,Nat.add_comm 1 j] using this
  have H:k+1+l.length=ops.length:=by simp at A;omega
  obtain⟨a,w,S⟩:=hi;have gA:∀(d:Nat) (dst:dM Γ.n o.dst=true) (K0:Kt),V5 ops o (q8 ops R ts0 (down k)) true->eE P tab et d o.op (bJ (q8 ops R ts0 (down k))) (F9 R os0 (down k)) K0 ->
    (∀av rd Z O,K0 av rd Z O->D5 Z (q8 ops R ts0 (down k))=true/\D6 Z O (F9 R os0 (down k))=true/\lE ops o k y M m rd O av=true/\lF P tab et k y M N m (bX o.dst av (q8 ops R ts0 (down k))) (O++F9 R os0 (down k)) (dz P tab et Γ.n ops y M (k+1) l (bX o.dst av (q8 ops R ts0 (down k))) (O++F9 R os0 (down k)) (eM k rd Z O m) (iR k y o (q8 ops R ts0 (down k)) av rd Z O N) K)) ->
    ∃C,Lex P Γ ops C ts0 os0 ops.length/\K (q8 ops C ts0 (down ops.length)) (F9 C os0 (down ops.length)):=by
   intro d dst K0 G hst hK0;obtain⟨c,f⟩:=S;have hev:∀x∈o.op.operands.toList,Rd c w (a.eval x) (bJ (q8 ops R ts0 (down k)) x):=fun x _=>hJ f.rel.ts x;obtain⟨av,need,upd,news,U,g,p,hKK⟩:=bH hT hE d hst ⟨c,w,a.eval,f.rel.aD,hev⟩;obtain⟨f1,f2,f3,b⟩:=hK0 _ _ _ _ hKK;let r:Q8:=⟨av,need,upd,news⟩;have z:=qs (r:=r) (R:=R) u p;have V:u7 R k r k=r:=by unfold u7;rw[Ah rfl]
   have E:q8 ops (u7 R k r) ts0 (down (k+1))=bX o.dst av (q8 ops R ts0 (down k)):=by
    simp only[down,q8,ec R k r k (AA _),ho,V];cases X:o.dst<;>simp[bX,X,r]
   have B:F9 (u7 R k r) os0 (down (k+1))=upd++F9 R os0 (down k):=by
    simp only[down,F9,gX R k r k (AA _),V];rfl
   have hgo:=U c w a.eval (f.rel.aD.sub g) hev;obtain⟨v,w',c',hp,hv⟩:=hgo.inst;obtain⟨g1,g2⟩:=hP f2;have I:o6 Γ (bX o.dst av (q8 ops R ts0 (down k))) (upd++F9 R os0 (down k)) (a.put o.dst v) w':=by
    refine⟨c',⟨by rw[put_defers];exact f.rel.defers,by rw[jS];exact f.rel.n,f.rel.ts.put (f.rel.aD.sub g) hp (j9 f1) hv (by rw[f.rel.n];exact dst),f.rel.aD.frame g hp p g1,f.rel.inv.post f.rel.aD g hp p g1⟩,fun id t=>?_⟩;have hno:id ∉ news:=fun hm=>by have:=g2 id hm;omega
    have h1:=hp.ctx id hno;have h2:=f.same id t;exact⟨h1.1.trans h2.1,h1.2.trans h2.2⟩
   have T:(k=M->fv P ops (u7 R k r) ts0 os0 y k)/\dz P tab et Γ.n ops y M (k+1) l (bX o.dst av (q8 ops R ts0 (down k))) (upd++F9 R os0 (down k)) (eM k (need.map (·.1)) news upd m) (iR k y o (q8 ops R ts0 (down k)) av (need.map (·.1)) news upd N) K:=by
    unfold lF at b;split at b
    ·rename_i hkm;split at b
     ·rename_i s;obtain⟨⟨q1,q2,q3⟩,q4⟩:=b;refine⟨fun _=>?_,q4⟩;obtain⟨s1,s2,s3,s4,s5,s6,s7⟩:=L s rfl;have D:u7 R k r y=R y:=by unfold u7;rw[Ag d9]
      obtain⟨c2,Q⟩:=I;have hev2:∀x∈s.o.op.operands.toList,Rd c2 w' ((a.put o.dst v).eval x) (bJ s.ts x):=fun x hx=>by
       rw[<-qi q2 x hx];exact hJ Q.rel.ts x
      obtain⟨av2,Y,upd2,news2,t1,t2,t3,t4,t5,t6,t7⟩:=bH hT hE 0 q3 ⟨c2,w',(a.put o.dst v).eval,Q.rel.aD,hev2⟩;subst t4;rw[t5,t6] at t1;refine⟨by rw[D];exact s6,by rw[D];exact s7,fun j hj hjk id t=>?_,s.o,Y,s2,?_,?_,fun id t=>?_⟩
      ·have ej:u7 R k r j=R j:=by unfold u7;rw[Ag d9]
       rw[ej] at t;rw[D,s5];rcases u j hjk with h|⟨x,hx,rfl,_,h3,_⟩
       ·rw[h.2.1] at t;cases t
       ·have:=AH.1 q1 x hx;have F:AM y x.k=true:=Nat.ble_eq_true_of_le hj;rw[F,AI,Bool.false_or] at this;rw[h3] at this;exact fI this id t
      ·rw[ec R k r y d9,D,<-s3,s4];exact t1
      ·rw[B];exact t2
      ·rw[D,s5];have:=AH.1 t7 id t;simpa using this
     ·exact b.elim
    ·rename_i hkm;exact⟨fun e=>by subst e;simp at hkm,b⟩
   have W:=hL.step (r:=r) ho (.inl ⟨G,U,g,p,f1,f2⟩) dst (fun i hi hw=>(uS (r:=r) u f3 i hi hw).imp (fun h=>h) fun h=>h.imp (fun h=>h) fun⟨e1,e2⟩=>by subst e1;exact T.1 e2);exact nt hT hE y M l (k+1) (u7 R k r) _ _ K (ft.save (r:=r) L ho) (by rw[E,B];exact T.2) W z hl' H ⟨_,_,by rw[E,B];exact I⟩
  have skip:dM Γ.n o.dst=true->V5 ops o (q8 ops R ts0 (down k)) false->dz P tab et Γ.n ops y M (k+1) l (bX o.dst (.aS []) (q8 ops R ts0 (down k))) (F9 R os0 (down k)) m N K ->
    ∃C,Lex P Γ ops C ts0 os0 ops.length/\K (q8 ops C ts0 (down ops.length)) (F9 C os0 (down ops.length)):=by
   intro dst G b;let r:Q8:=⟨.aS [],[],[],[]⟩;have W:=hL.step (r:=r) ho (.inr ⟨G,rfl⟩) dst (fun i hi hw=>⟨⟨fun id _ h=>(by cases h),fun id _ h=>(by cases h),fun id _ h=>(by cases h)⟩,.inl fun id h=>(by cases h)⟩);have z:fl (u7 R k r) (k+1) m:=fun i hi=>by
    by_cases h:i=k
    ·subst h;have V:u7 R i r i=r:=by unfold u7;rw[Ah rfl]
     rw[V];exact .inl ⟨rfl,rfl,rfl⟩
    ·have eo:u7 R k r i=R i:=by unfold u7;rw[Ag h]
     rw[eo];exact u i d9
   have V:u7 R k r k=r:=by unfold u7;rw[Ah rfl]
   have E:q8 ops (u7 R k r) ts0 (down (k+1))=bX o.dst (.aS []) (q8 ops R ts0 (down k)):=by
    simp only[down,q8,ec R k r k (AA _),ho,V];cases X:o.dst<;>simp[bX,X,r]
   have B:F9 (u7 R k r) os0 (down (k+1))=F9 R os0 (down k):=by
    simp only[down,F9,gX R k r k (AA _),V];rfl
   exact nt hT hE y M l (k+1) (u7 R k r) m N K L.step (by rw[E,B];exact b) W z hl' H ⟨_,_,by rw[E,B];exact jH (o:=o) S dst⟩
  unfold dz at h;split at h
  ·rename_i d hd;split at h
   ·rename_i hdl;have q:dM Γ.n o.dst=true:=by rw[hd];exact hdl
    rcases kf h with⟨G,h⟩|⟨G,h⟩
    ·refine gA d q _ G h fun av rd Z O J=>?_;split at J
     ·rename_i F;simp only[A7] at F;rw[force_eq,ea] at J;exact⟨F.1.1,F.1.2,F.2,by rw[hd];exact J⟩
     ·exact J.elim
    ·exact skip q G (by rw[hd];exact h)
   ·exact h.elim
  ·rename_i hd;have q:dM Γ.n o.dst=true:=by rw[hd];rfl
   rcases kf h with⟨G,h⟩|⟨G,h⟩
   ·refine gA 0 q _ G h fun av rd Z O J=>?_;split at J
    ·rename_i F;simp only[A7] at F;rw[ea] at J;exact⟨F.1.1,F.1.2,F.2,by rw[hd];exact J⟩
    ·exact J.elim
   ·exact skip q G (by rw[hd];exact h)
theorem j4.jo (x:E5 P tab) (t:Z6 P et) {n:Nat} (z:Γ.n=n) (y:P.follows .mixedOrders=true) {id:Nat} {l:Array Oper} (hd:X5 l.toList=true) {ts:Ts} {os:Os} {Q:Qt} (q r:Nat) (h:db ts fun ts=>dz P tab et n l.toList q r 0 l.toList ts os [] none (Q .normal)):j4 P Γ (.region id l true) ts os Q:=by
 subst z;rw[iA] at h;refine⟨fun a w A=>wp_region_any y ?_⟩;have c:=A.drew;obtain⟨R,v,u⟩:=nt (ops:=l.toList) (ts0:=ts) (os0:=os) x t q r l.toList 0 (fun _=>default) [] none _ (fun s B=>by cases B) h ⟨fun k o b=>absurd b d9,fun k o b=>absurd b d9,fun i k o _ b=>absurd b d9⟩ (fun i g=>absurd g d9) (fun j=>by rw[Nat.zero_add]) d9 ⟨_,_,c⟩;have:=pQ (Q:=fun e p w'=>∃ex f d,gC e ex/\Q ex f d/\o6 Γ f d p w') hd v (fun p w' m=>⟨.normal,_,_,trivial,u,m⟩) l.toList.length (Array.replicate l.size false) [] a _ (nG hd 0 (Nat.zero_le _)) (fun i g=>by
  have:i<l.size:=by simpa using g
  simp[this]) o5 o5 c
 simpa using this
end
end
section
variable {P:Program} {tab:F7} {et:Y9} {Γ:K5}
structure gy (P:Program) (Γ:K5) (ops l:List Oper) (ts:Ts) (os:Os) (Q:Qt):Prop where
 run:∀a w,o6 Γ ts os a w->wpList P ops.toArray (fun e a' w'=>∃ex ts' os',gC e ex/\Q ex ts' os'/\o6 Γ ts' os' a' w') l a w
theorem j4.ops {id:Nat} {l:Array Oper} {ts:Ts} {os:Os} {Q:Qt} (h:gy P Γ l.toList l.toList ts os Q):j4 P Γ (.region id l false) ts os Q :=
 ⟨fun a w b=>wp_region_list (by simpa using h.run a w b)⟩
theorem gy.done {ops:List Oper} {ts:Ts} {os:Os} {Q:Qt} (h:Q .normal ts os):gy P Γ ops [] ts os Q:=⟨fun a w b=>⟨.normal,ts,os,trivial,h,b⟩⟩
theorem j4.seq {x y:Code} {ts:Ts} {os:Os} {Q:Qt} (h:j4 P Γ x ts os fun e c b=>match e with
  |.normal=>j4 P Γ y c b Q
  |.exit id=>Q (.exit id) c b
  |.ret=>Q .ret c b):j4 P Γ (.seq x y) ts os Q:=by
 refine⟨fun a w j=>wp_seq (wp_mono (h.run a w j) fun e i w' ⟨ex,c,b,d,f,g⟩=>?_)⟩;cases e<;>cases ex<;>simp only[gC] at d<;>first|exact d.elim|skip
 ·exact f.run i w' g
 ·subst d;exact⟨.exit _,c,b,rfl,f,g⟩
 ·exact⟨.ret,c,b,trivial,f,g⟩
theorem j4.cut {ι:Type} (St:ι->Ts) (g:ι->Os) {x y:Code} {ts:Ts} {os:Os} {Q:Qt} (h:j4 P Γ x ts os fun e c b=>match e with
  |.normal=>∃i f,bj c b (St i) (g i) f
  |.exit id=>Q (.exit id) c b
  |.ret=>Q .ret c b) (m:∀i,((St i).all fun p=>AM p.1 Γ.n)=true) (k:∀i,j4 P Γ y (St i) (g i) Q):j4 P Γ (.seq x y) ts os Q:=by
 refine j4.seq ⟨fun a w o=>wp_mono (h.run a w o) fun e r w' ⟨ex,c,b,j,d,l⟩=>⟨ex,c,b,j,?_,l⟩⟩;cases ex with
 |normal =>
  obtain⟨i,f,q⟩:=d;exact j4.sub f q (m i) (k i)
 |exit id=>exact d
 |ret=>exact d
def Gh (Γ:K5) (ts:Ts) (os:Os) {ι:Type} (T:ι->Ts) (O:ι->Os):Prop:=∀a w,o6 Γ ts os a w->∃x,o6 Γ (T x) (O x) a w
theorem j4.gh {ι:Type} {c:Code} {ts:Ts} {os:Os} {T:ι->Ts} {O:ι->Os} {Q:Qt} (g:Gh Γ ts os T O) (h:∀x,j4 P Γ c (T x) (O x) Q):j4 P Γ c ts os Q :=
 ⟨fun a w b=>let ⟨x,d⟩:=g a w b;(h x).run a w d⟩
theorem gy.gh {ι:Type} {ops l:List Oper} {ts:Ts} {os:Os} {T:ι->Ts} {O:ι->Os} {Q:Qt} (g:Gh Γ ts os T O) (h:∀x,gy P Γ ops l (T x) (O x) Q):gy P Γ ops l ts os Q :=
 ⟨fun a w b=>let ⟨x,c⟩:=g a w b;(h x).run a w c⟩
structure O9 (Γ:K5) (ts:Ts) (os:Os) (Q:Qt):Prop where
 run:∀a w,o6 Γ ts os a w->∃ts' os',Q .normal ts' os'/\o6 Γ ts' os' a w
theorem O9.done {ts:Ts} {os:Os} {Q:Qt} (h:Q .normal ts os):O9 Γ ts os Q:=⟨fun a w b=>⟨ts,os,h,b⟩⟩
theorem O9.gh {ι:Type} {ts:Ts} {os:Os} {T:ι->Ts} {O:ι->Os} {Q:Qt} (g:Gh Γ ts os T O) (h:∀x,O9 Γ (T x) (O x) Q):O9 Γ ts os Q :=
 ⟨fun a w b=>let ⟨x,c⟩:=g a w b;(h x).run a w c⟩
theorem j4.snoc {c:Code} {ts:Ts} {os:Os} {Q:Qt} (h:j4 P Γ c ts os fun e d b=>match e with
  |.normal=>O9 Γ d b Q
  |.exit id=>Q (.exit id) d b
  |.ret=>Q .ret d b):j4 P Γ c ts os Q:=by
 refine⟨fun a w m=>wp_mono (h.run a w m) fun e l w' ⟨ex,d,b,f,g,i⟩=>?_⟩;cases e<;>cases ex<;>simp only[gC] at f<;>first|exact f.elim|skip
 ·obtain⟨k,j,n,o⟩:=g.run l w' i;exact⟨.normal,k,j,trivial,n,o⟩
 ·subst f;exact⟨.exit _,d,b,rfl,g,i⟩
 ·exact⟨.ret,d,b,trivial,g,i⟩
theorem Gh.of {ι:Type} {ts:Ts} {os need:Os} {ex:ι->Ts} {upd:ι->Os} {news:List Nat} (e:eg need os) (q:D5 news ts=true) (r:∀x,D6 news (upd x) os=true) (f:∀x,(news.all fun i=>(lk (upd x) i).isSome)=true)
  (I:∀c w,H7 c w need->(∃a,dS c w ts a)->∃x c',aF c w c' w need (upd x) news/\∀t y,lk (ex x) t=some y->∃z,lk ts t=some z/\∀v,Rd c w v z->Rd c' w v y):Gh Γ ts os (fun x=>ex x++ts) (fun x=>upd x++os):=by
 rintro a w ⟨c,⟨D,E,n,l,F⟩,G⟩;have m:=jG e;obtain⟨x,c',b,p⟩:=I c w (l.sub m) ⟨a,n⟩;have k:∀id∈news,(lk (upd x) id).isSome=true:=fun id h=>by simpa using AH.1 (f x) id h
 obtain⟨B,C⟩:=hP (r x);refine⟨x,c',⟨D,E,fun t y d=>?_,l.frame m b k B,F.post l m b k B⟩,fun id s=>?_⟩
 ·rw[C9] at d;cases o:lk (ex x) t with
  |some K =>
   rw[o] at d;simp at d;subst d;obtain⟨z,J,A⟩:=p t K o;obtain⟨v,g,j⟩:=n t z J;exact⟨v,g,A v j⟩
  |none =>
   rw[o] at d;simp at d;obtain⟨v,g,j⟩:=n t y d;exact⟨v,g,j.post b (l.sub m) (j9 q t y d)⟩
 ·have u:id ∉ news:=fun H=>by have:=C id H;omega
  have g:=b.ctx id u;have j:=G id s;exact⟨g.1.trans j.1,g.2.trans j.2⟩
theorem aF.same {c c':Ctx} {w:World} {need upd:Os} {news:List Nat} (h:H7 c w need) (a:c'.Φ=c.Φ) (e:∀id,id ∉ news->c'.μ id=c.μ id/\c'.hd id=c.hd id) (rep:∀id o,lk upd id=some o->bm c' w id o)
  (ab:∀id o b,lk upd id=some o->aK c' id o b->Touch c need upd b) (sep:∀id d o g b,id≠d->lk upd id=some o->lk upd d=some g->aK c' id o b->¬aK c' d g b):aF c w c' w need upd news:=by
 refine⟨rfl,rfl,rfl,AA _,fun b f=>by rw[a];exact f,fun b f=>.inl (by rw[a] at f;exact f),fun _ _ _=>rfl,e,⟨rep,fun id o b k j=>?_,sep,by rw[a];exact h.aX⟩,fun id o b k j=>.inr (ab id o b k j)⟩;obtain⟨i,g,l,_,m⟩:=ab id o b k j;rw[a];exact h.lt i g b l m
def dH {b:Type} {a i:Nat} {x o:b} (h:lk [(a,x)] i=some o):i=a/\o=x:=by
 rw[j5] at h;split at h
 ·rename_i e;cases h;exact⟨e.symm,rfl⟩
 ·cases h
def cR {c:Type} {a b i:Nat} {x y o:c} (h:lk [(a,x),(b,y)] i=some o):(i=a/\o=x)\/(i≠a/\i=b/\o=y):=by
 rw[j5] at h;split at h
 ·rename_i e;cases h;exact .inl ⟨e.symm,rfl⟩
 ·rename_i e;exact .inr ⟨fun h=>e h.symm,dH h⟩
def bt {j:Type} {a b c i:Nat} {x y z o:j} (h:lk [(a,x),(b,y),(c,z)] i=some o):(i=a/\o=x)\/(i≠a/\i=b/\o=y)\/(i≠a/\i≠b/\i=c/\o=z):=by
 rw[j5] at h;split at h
 ·rename_i e;cases h;exact .inl ⟨e.symm,rfl⟩
 ·rename_i e;rcases cR h with h|⟨d,f,g⟩
  ·exact .inr (.inl ⟨fun h=>e h.symm,h⟩)
  ·exact .inr (.inr ⟨fun h=>e h.symm,d,f,g⟩)
def Q7 {i j:Nat} (h:A4 i j=false):i≠j:=fun e=>by rw[e] at h;simp at h
theorem I5.xv {Φ:Nat->Prop} {w:World} {v:Value} {sz e:Nat} {ls:List (List AV)} (h:I5 Φ w v sz ls e):∃h:Hd,v=h.v/\h.n=ls.length/\h.n<=h.c/\h.c<=maxLen:=by
 obtain⟨css,d,f,g⟩:=h;obtain⟨A,cap,e1,a,b⟩:=d.head;exact⟨⟨A,css.length,cap⟩,e1,f,a,b⟩
theorem eb.cons {Φ:Nat->Prop} {w:World} {sz e:Nat} {p:Hd×List (List AV)} {l:List (Hd×List (List AV))}:eb Φ w sz (p::l) e↔I5 Φ w p.1.v sz p.2 e/\eb Φ w sz l e/\∀q∈l,∀b,p.1.v.ownBlock=some b->q.1.v.ownBlock=some b->False:=by
 constructor
 ·rintro⟨c,d⟩;obtain⟨f,g⟩:=List.pairwise_cons.1 d;exact⟨c p o5,⟨fun q a=>c q (by simp[a]),g⟩,f⟩
 ·rintro⟨c,d,f⟩;exact⟨fun q a=>by rcases AJ.1 a with rfl|a;exact c;exact d.1 q a,List.pairwise_cons.2 ⟨f,d.2⟩⟩
theorem Gh.open {ts:Ts} {os:Os} (t id j k:Nat) {sz e isz ie:Nat} {l:List (List AV×List (List AV))} (f:lk ts t=some (.bL id)) (D:lk os id=some (.nest sz e isz ie l)) (g:A4 j k=false) (m:A4 j id=false) (r:A4 k id=false)
  (B:D5 [j,k] ts=true) (C:∀z,D6 [j,k] [(j,.row sz (cS z) e),(k,.pins isz (dI z) ie),(id,.aI)] os=true) :
  Gh Γ ts os (fun _:{ z:List (Hd×List AV×List (List AV)) // z.map (·.2)=l }=>(t,.aG j)::ts) (fun z=>(j,.row sz (cS z.1) e)::(k,.pins isz (dI z.1) ie)::(id,.aI)::os):=by
 have g:=Q7 g;have m:=Q7 m;have r:=Q7 r;refine Gh.of (ι:={ z:List (Hd×List AV×List (List AV)) // z.map (·.2)=l }) (need:=[(id,.nest sz e isz ie l)]) (upd:=fun z=>[(j,.row sz (cS z.1) e),(k,.pins isz (dI z.1) ie),(id,.aI)]) (ex:=fun _=>[(t,.aG j)]) (news:=[j,k]) ⟨D,trivial⟩ B (fun _=>C _) (fun _=>by simp[j5,g]) fun c w aD _=>?_;obtain⟨h,z,e0,e1,Q,S,T⟩:=aD.rep id _ (j3 _ _ _);have x:(c.aE j h.v).hd j=h.v:=by simp[Ctx.aE]
 have H:∀b,(∃v∈cm (c.hd id),v.ownBlock=some b)->Touch c [(id,.nest sz e isz ie l)] [(j,.row sz (cS z) e),(k,.pins isz (dI z) ie),(id,.aI)] b:=fun b s=>⟨id,_,j3 _ _ _,by rw[G5 _ _ m,G5 _ _ r,j3];rfl,s⟩;rw[e0] at H;refine⟨⟨z,e1⟩,c.aE j h.v,aF.same aD rfl (fun i M=>⟨rfl,by simp[Ctx.aE,show i≠j by rintro rfl;simp at M]⟩) (fun i o f=>?_) (fun i o b f a=>?_) (fun i U o V b u f E a d=>?_),fun W y O=>?_⟩
 ·rcases bt f with⟨rfl,rfl⟩|⟨_,rfl,rfl⟩|⟨_,_,rfl,rfl⟩
  ·show I5 _ w ((c.aE i h.v).hd i) sz (cS z) e;rw[x];exact Q
  ·exact S
  ·trivial
 ·rcases bt f with⟨rfl,rfl⟩|⟨_,rfl,rfl⟩|⟨_,_,rfl,rfl⟩
  ·exact H b ⟨h.v,by simp[cm],by have:((c.aE i h.v).hd i).ownBlock=some b:=a;rwa [x] at this⟩
  ·obtain⟨p,F,s⟩:=a;obtain⟨q,G,rfl⟩:=AL.1 F;exact H b ⟨q.1.v,by show _∈(h.v::z.map (·.1.v)).toArray.toList;exact List.mem_cons_of_mem _ (AL.2 ⟨q,G,rfl⟩),s⟩
  ·exact a.elim
 ·have apart:∀b,((c.aE j h.v).hd j).ownBlock=some b->(∃p∈dI z,p.1.v.ownBlock=some b)->False:=fun b L ⟨p,F,s⟩=>by
   obtain⟨q,G,rfl⟩:=AL.1 F;exact T b q (by rwa [x] at L) G s
  rcases bt f with⟨rfl,rfl⟩|⟨_,rfl,rfl⟩|⟨_,_,rfl,rfl⟩<;>rcases bt E with⟨rfl,rfl⟩|⟨_,rfl,rfl⟩|⟨_,_,rfl,rfl⟩<;>first|exact u rfl|exact a.elim|exact d.elim|exact apart b a d|exact apart b d a
 ·obtain⟨rfl,rfl⟩:=dH O;refine⟨_,f,fun v N=>?_⟩;obtain⟨A,n,cap,vs,f1,I,J,K⟩:=N.fb;rw[e0] at I;have f5:h.v::z.map (·.1.v)=Value.slice A n cap::vs:=by simpa using I
  rw[f1];exact .aG (x.trans (List.cons.inj f5).1) J K
theorem Gh.close {ts:Ts} {os:Os} (t j k id:Nat) {sz e isz ie:Nat} {ls:List (List AV)} {K:List (Hd×List (List AV))} (z:List (Hd×List AV×List (List AV))) (d:lk ts t=some (.aG j)) (S:lk os j=some (.row sz ls e)) (T:lk os k=some (.pins isz K ie)) (B:ls=cS z) (C:K=dI z)
  {l:List (List AV×List (List AV))} (D:z.map (·.2)=l) (a:A4 j k=false) (f:A4 j id=false) (g:A4 k id=false) (F:D5 [id] ts=true) (G:D6 [id] [(id,.nest sz e isz ie l),(j,.aI),(k,.aI)] os=true) :
  Gh Γ ts os (fun _:Unit=>(t,.bL id)::ts) (fun _=>(id,.nest sz e isz ie l)::(j,.aI)::(k,.aI)::os):=by
 have a:=Q7 a;have f:=Q7 f;have g:=Q7 g;subst B C;refine Gh.of (need:=[(j,.row sz (cS z) e),(k,.pins isz (dI z) ie)]) (upd:=fun _=>[(id,.nest sz e isz ie l),(j,.aI),(k,.aI)]) (ex:=fun _=>[(t,.bL id)]) (news:=[id]) ⟨S,T,trivial⟩ F (fun _=>G) (fun _=>by simp[j5]) fun c w aD _=>?_;have I:lk [(j,Obj.row sz (cS z) e),(k,.pins isz (dI z) ie)] j=some (.row sz (cS z) e):=j3 _ _ _;have q:lk [(j,Obj.row sz (cS z) e),(k,.pins isz (dI z) ie)] k=some (.pins isz (dI z) ie):=by rw[G5 _ _ a,j3]
 have L:I5 c.Φ w (c.hd j) sz (cS z) e:=aD.rep j _ I;have rk:eb c.Φ w isz (dI z) ie:=aD.rep k _ q;obtain⟨h,e1,-⟩:=L.xv;have x:(c.aE id (.tuple (h.v::z.map (·.1.v)).toArray)).hd id=.tuple (h.v::z.map (·.1.v)).toArray:=by simp[Ctx.aE]
 refine⟨(),c.aE id (.tuple (h.v::z.map (·.1.v)).toArray),aF.same aD rfl (fun i Q=>⟨rfl,by simp[Ctx.aE,show i≠id by simpa using Q]⟩) (fun i o d=>?_) (fun i o b d s=>?_) (fun i W o X b r d H s E=>?_),fun Y y V=>?_⟩
 ·rcases bt d with⟨rfl,rfl⟩|⟨_,rfl,rfl⟩|⟨_,_,rfl,rfl⟩
  ·show gU _ w _ sz e isz ie l;rw[x];refine⟨h,z,rfl,D,e1▸L,rk,fun b p B C D=>?_⟩;exact aD.sep j k _ _ b a I q (show(c.hd j).ownBlock=some b by rw[e1];exact B) ⟨(p.1,p.2.2),AL.2 ⟨p,C,rfl⟩,D⟩
  ·trivial
  ·trivial
 ·rcases bt d with⟨rfl,rfl⟩|⟨_,rfl,rfl⟩|⟨_,_,rfl,rfl⟩
  ·obtain⟨v,u,J⟩:=s;rw[x] at u;have m:v∈h.v::z.map (·.1.v):=u;rcases AJ.1 m with rfl|m
   ·exact⟨j,_,I,by rw[G5 _ _ (Ne.symm f),j3];rfl,by show(c.hd j).ownBlock=_;rw[e1];exact J⟩
   ·obtain⟨p,U,rfl⟩:=AL.1 m;exact⟨k,_,q,by rw[G5 _ _ (Ne.symm g),G5 _ _ a,j3];rfl,⟨(p.1,p.2.2),AL.2 ⟨p,U,rfl⟩,J⟩⟩
  ·exact s.elim
  ·exact s.elim
 ·rcases bt d with⟨rfl,rfl⟩|⟨_,rfl,rfl⟩|⟨_,_,rfl,rfl⟩<;>rcases bt H with⟨rfl,rfl⟩|⟨_,rfl,rfl⟩|⟨_,_,rfl,rfl⟩<;>first|exact r rfl|exact s.elim|exact E.elim
 ·obtain⟨rfl,rfl⟩:=dH V;refine⟨_,d,fun v u=>?_⟩;obtain⟨A,n,cap,f1,M,N,O⟩:=u.aj;have f5:h.v=.slice A n cap:=e1.symm.trans M;rw[f1];exact .bL (vs:=z.map (·.1.v)) (by rw[x,f5]) N O
theorem Gh.gK {ts:Ts} {os:Os} (r i off j j':Nat) {sz e isz ie:Nat} {ls:List (List AV)} {l:List AV} (Q:lk os r=some (.row sz ls e)) (N:ls[i]?=some l) (O:l[off]?=some .a8) (m:A4 j j'=false) (f:A4 r j=false) (p:A4 r j'=false)
  (B:D5 [j,j'] ts=true) (C:D6 [j,j'] [(r,.row sz (ls.set i (l.set off (.aU (Hd.v ⟨none,0,0⟩)))) e),(j,.row isz [] ie),(j',.eqv j (Hd.v ⟨none,0,0⟩))] os=true) :
  Gh Γ ts os (fun _:Unit=>ts) (fun _=>(r,.row sz (ls.set i (l.set off (.aU (Hd.v ⟨none,0,0⟩)))) e)::(j,.row isz [] ie)::(j',.eqv j (Hd.v ⟨none,0,0⟩))::os):=by
 have m:=Q7 m;have f:=Q7 f;have p:=Q7 p;refine Gh.of (need:=[(r,.row sz ls e)]) (upd:=fun _=>[(r,.row sz (ls.set i (l.set off (.aU (Hd.v ⟨none,0,0⟩)))) e),(j,.row isz [] ie),(j',.eqv j (Hd.v ⟨none,0,0⟩))]) (ex:=fun _=>[]) (news:=[j,j']) ⟨Q,trivial⟩ B (fun _=>C) (fun _=>by simp[j5,m,f,p]) fun c w aD _=>?_;obtain⟨css,V,W,J⟩:=aD.rep r _ (j3 _ _ _);have e1:(c.aE j (Hd.v ⟨none,0,0⟩)).hd j=Hd.v ⟨none,0,0⟩:=by simp[Ctx.aE]
 have G:(c.aE j (Hd.v ⟨none,0,0⟩)).hd r=c.hd r:=by simp[Ctx.aE,f]
 have d:∀b,((c.aE j (Hd.v ⟨none,0,0⟩)).hd j).ownBlock=some b->False:=fun b H=>by
  rw[e1] at H;cases H
 refine⟨(),c.aE j (Hd.v ⟨none,0,0⟩),aF.same aD rfl (fun id D=>⟨rfl,by simp[Ctx.aE,show id≠j by rintro rfl;simp at D]⟩) (fun id o x=>?_) (fun id o b x s=>?_) (fun id U o Z b t x E s u=>?_),fun t' y T=>(by cases T)⟩
 ·rcases bt x with⟨rfl,rfl⟩|⟨_,rfl,rfl⟩|⟨_,_,rfl,rfl⟩
  ·show I5 c.Φ w ((c.aE j (Hd.v ⟨none,0,0⟩)).hd id) sz _ e;rw[G];refine⟨css,V,by simpa using W,fun n us z I q=>?_⟩;rw[AS] at q;split at q
   ·rename_i L;subst L;split at q
    ·cases q;have A:=J i us l I N;obtain⟨v,X,Y⟩:=A.get O;have S:v=Hd.v ⟨none,0,0⟩:=by cases Y;rfl
     have g:=(l8.af (c:=c) A).set off (v:=v) (a:=.aU (Hd.v ⟨none,0,0⟩)) (by rw[S];exact .fz (.aU _));have F:us.set off v=us:=by
      apply AY;intro k;rw[AS];split
      ·rename_i K;subst K;split
       ·exact X.symm
       ·rw[AW d9]
      ·rfl
     rw[F] at g;exact g.ew (jN.2 fun a M=>by
      rcases List.mem_or_eq_of_mem_set M with h|h
      ·exact jN.1 A.ids a h
      ·rw[h];rfl)
    ·cases q
   ·exact J n us z I q
  ·show I5 c.Φ w ((c.aE id (Hd.v ⟨none,0,0⟩)).hd id) isz [] ie;rw[e1];exact⟨[],⟨.inl ⟨rfl,rfl⟩,o5,o5⟩,rfl,fun i us l h=>by simp at h⟩
  ·exact e1
 ·rcases bt x with⟨rfl,rfl⟩|⟨_,rfl,rfl⟩|⟨_,_,rfl,rfl⟩
  ·exact⟨id,_,j3 _ _ _,by rw[j3];rfl,by have:((c.aE j (Hd.v ⟨none,0,0⟩)).hd id).ownBlock=some b:=s;rw[G] at this;exact this⟩
  ·exact(d b s).elim
  ·exact s.elim
 ·rcases bt x with⟨rfl,rfl⟩|⟨_,rfl,rfl⟩|⟨_,_,rfl,rfl⟩<;>rcases bt E with⟨rfl,rfl⟩|⟨_,rfl,rfl⟩|⟨_,_,rfl,rfl⟩<;>first|exact t rfl|exact s.elim|exact u.elim|exact d b s|exact d b u
theorem Gh.nil {ts:Ts} {os:Os} (t:Nat) {sz:Nat} {ls:List (List AV)} (y:lk ts t=some (.sl sz ls)):Gh Γ ts os (fun b:{ b:Bool // b=true->ls=[] }=>(t,.cz b.1)::ts) (fun _=>os):=by
 rintro a w ⟨c,⟨l,m,f,n,q⟩,s⟩;obtain⟨v,i,j⟩:=f t _ y;obtain⟨A,k,us,b,o,e1,B,C,h,_⟩:=j.ff;have u:Rd c w v (.cz A.isNone):=by rw[e1];exact .fz (.cz _ _ _)
 refine⟨⟨A.isNone,fun g=>?_⟩,c,⟨l,m,fun z x d=>?_,n,q⟩,s⟩
 ·cases ls with
  |nil=>rfl
  |cons p r =>
   rw[(h o5).1] at g;cases g
 ·rw[j5] at d;split at d
  ·rename_i e;subst e;cases d;exact⟨v,i,u⟩
  ·exact f z x d
theorem Gh.ay {ts:Ts} {os:Os} (d j':Nat) {sz e i off x:Nat} {ls:List (List AV)} (u:lk os d=some (.ay sz ls e i off x)) (a:A4 d j'=false) (l:D5 [j'] ts=true) (m:∀h:Hd,D6 [j'] [(d,.row sz (fV ls i off (.aU h.v)) e),(j',.eqv x h.v)] os=true) (r:A4 x j'=false) :
  Gh Γ ts os (fun _:Hd=>ts) (fun h=>(d,.row sz (fV ls i off (.aU h.v)) e)::(j',.eqv x h.v)::os):=by
 have a:=Q7 a;have r:=Q7 r;refine Gh.of (need:=[(d,.ay sz ls e i off x)]) (upd:=fun h:Hd=>[(d,.row sz (fV ls i off (.aU h.v)) e),(j',.eqv x h.v)]) (ex:=fun _=>[]) (news:=[j']) ⟨u,trivial⟩ l m (fun _=>by simp[j5,a]) fun c w aD _=>?_;obtain⟨v,t,q⟩:=aD.rep d _ (j3 _ _ _);obtain⟨A,n,cap,e1,s,-⟩:=t.aj;refine⟨⟨A,n,cap⟩,c,aF.same aD rfl (fun _ _=>⟨rfl,rfl⟩) (fun id o g=>?_) (fun id o b g j=>?_) (fun id B o C b f g p j k=>?_),fun D y z=>(by cases z)⟩
 ·rcases cR g with⟨rfl,rfl⟩|⟨_,rfl,rfl⟩
  ·rw[e1] at q;exact q
  ·exact s
 ·rcases cR g with⟨rfl,rfl⟩|⟨_,rfl,rfl⟩
  ·exact⟨id,_,j3 _ _ _,by rw[j3];rfl,j⟩
  ·exact j.elim
 ·rcases cR g with⟨rfl,rfl⟩|⟨_,rfl,rfl⟩<;>rcases cR p with⟨rfl,rfl⟩|⟨_,rfl,rfl⟩<;>first|exact f rfl|exact j.elim|exact k.elim
theorem Gh.bz {ts:Ts} {os:Os} (t id:Nat) {a:List AV} {e:Nat} (i:lk ts t=some (.ptr id 0)) (d:lk os id=some (.box a e)) (g:AV.aY a=[]):Gh Γ ts os (fun _:Unit=>(t,.fp a)::ts) (fun _=>(id,.aI)::os) :=
 Gh.of (need:=[(id,.box a e)]) (upd:=fun _=>[(id,.aI)]) (ex:=fun _=>[(t,.fp a)]) (news:=[]) ⟨d,trivial⟩ rfl (fun _=>rfl) (fun _=>rfl) fun c w aD _=>⟨(),c.fz [(id,.box a e)],aF.freeze aD,fun o y l=>by
  obtain⟨rfl,rfl⟩:=dH l;refine⟨_,i,fun v k=>?_⟩;obtain⟨us,m,n⟩:=aD.rep id _ (j3 _ _ _);rw[k.bR];refine .fz (.fp (us:=us) (.inr ⟨id,_,j3 _ _ _,rfl⟩) (fun j u h=>?_) (p8.mono (fun _ _=>rfl) (fun b f=>.inl f) (l8.ew g n)));unfold World.cell?;simp only[Nat.zero_add,m];simpa using h⟩
end
def sw (a b i:Nat):Nat:=bif A4 i a then b else bif A4 i b then a else i
def xa (a b i:Nat):sw a b i=if i=a then b else if i=b then a else i:=by
 unfold sw;by_cases h:i=a
 ·subst h;simp
 ·have e:A4 i a=false:=by cases q:A4 i a;rfl;exact absurd (AB q) h
  rw[e,Ag h];by_cases c:i=b
  ·subst c;simp
  ·have e:A4 i b=false:=by cases q:A4 i b;rfl;exact absurd (AB q) c
   rw[e,Ag c];rfl
def xp (a b i:Nat):sw a b (sw a b i)=i:=by
 simp only[xa];split<;>split<;>(try split)<;>omega
mutual
theorem AV.bT {d:Nat->Nat} (h:∀i,d (d i)=i):∀a:AV,(a.aw d).aw d=a
 |.ptr id off=>by simp only[AV.aw,h]
 |.aG id=>by simp only[AV.aw,h]
 |.bo id n=>by simp only[AV.aw,h]
 |.cI id n sz=>by simp only[AV.aw,h]
 |.ep id i sz off=>by simp only[AV.aw,h]
 |.mp id=>by simp only[AV.aw,h]
 |.bL id=>by simp only[AV.aw,h]
 |.np id=>by simp only[AV.aw,h]
 |.br b=>rfl
 |.fn f c=>by simp only[AV.aw,AV.ak h c]
 |.agg c=>by simp only[AV.aw,AV.ak h c]
 |.aS c=>by simp only[AV.aw,AV.ak h c]
 |.any=>rfl
 |.int n=>rfl
 |.ik k n=>rfl
 |.bool b=>rfl
 |.str s=>rfl
 |.sl sz ls=>rfl
 |.fp c=>rfl
 |.a8=>rfl
 |.cz b=>rfl
 |.aL=>rfl
 |.aA=>rfl
 |.aU v=>rfl
theorem AV.ak {b:Nat->Nat} (h:∀i,b (b i)=i):∀l:List AV,AV.bf b (AV.bf b l)=l
 |[]=>rfl
 |a::l=>by simp only[AV.bf,AV.bT h a,AV.ak h l]
end
theorem Obj.bT {ρ:Nat->Nat} (h:∀i,ρ (ρ i)=i) (o:Obj):(o.aw ρ).aw ρ=o:=by
 cases o
 case deep sz e cols l hs sh =>
  have e1:(hs.map fun p=>(p.1,p.2.1,ρ p.2.2)).map (fun p=>(p.1,p.2.1,ρ p.2.2))=hs:=by
   rw[List.map_map];have:(fun p:Nat×Nat×Nat=>(p.1,p.2.1,ρ p.2.2))∘(fun p=>(p.1,p.2.1,ρ p.2.2))=id:=by funext p;simp[h]
   rw[this,List.map_id]
  simp only[Obj.aw,h,e1]
 all_goals simp only[Obj.aw,AV.ak h,h]
def dQ (a:Nat->Nat):Os->Os
 |[]=>[]
 |(k,o)::r=>(a k,o.aw a)::dQ a r
theorem gY {a:Nat->Nat} (h:∀i,a (a i)=i) (id:Nat):∀os:Os,lk (dQ a os) id=(lk os (a id)).map (·.aw a)
 |[]=>rfl
 |(k,o)::r=>by
  rw[dQ,j5,j5];by_cases e:k=a id
  ·rw[Ah e,Ah (by rw[e,h])];rfl
  ·rw[Ag e,Ag (fun q=>e (by rw[<-q,h])),gY h id r]
def ng {a:Nat->Nat} (h:∀i,a (a i)=i) {id:Nat} {os:Os} {o:Obj} (b:lk (dQ a os) id=some o):lk os (a id)=some (o.aw a):=by
 rw[gY h,AZ] at b;obtain⟨x,c,rfl⟩:=b;rw[c,Obj.bT h]
theorem H7.other {c:Ctx} {w:World} {a:Nat->Nat} (h:∀i,a (a i)=i) {os g:Os} (j:∀id o,lk g id=some o->lk os (a id)=some (o.aw a)) (aD:H7 c w os):H7 (c.bD a) w g:=by
 refine⟨fun id o d=>(aD.rep _ _ (j id o d)).aW,fun id o b d k=>aD.lt _ _ b (j id o d) (e6.1 k),fun id f o p b n d m k l=>aD.sep (a id) (a f) _ _ b (fun e=>n ?_) (j id o d) (j f p m) (e6.1 k) (e6.1 l),aD.aX⟩;rw[<-h id,e,h]
def uy {c:Ctx} {a:Nat->Nat} (h:∀i,a (a i)=i) {need upd:Os} {b:Nat} (g:Touch (c.bD a) need upd b):Touch c (dQ a need) (dQ a upd) b:=by
 obtain⟨id,o,d,e,f⟩:=g;refine⟨a id,o.aw a,by rw[gY h,h,d];rfl,by rw[gY h,h];simpa using e,e6.1 f⟩
theorem Spec.swap {P:Program} {f:Nat} {need upd:Os} {ins:List AV} {av:AV} {news:List Nat} (hS:Spec P f need ins av upd news) (a:Nat->Nat) (h:∀i,a (a i)=i) :
  Spec P f (dQ a need) (AV.bf a ins) (av.aw a) (dQ a upd) (news.map a):=by
 obtain⟨u,x,y⟩:=hS;refine⟨u,fun id j=>?_,fun c w args aD E=>?_⟩
 ·obtain⟨i,B,rfl⟩:=AL.1 j;rw[gY h,h];simpa using x i B
 have n:H7 (c.bD a) w need:=aD.other h fun id o k=>by rw[gY h,h,k];rfl
 have m:∀d:Ctx,(d.bD a).bD a=d:=fun d=>by
  cases d;simp only[Ctx.bD,h]
 refine(y (c.bD a) w args n (l8.aW ins E)).mono fun e w' ⟨v,r,z,g,G⟩=>⟨v,r.bD a,z,?_,?_⟩
 ·have p:∀b,Touch (c.bD a) need upd b->Touch c (dQ a need) (dQ a upd) b:=fun b=>uy h;have H:∀b,Touch c (dQ a need) (dQ a upd) b->Touch (c.bD a) need upd b:=fun b ⟨id,o,s,q,t⟩=>by
   refine⟨a id,o.aw a,ng h s,?_,?_⟩
   ·rw[gY h] at q;simpa using q
   ·have:aK ((c.bD a).bD a) id o b:=by rw[m];exact t
    exact e6.1 this
  refine⟨g.bV,g.tape,g.output,g.size,g.aX,fun b l=>(g.aV b l).imp (fun h=>h) (.imp (fun h=>h) (p b)),fun b l D=>g.aP b l fun F=>D (p b F),fun id j=>?_,g.aD.other h fun id o k=>ng h k,fun id o b k A=>?_⟩
  ·have:=g.ctx (a id) fun C=>j (AL.2 ⟨a id,C,h id⟩);simpa only[Ctx.bD,h] using this
  ·exact(g.ab (a id) _ b (ng h k) (e6.1 A)).imp (fun h=>h) (p b)
 ·exact Rd.aW (av.aw a) (by rw[AV.bT h];exact G)
theorem Spec.sw {P:Program} {f:Nat} {need upd:Os} {ins:List AV} {av:AV} {news:List Nat} (hS:Spec P f need ins av upd news) (a b:Nat) :
  Spec P f (dQ (sw a b) need) (AV.bf (sw a b) ins) (av.aw (sw a b)) (dQ (sw a b) upd) (news.map (sw a b)):=hS.swap _ (xp a b)
def tab : F7:=[
  (1,⟨0,1,8,[.aA],[],0,0,.i64⟩),
  (2,⟨5,1,8,[.int 0],[],0,0,.i64⟩),
  (3,⟨5,1,8,[.int 0],[],0,0,.i64⟩),
  (4,⟨6,1,1,[.bool false],[],0,0,.i64⟩),
  (5,⟨5,1,1,[.ik .u8 0],[],0,0,.u8⟩),
  (6,⟨5,1,1,[.ik .u8 0],[],0,0,.u8⟩),
  (7,⟨1,4,24,[.int 0,.int 0,.bool false,.ik .u8 0],[(0,1,false),(1,1,false),(2,1,false),(3,1,false)],0,0,.i64⟩),
  (8,⟨1,4,24,[.int 0,.int 0,.bool false,.ik .u8 0],[(0,1,false),(1,1,false),(2,1,false),(3,1,false)],0,0,.i64⟩),
  (9,⟨4,1,16,[.str AE],[],0,0,.i64⟩),
  (10,⟨4,1,16,[.str AE],[],0,0,.i64⟩),
  (11,⟨4,1,16,[.str AE],[],0,0,.i64⟩),
  (12,⟨5,1,8,[.ik .u64 0],[],0,0,.u64⟩),
  (13,⟨1,2,24,[.str AE,.ik .u64 0],[(0,1,false),(1,1,false)],0,0,.i64⟩),
  (14,⟨1,2,24,[.str AE,.ik .u64 0],[(0,1,false),(1,1,false)],0,0,.i64⟩),
  (15,⟨7,1,8,[.aL],[],321,0,.i64⟩),
  (16,⟨7,1,8,[.aL],[],324,0,.i64⟩),
  (17,⟨7,1,8,[.aL],[],331,0,.i64⟩),
  (18,⟨1,1,8,[.aL],[(0,1,false)],0,0,.i64⟩),
  (19,⟨1,1,8,[.aL],[(0,1,false)],0,0,.i64⟩),
  (20,⟨9,1,16,[.br true],[],0,0,.i64⟩),
  (21,⟨5,1,4,[.ik .i32 0],[],0,0,.i32⟩),
  (22,⟨0,1,8,[.aA],[],0,0,.i64⟩),
  (23,⟨2,1,24,[.a8],[],34,0,.i64⟩),
  (24,⟨0,1,8,[.aA],[],0,0,.i64⟩),
  (25,⟨2,1,24,[.a8],[],55,0,.i64⟩),
  (26,⟨1,5,64,[.str AE,.int 0,.int 0,.int 0,.a8],[(0,1,false),(1,1,false),(2,1,false),(3,1,false),(4,1,false)],0,0,.i64⟩),
  (27,⟨1,5,64,[.str AE,.int 0,.int 0,.int 0,.a8],[(0,1,false),(1,1,false),(2,1,false),(3,1,false),(4,1,false)],0,0,.i64⟩),
  (28,⟨1,2,16,[.int 0,.int 0],[(0,1,false),(1,1,false)],0,0,.i64⟩),
  (29,⟨1,2,16,[.int 0,.int 0],[(0,1,false),(1,1,false)],0,0,.i64⟩),
  (30,⟨2,1,24,[.a8],[],29,0,.i64⟩),
  (31,⟨1,4,56,[.int 0,.int 0,.str AE,.a8],[(0,2,true),(2,1,false),(3,1,false)],0,0,.i64⟩),
  (32,⟨1,4,56,[.int 0,.int 0,.str AE,.a8],[(0,2,true),(2,1,false),(3,1,false)],0,0,.i64⟩),
  (33,⟨1,13,160,[.int 0,.str AE,.int 0,.int 0,.str AE,.int 0,.int 0,.int 0,.a8,.int 0,.int 0,.str AE,.a8],[(0,1,false),(1,1,false),(2,1,false),(3,1,false),(4,5,true),(9,4,true)],0,0,.i64⟩),
  (34,⟨1,13,160,[.int 0,.str AE,.int 0,.int 0,.str AE,.int 0,.int 0,.int 0,.a8,.int 0,.int 0,.str AE,.a8],[(0,1,false),(1,1,false),(2,1,false),(3,1,false),(4,5,true),(9,4,true)],0,0,.i64⟩),
  (35,⟨0,1,8,[.aA],[],0,0,.i64⟩),
  (36,⟨0,1,8,[.aA],[],0,0,.i64⟩),
  (37,⟨2,1,24,[.a8],[],81,0,.i64⟩),
  (38,⟨2,1,24,[.a8],[],92,0,.i64⟩),
  (39,⟨1,3,56,[.a8,.a8,.int 0],[(0,1,false),(1,1,false),(2,1,false)],0,0,.i64⟩),
  (40,⟨1,3,56,[.a8,.a8,.int 0],[(0,1,false),(1,1,false),(2,1,false)],0,0,.i64⟩),
  (41,⟨2,1,24,[.a8],[],159,0,.i64⟩),
  (42,⟨2,1,24,[.a8],[],162,0,.i64⟩),
  (43,⟨2,1,24,[.a8],[],5,0,.i64⟩),
  (44,⟨1,6,128,[.a8,.a8,.int 0,.a8,.a8,.a8],[(0,3,true),(3,1,false),(4,1,false),(5,1,false)],0,0,.i64⟩),
  (45,⟨1,6,128,[.a8,.a8,.int 0,.a8,.a8,.a8],[(0,3,true),(3,1,false),(4,1,false),(5,1,false)],0,0,.i64⟩),
  (46,⟨2,1,24,[.a8],[],51,0,.i64⟩),
  (47,⟨5,1,8,[.int 0],[],0,0,.i64⟩),
  (49,⟨0,1,8,[.aA],[],0,0,.i64⟩),
  (50,⟨1,4,32,[.int 0,.int 0,.int 0,.int 0],[(0,1,false),(1,1,false),(2,2,true)],0,0,.i64⟩),
  (51,⟨1,4,32,[.int 0,.int 0,.int 0,.int 0],[(0,1,false),(1,1,false),(2,2,true)],0,0,.i64⟩),
  (52,⟨0,1,8,[.aA],[],0,0,.i64⟩),
  (53,⟨0,1,8,[.aA],[],0,0,.i64⟩),
  (54,⟨1,5,48,[.int 0,.int 0,.int 0,.int 0,.str AE],[(0,1,false),(1,1,false),(2,1,false),(3,1,false),(4,1,false)],0,0,.i64⟩),
  (55,⟨1,5,48,[.int 0,.int 0,.int 0,.int 0,.str AE],[(0,1,false),(1,1,false),(2,1,false),(3,1,false),(4,1,false)],0,0,.i64⟩),
  (56,⟨0,1,8,[.aA],[],0,0,.i64⟩),
  (57,⟨0,1,8,[.aA],[],0,0,.i64⟩),
  (58,⟨0,1,8,[.aA],[],0,0,.i64⟩),
  (59,⟨0,1,8,[.aA],[],0,0,.i64⟩),
  (61,⟨0,1,8,[.aA],[],0,0,.i64⟩),
  (62,⟨0,1,8,[.aA],[],0,0,.i64⟩),
  (63,⟨0,1,8,[.aA],[],0,0,.i64⟩),
  (65,⟨0,1,8,[.aA],[],0,0,.i64⟩),
  (66,⟨0,1,8,[.aA],[],0,0,.i64⟩),
  (67,⟨0,1,8,[.aA],[],0,0,.i64⟩),
  (68,⟨0,1,8,[.aA],[],0,0,.i64⟩),
  (69,⟨0,1,8,[.aA],[],0,0,.i64⟩),
  (70,⟨0,1,8,[.aA],[],0,0,.i64⟩),
  (71,⟨2,1,24,[.a8],[],3,0,.i64⟩),
  (72,⟨0,1,8,[.aA],[],0,0,.i64⟩),
  (74,⟨0,1,8,[.aA],[],0,0,.i64⟩),
  (75,⟨0,1,8,[.aA],[],0,0,.i64⟩),
  (76,⟨0,1,8,[.aA],[],0,0,.i64⟩),
  (77,⟨0,1,8,[.aA],[],0,0,.i64⟩),
  (78,⟨8,1,8,[.any],[],4,9,.i64⟩),
  (79,⟨2,1,24,[.a8],[],27,0,.i64⟩),
  (80,⟨1,4,56,[.str AE,.int 0,.int 0,.a8],[(0,1,false),(1,1,false),(2,1,false),(3,1,false)],0,0,.i64⟩),
  (81,⟨1,4,56,[.str AE,.int 0,.int 0,.a8],[(0,1,false),(1,1,false),(2,1,false),(3,1,false)],0,1,.i64⟩),
  (82,⟨0,1,8,[.aA],[],0,0,.i64⟩),
  (83,⟨0,1,8,[.aA],[],0,0,.i64⟩),
  (84,⟨0,1,8,[.aA],[],0,0,.i64⟩),
  (85,⟨7,1,8,[.aL],[],40,0,.i64⟩),
  (86,⟨7,1,8,[.aL],[],27,0,.i64⟩),
  (87,⟨1,2,16,[.int 0,.int 0],[(0,1,false),(1,1,false)],0,0,.i64⟩),
  (88,⟨1,2,16,[.int 0,.int 0],[(0,1,false),(1,1,false)],0,0,.i64⟩),
  (89,⟨0,1,8,[.aA],[],0,0,.i64⟩),
  (90,⟨0,1,8,[.aA],[],0,0,.i64⟩),
  (91,⟨1,2,32,[.int 0,.a8],[(0,1,false),(1,1,false)],0,0,.i64⟩),
  (92,⟨1,2,32,[.int 0,.a8],[(0,1,false),(1,1,false)],0,1,.i64⟩),
  (93,⟨0,1,8,[.aA],[],0,0,.i64⟩),
  (94,⟨7,1,8,[.aL],[],99,0,.i64⟩),
  (95,⟨7,1,8,[.aL],[],97,0,.i64⟩),
  (96,⟨1,2,32,[.aL,.a8],[(0,1,false),(1,1,false)],0,0,.i64⟩),
  (97,⟨1,2,32,[.aL,.a8],[(0,1,false),(1,1,false)],0,0,.i64⟩),
  (98,⟨1,2,32,[.aL,.a8],[(0,2,true)],0,0,.i64⟩),
  (99,⟨1,2,32,[.aL,.a8],[(0,2,true)],0,0,.i64⟩),
  (100,⟨0,1,8,[.aA],[],0,0,.i64⟩),
  (101,⟨0,1,8,[.aA],[],0,0,.i64⟩),
  (102,⟨0,1,8,[.aA],[],0,0,.i64⟩),
  (103,⟨0,1,8,[.aA],[],0,0,.i64⟩),
  (104,⟨0,1,8,[.aA],[],0,0,.i64⟩),
  (105,⟨7,1,8,[.aL],[],107,0,.i64⟩),
  (106,⟨1,2,24,[.str AE,.bool false],[(0,1,false),(1,1,false)],0,0,.i64⟩),
  (107,⟨1,2,24,[.str AE,.bool false],[(0,1,false),(1,1,false)],0,0,.i64⟩),
  (108,⟨2,1,24,[.a8],[],9,0,.i64⟩),
  (110,⟨0,1,8,[.aA],[],0,0,.i64⟩),
  (111,⟨7,1,8,[.aL],[],113,0,.i64⟩),
  (112,⟨1,2,32,[.a8,.bool false],[(0,1,false),(1,1,false)],0,0,.i64⟩),
  (113,⟨1,2,32,[.a8,.bool false],[(0,1,false),(1,1,false)],0,0,.i64⟩),
  (114,⟨0,1,8,[.aA],[],0,0,.i64⟩),
  (115,⟨0,1,8,[.aA],[],0,0,.i64⟩),
  (116,⟨0,1,8,[.aA],[],0,0,.i64⟩),
  (117,⟨0,1,8,[.aA],[],0,0,.i64⟩),
  (118,⟨0,1,8,[.aA],[],0,0,.i64⟩),
  (119,⟨0,1,8,[.aA],[],0,0,.i64⟩),
  (120,⟨0,1,8,[.aA],[],0,0,.i64⟩),
  (121,⟨0,1,8,[.aA],[],0,0,.i64⟩),
  (122,⟨0,1,8,[.aA],[],0,0,.i64⟩),
  (124,⟨0,1,8,[.aA],[],0,0,.i64⟩),
  (125,⟨0,1,8,[.aA],[],0,0,.i64⟩),
  (126,⟨7,1,8,[.aL],[],45,0,.i64⟩),
  (127,⟨0,1,8,[.aA],[],0,0,.i64⟩),
  (128,⟨0,1,8,[.aA],[],0,0,.i64⟩),
  (129,⟨0,1,8,[.aA],[],0,0,.i64⟩),
  (130,⟨7,1,8,[.aL],[],79,0,.i64⟩),
  (131,⟨0,1,8,[.aA],[],0,0,.i64⟩),
  (132,⟨0,1,8,[.aA],[],0,0,.i64⟩),
  (133,⟨0,1,8,[.aA],[],0,0,.i64⟩),
  (134,⟨0,1,8,[.aA],[],0,0,.i64⟩),
  (136,⟨0,1,8,[.aA],[],0,0,.i64⟩),
  (137,⟨0,1,8,[.aA],[],0,0,.i64⟩),
  (139,⟨0,1,8,[.aA],[],0,0,.i64⟩),
  (140,⟨0,1,8,[.aA],[],0,0,.i64⟩),
  (141,⟨0,1,8,[.aA],[],0,0,.i64⟩),
  (142,⟨9,1,16,[.br true],[],0,0,.i64⟩),
  (143,⟨9,1,16,[.br true],[],0,0,.i64⟩),
  (145,⟨0,1,8,[.aA],[],0,0,.i64⟩),
  (146,⟨0,1,8,[.aA],[],0,0,.i64⟩),
  (147,⟨7,1,8,[.aL],[],5,0,.i64⟩),
  (148,⟨0,1,8,[.aA],[],0,0,.i64⟩),
  (149,⟨0,1,8,[.aA],[],0,0,.i64⟩),
  (150,⟨1,4,32,[.int 0,.int 0,.int 0,.int 0],[(0,2,true),(2,1,false),(3,1,false)],0,0,.i64⟩),
  (151,⟨1,4,32,[.int 0,.int 0,.int 0,.int 0],[(0,2,true),(2,1,false),(3,1,false)],0,0,.i64⟩),
  (152,⟨1,11,152,[.a8,.a8,.int 0,.int 0,.int 0,.int 0,.int 0,.a8,.a8,.int 0,.int 0],[(0,3,true),(3,4,true),(7,1,false),(8,1,false),(9,1,false),(10,1,false)],0,0,.i64⟩),
  (153,⟨1,11,152,[.a8,.a8,.int 0,.int 0,.int 0,.int 0,.int 0,.a8,.a8,.int 0,.int 0],[(0,3,true),(3,4,true),(7,1,false),(8,1,false),(9,1,false),(10,1,false)],0,0,.i64⟩),
  (154,⟨0,1,8,[.aA],[],0,0,.i64⟩),
  (155,⟨1,3,32,[.int 0,.str AE,.int 0],[(0,1,false),(1,1,false),(2,1,false)],0,0,.i64⟩),
  (156,⟨1,3,32,[.int 0,.str AE,.int 0],[(0,1,false),(1,1,false),(2,1,false)],0,0,.i64⟩),
  (157,⟨2,1,24,[.a8],[],167,0,.i64⟩),
  (158,⟨1,6,72,[.int 0,.str AE,.int 0,.int 0,.bool false,.a8],[(0,3,true),(3,1,false),(4,1,false),(5,1,false)],0,0,.i64⟩),
  (159,⟨1,6,72,[.int 0,.str AE,.int 0,.int 0,.bool false,.a8],[(0,3,true),(3,1,false),(4,1,false),(5,1,false)],0,0,.i64⟩),
  (160,⟨0,1,8,[.aA],[],0,0,.i64⟩),
  (161,⟨1,4,56,[.int 0,.str AE,.int 0,.a8],[(0,3,true),(3,1,false)],0,0,.i64⟩),
  (162,⟨1,4,56,[.int 0,.str AE,.int 0,.a8],[(0,3,true),(3,1,false)],0,0,.i64⟩),
  (163,⟨0,1,8,[.aA],[],0,0,.i64⟩),
  (164,⟨0,1,8,[.aA],[],0,0,.i64⟩),
  (165,⟨0,1,8,[.aA],[],0,0,.i64⟩),
  (166,⟨1,2,16,[.int 0,.int 0],[(0,1,false),(1,1,false)],0,0,.i64⟩),
  (167,⟨1,2,16,[.int 0,.int 0],[(0,1,false),(1,1,false)],0,0,.i64⟩),
  (168,⟨0,1,8,[.aA],[],0,0,.i64⟩),
  (169,⟨0,1,8,[.aA],[],0,0,.i64⟩),
  (171,⟨0,1,8,[.aA],[],0,0,.i64⟩),
  (173,⟨0,1,8,[.aA],[],0,0,.i64⟩),
  (174,⟨0,1,8,[.aA],[],0,0,.i64⟩),
  (175,⟨2,1,24,[.a8],[],213,0,.i64⟩),
  (176,⟨0,1,8,[.aA],[],0,0,.i64⟩),
  (177,⟨0,1,8,[.aA],[],0,0,.i64⟩),
  (178,⟨0,1,8,[.aA],[],0,0,.i64⟩),
  (179,⟨5,1,8,[.ik .u64 0],[],0,0,.u64⟩),
  (180,⟨0,1,8,[.aA],[],0,0,.i64⟩),
  (182,⟨0,1,8,[.aA],[],0,0,.i64⟩),
  (183,⟨0,1,8,[.aA],[],0,0,.i64⟩),
  (184,⟨3,2,16,[.int 0,.int 0],[],3,2,.i64⟩),
  (185,⟨2,1,24,[.a8],[],184,0,.i64⟩),
  (186,⟨0,1,8,[.aA],[],0,0,.i64⟩),
  (188,⟨0,1,8,[.aA],[],0,0,.i64⟩),
  (189,⟨0,1,8,[.aA],[],0,0,.i64⟩),
  (191,⟨0,1,8,[.aA],[],0,0,.i64⟩),
  (192,⟨0,1,8,[.aA],[],0,0,.i64⟩),
  (193,⟨7,1,8,[.aL],[],198,0,.i64⟩),
  (195,⟨0,1,8,[.aA],[],0,0,.i64⟩),
  (196,⟨2,1,24,[.a8],[],156,0,.i64⟩),
  (197,⟨1,10,144,[.a8,.a8,.int 0,.int 0,.int 0,.int 0,.int 0,.int 0,.a8,.a8],[(0,3,true),(3,1,false),(4,1,false),(5,1,false),(6,1,false),(7,1,false),(8,1,false),(9,1,false)],0,0,.i64⟩),
  (198,⟨1,10,144,[.a8,.a8,.int 0,.int 0,.int 0,.int 0,.int 0,.int 0,.a8,.a8],[(0,3,true),(3,1,false),(4,1,false),(5,1,false),(6,1,false),(7,1,false),(8,1,false),(9,1,false)],0,0,.i64⟩),
  (199,⟨0,1,8,[.aA],[],0,0,.i64⟩),
  (200,⟨0,1,8,[.aA],[],0,0,.i64⟩),
  (201,⟨0,1,8,[.aA],[],0,0,.i64⟩),
  (202,⟨0,1,8,[.aA],[],0,0,.i64⟩),
  (203,⟨0,1,8,[.aA],[],0,0,.i64⟩),
  (204,⟨0,1,8,[.aA],[],0,0,.i64⟩),
  (205,⟨0,1,8,[.aA],[],0,0,.i64⟩),
  (206,⟨0,1,8,[.aA],[],0,0,.i64⟩),
  (207,⟨0,1,8,[.aA],[],0,0,.i64⟩),
  (208,⟨0,1,8,[.aA],[],0,0,.i64⟩),
  (209,⟨0,1,8,[.aA],[],0,0,.i64⟩),
  (211,⟨0,1,8,[.aA],[],0,0,.i64⟩),
  (212,⟨1,5,64,[.int 0,.str AE,.int 0,.int 0,.a8],[(0,1,false),(1,1,false),(2,1,false),(3,1,false),(4,1,false)],0,0,.i64⟩),
  (213,⟨1,5,64,[.int 0,.str AE,.int 0,.int 0,.a8],[(0,1,false),(1,1,false),(2,1,false),(3,1,false),(4,1,false)],0,0,.i64⟩),
  (215,⟨0,1,8,[.aA],[],0,0,.i64⟩),
  (216,⟨0,1,8,[.aA],[],0,0,.i64⟩),
  (217,⟨0,1,8,[.aA],[],0,0,.i64⟩),
  (218,⟨5,1,8,[.int 0],[],0,0,.i64⟩),
  (220,⟨0,1,8,[.aA],[],0,0,.i64⟩),
  (221,⟨0,1,8,[.aA],[],0,0,.i64⟩),
  (222,⟨0,1,8,[.aA],[],0,0,.i64⟩),
  (223,⟨0,1,8,[.aA],[],0,0,.i64⟩),
  (224,⟨0,1,8,[.aA],[],0,0,.i64⟩),
  (225,⟨5,1,4,[.ik .u32 0],[],0,0,.u32⟩),
  (226,⟨0,1,8,[.aA],[],0,0,.i64⟩),
  (227,⟨5,1,8,[.ik .u64 0],[],0,0,.u64⟩),
  (229,⟨0,1,8,[.aA],[],0,0,.i64⟩),
  (230,⟨3,24,24,[.ik .u8 0,.ik .u8 0,.ik .u8 0,.ik .u8 0,.ik .u8 0,.ik .u8 0,.ik .u8 0,.ik .u8 0,.ik .u8 0,.ik .u8 0,.ik .u8 0,.ik .u8 0,.ik .u8 0,.ik .u8 0,.ik .u8 0,.ik .u8 0,.ik .u8 0,.ik .u8 0,.ik .u8 0,.ik .u8 0,.ik .u8 0,.ik .u8 0,.ik .u8 0,.ik .u8 0],[],5,24,.i64⟩),
  (231,⟨0,1,8,[.aA],[],0,0,.i64⟩),
  (233,⟨0,1,8,[.aA],[],0,0,.i64⟩),
  (234,⟨5,1,8,[.int 0],[],0,0,.i64⟩),
  (236,⟨0,1,8,[.aA],[],0,0,.i64⟩),
  (237,⟨7,1,8,[.aL],[],280,0,.i64⟩),
  (238,⟨0,1,8,[.aA],[],0,0,.i64⟩),
  (239,⟨0,1,8,[.aA],[],0,0,.i64⟩),
  (240,⟨0,1,8,[.aA],[],0,0,.i64⟩),
  (241,⟨0,1,8,[.aA],[],0,0,.i64⟩),
  (242,⟨0,1,8,[.aA],[],0,0,.i64⟩),
  (243,⟨0,1,8,[.aA],[],0,0,.i64⟩),
  (244,⟨0,1,8,[.aA],[],0,0,.i64⟩),
  (245,⟨0,1,8,[.aA],[],0,0,.i64⟩),
  (246,⟨0,1,8,[.aA],[],0,0,.i64⟩),
  (247,⟨0,1,8,[.aA],[],0,0,.i64⟩),
  (248,⟨7,1,8,[.aL],[],251,0,.i64⟩),
  (249,⟨2,1,24,[.a8],[],288,0,.i64⟩),
  (250,⟨1,10,96,[.aL,.aA,.aA,.int 0,.int 0,.int 0,.a8,.int 0,.int 0,.int 0],[(0,1,false),(1,1,false),(2,1,false),(3,1,false),(4,1,false),(5,1,false),(6,1,false),(7,2,true),(9,1,false)],0,0,.i64⟩),
  (251,⟨1,10,96,[.aL,.aA,.aA,.int 0,.int 0,.int 0,.a8,.int 0,.int 0,.int 0],[(0,1,false),(1,1,false),(2,1,false),(3,1,false),(4,1,false),(5,1,false),(6,1,false),(7,2,true),(9,1,false)],0,0,.i64⟩),
  (252,⟨0,1,8,[.aA],[],0,0,.i64⟩),
  (253,⟨0,1,8,[.aA],[],0,0,.i64⟩),
  (254,⟨0,1,8,[.aA],[],0,0,.i64⟩),
  (255,⟨0,1,8,[.aA],[],0,0,.i64⟩),
  (256,⟨0,1,8,[.aA],[],0,0,.i64⟩),
  (257,⟨0,1,8,[.aA],[],0,0,.i64⟩),
  (258,⟨7,1,8,[.aL],[],260,0,.i64⟩),
  (259,⟨1,6,96,[.aL,.aL,.a8,.int 0,.a8,.a8],[(0,1,false),(1,1,false),(2,1,false),(3,1,false),(4,1,false),(5,1,false)],0,0,.i64⟩),
  (260,⟨1,6,96,[.aL,.aL,.a8,.int 0,.a8,.a8],[(0,1,false),(1,1,false),(2,1,false),(3,1,false),(4,1,false),(5,1,false)],0,0,.i64⟩),
  (261,⟨0,1,8,[.aA],[],0,0,.i64⟩),
  (262,⟨0,1,8,[.aA],[],0,0,.i64⟩),
  (263,⟨0,1,8,[.aA],[],0,0,.i64⟩),
  (264,⟨0,1,8,[.aA],[],0,0,.i64⟩),
  (265,⟨0,1,8,[.aA],[],0,0,.i64⟩),
  (266,⟨5,1,8,[.ik .u64 0],[],0,0,.u64⟩),
  (267,⟨0,1,8,[.aA],[],0,0,.i64⟩),
  (268,⟨0,1,8,[.aA],[],0,0,.i64⟩),
  (269,⟨0,1,8,[.aA],[],0,0,.i64⟩),
  (270,⟨7,1,8,[.aL],[],3,0,.i64⟩),
  (271,⟨0,1,8,[.aA],[],0,0,.i64⟩),
  (272,⟨0,1,8,[.aA],[],0,0,.i64⟩),
  (273,⟨3,20,160,[.ik .u64 0,.ik .u64 0,.ik .u64 0,.ik .u64 0,.ik .u64 0,.ik .u64 0,.ik .u64 0,.ik .u64 0,.ik .u64 0,.ik .u64 0,.ik .u64 0,.ik .u64 0,.ik .u64 0,.ik .u64 0,.ik .u64 0,.ik .u64 0,.ik .u64 0,.ik .u64 0,.ik .u64 0,.ik .u64 0],[],227,20,.i64⟩),
  (274,⟨3,65,65,[.ik .u8 0,.ik .u8 0,.ik .u8 0,.ik .u8 0,.ik .u8 0,.ik .u8 0,.ik .u8 0,.ik .u8 0,.ik .u8 0,.ik .u8 0,.ik .u8 0,.ik .u8 0,.ik .u8 0,.ik .u8 0,.ik .u8 0,.ik .u8 0,.ik .u8 0,.ik .u8 0,.ik .u8 0,.ik .u8 0,.ik .u8 0,.ik .u8 0,.ik .u8 0,.ik .u8 0,.ik .u8 0,.ik .u8 0,.ik .u8 0,.ik .u8 0,.ik .u8 0,.ik .u8 0,.ik .u8 0,.ik .u8 0,.ik .u8 0,.ik .u8 0,.ik .u8 0,.ik .u8 0,.ik .u8 0,.ik .u8 0,.ik .u8 0,.ik .u8 0,.ik .u8 0,.ik .u8 0,.ik .u8 0,.ik .u8 0,.ik .u8 0,.ik .u8 0,.ik .u8 0,.ik .u8 0,.ik .u8 0,.ik .u8 0,.ik .u8 0,.ik .u8 0,.ik .u8 0,.ik .u8 0,.ik .u8 0,.ik .u8 0,.ik .u8 0,.ik .u8 0,.ik .u8 0,.ik .u8 0,.ik .u8 0,.ik .u8 0,.ik .u8 0,.ik .u8 0,.ik .u8 0],[],5,65,.i64⟩),
  (275,⟨0,1,8,[.aA],[],0,0,.i64⟩),
  (277,⟨0,1,8,[.aA],[],0,0,.i64⟩),
  (278,⟨0,1,8,[.aA],[],0,0,.i64⟩),
  (279,⟨1,3,48,[.str AE,.str AE,.br true],[(0,1,false),(1,1,false),(2,1,false)],0,0,.i64⟩),
  (280,⟨1,3,48,[.str AE,.str AE,.br true],[(0,1,false),(1,1,false),(2,1,false)],0,0,.i64⟩),
  (281,⟨0,1,8,[.aA],[],0,0,.i64⟩),
  (283,⟨0,1,8,[.aA],[],0,0,.i64⟩),
  (284,⟨0,1,8,[.aA],[],0,0,.i64⟩),
  (285,⟨0,1,8,[.aA],[],0,0,.i64⟩),
  (286,⟨0,1,8,[.aA],[],0,0,.i64⟩),
  (287,⟨1,10,144,[.int 0,.int 0,.bool false,.a8,.int 0,.int 0,.a8,.a8,.a8,.int 0],[(0,1,false),(1,1,false),(2,1,false),(3,1,false),(4,2,true),(6,1,false),(7,1,false),(8,1,false),(9,1,false)],0,0,.i64⟩),
  (288,⟨1,10,144,[.int 0,.int 0,.bool false,.a8,.int 0,.int 0,.a8,.a8,.a8,.int 0],[(0,1,false),(1,1,false),(2,1,false),(3,1,false),(4,2,true),(6,1,false),(7,1,false),(8,1,false),(9,1,false)],0,1,.i64⟩),
  (289,⟨7,1,8,[.aL],[],288,0,.i64⟩),
  (290,⟨0,1,8,[.aA],[],0,0,.i64⟩),
  (291,⟨0,1,8,[.aA],[],0,0,.i64⟩),
  (292,⟨0,1,8,[.aA],[],0,0,.i64⟩),
  (293,⟨0,1,8,[.aA],[],0,0,.i64⟩),
  (294,⟨0,1,8,[.aA],[],0,0,.i64⟩),
  (295,⟨7,1,8,[.aL],[],159,0,.i64⟩),
  (296,⟨0,1,8,[.aA],[],0,0,.i64⟩),
  (297,⟨0,1,8,[.aA],[],0,0,.i64⟩),
  (298,⟨0,1,8,[.aA],[],0,0,.i64⟩),
  (299,⟨0,1,8,[.aA],[],0,0,.i64⟩),
  (300,⟨0,1,8,[.aA],[],0,0,.i64⟩),
  (301,⟨0,1,8,[.aA],[],0,0,.i64⟩),
  (302,⟨7,1,8,[.aL],[],266,0,.i64⟩),
  (303,⟨0,1,8,[.aA],[],0,0,.i64⟩),
  (304,⟨0,1,8,[.aA],[],0,0,.i64⟩),
  (305,⟨0,1,8,[.aA],[],0,0,.i64⟩),
  (306,⟨7,1,8,[.aL],[],308,0,.i64⟩),
  (307,⟨1,1,16,[.str AE],[(0,1,false)],0,0,.i64⟩),
  (308,⟨1,1,16,[.str AE],[(0,1,false)],0,0,.i64⟩),
  (309,⟨0,1,8,[.aA],[],0,0,.i64⟩),
  (310,⟨0,1,8,[.aA],[],0,0,.i64⟩),
  (311,⟨0,1,8,[.aA],[],0,0,.i64⟩),
  (312,⟨0,1,8,[.aA],[],0,0,.i64⟩),
  (313,⟨0,1,8,[.aA],[],0,0,.i64⟩),
  (314,⟨0,1,8,[.aA],[],0,0,.i64⟩),
  (315,⟨0,1,8,[.aA],[],0,0,.i64⟩),
  (316,⟨3,32,32,[.ik .u8 0,.ik .u8 0,.ik .u8 0,.ik .u8 0,.ik .u8 0,.ik .u8 0,.ik .u8 0,.ik .u8 0,.ik .u8 0,.ik .u8 0,.ik .u8 0,.ik .u8 0,.ik .u8 0,.ik .u8 0,.ik .u8 0,.ik .u8 0,.ik .u8 0,.ik .u8 0,.ik .u8 0,.ik .u8 0,.ik .u8 0,.ik .u8 0,.ik .u8 0,.ik .u8 0,.ik .u8 0,.ik .u8 0,.ik .u8 0,.ik .u8 0,.ik .u8 0,.ik .u8 0,.ik .u8 0,.ik .u8 0],[],5,32,.i64⟩),
  (317,⟨3,64,64,[.ik .u8 0,.ik .u8 0,.ik .u8 0,.ik .u8 0,.ik .u8 0,.ik .u8 0,.ik .u8 0,.ik .u8 0,.ik .u8 0,.ik .u8 0,.ik .u8 0,.ik .u8 0,.ik .u8 0,.ik .u8 0,.ik .u8 0,.ik .u8 0,.ik .u8 0,.ik .u8 0,.ik .u8 0,.ik .u8 0,.ik .u8 0,.ik .u8 0,.ik .u8 0,.ik .u8 0,.ik .u8 0,.ik .u8 0,.ik .u8 0,.ik .u8 0,.ik .u8 0,.ik .u8 0,.ik .u8 0,.ik .u8 0,.ik .u8 0,.ik .u8 0,.ik .u8 0,.ik .u8 0,.ik .u8 0,.ik .u8 0,.ik .u8 0,.ik .u8 0,.ik .u8 0,.ik .u8 0,.ik .u8 0,.ik .u8 0,.ik .u8 0,.ik .u8 0,.ik .u8 0,.ik .u8 0,.ik .u8 0,.ik .u8 0,.ik .u8 0,.ik .u8 0,.ik .u8 0,.ik .u8 0,.ik .u8 0,.ik .u8 0,.ik .u8 0,.ik .u8 0,.ik .u8 0,.ik .u8 0,.ik .u8 0,.ik .u8 0,.ik .u8 0,.ik .u8 0],[],5,64,.i64⟩),
  (319,⟨0,1,8,[.aA],[],0,0,.i64⟩),
  (320,⟨1,4,40,[.aL,.aL,.aL,.str AE],[(0,1,false),(1,1,false),(2,1,false),(3,1,false)],0,0,.i64⟩),
  (321,⟨1,4,40,[.aL,.aL,.aL,.str AE],[(0,1,false),(1,1,false),(2,1,false),(3,1,false)],0,0,.i64⟩),
  (322,⟨3,0,0,[],[],16,0,.i64⟩),
  (323,⟨1,0,0,[],[(0,0,true)],0,0,.i64⟩),
  (324,⟨1,0,0,[],[(0,0,true)],0,0,.i64⟩),
  (325,⟨5,1,1,[.ik .u8 0],[],0,0,.u8⟩),
  (326,⟨5,1,1,[.ik .u8 0],[],0,0,.u8⟩),
  (327,⟨0,1,8,[.aA],[],0,0,.i64⟩),
  (328,⟨5,1,4,[.ik .i32 0],[],0,0,.i32⟩),
  (329,⟨5,1,4,[.ik .i32 0],[],0,0,.i32⟩),
  (330,⟨1,11,48,[.ik .u64 0,.ik .u64 0,.ik .u32 0,.ik .u8 0,.ik .u8 0,.ik .u8 0,.ik .u8 0,.aA,.aL,.ik .i32 0,.ik .i32 0],[(0,1,false),(1,1,false),(2,1,false),(3,1,false),(4,1,false),(5,1,false),(6,1,false),(7,1,false),(8,1,false),(9,1,false),(10,1,false)],0,0,.i64⟩),
  (331,⟨1,11,48,[.ik .u64 0,.ik .u64 0,.ik .u32 0,.ik .u8 0,.ik .u8 0,.ik .u8 0,.ik .u8 0,.aA,.aL,.ik .i32 0,.ik .i32 0],[(0,1,false),(1,1,false),(2,1,false),(3,1,false),(4,1,false),(5,1,false),(6,1,false),(7,1,false),(8,1,false),(9,1,false),(10,1,false)],0,0,.i64⟩)]
def gL : E5 prog tab:=E5.of (by kernel_rfl)
def cN : Y9 :=
 (156,[.int .i64,.str,.int .i64]) ::
 (167,[.int .i64,.int .i64]) ::
 (29,[.int .i64,.int .i64]) ::
 (88,[.int .i64,.int .i64]) ::
 (151,[.int .i64,.int .i64,.int .i64,.int .i64]) ::
 (51,[.int .i64,.int .i64,.int .i64,.int .i64]) ::
 (55,[.int .i64,.int .i64,.int .i64,.int .i64,.str]) ::
 []
def mg : Z6 prog cN:=Z6.of o7
def mixed : prog.follows .mixedOrders=true:=o7
def go {a:K5} {n:Nat} (b:a.n=n) {c:Code} {ts:Ts} {os:Os} {Q:Qt} (h:dA prog tab cN a n c ts os Q):j4 prog a c ts os Q:=by
 subst b;exact oB gL mg c ts os Q h
def c8 {a:K5} {n:Nat} (b:a.n=n) {x y:Code} {ts:Ts} {os:Os} {Q:Qt} (h:dA prog tab cN a n (.seq x y) ts os Q):j4 prog a (.seq x y) ts os Q:=go b h
def cP {a:K5} {n:Nat} (b:a.n=n) {id:Nat} {l:Array Oper} {ts:Ts} {os:Os} {Q:Qt} (h:dA prog tab cN a n (.region id l false) ts os Q):j4 prog a (.region id l false) ts os Q:=go b h
def cy {a:K5} {n:Nat} (b:a.n=n) {id:Nat} {x:Code} {ts:Ts} {os:Os} {Q:Qt} (h:dA prog tab cN a n (.block id x) ts os Q):j4 prog a (.block id x) ts os Q:=go b h
def cV {a:K5} {n:Nat} (b:a.n=n) {c:Operand} {x y:Code} {ts:Ts} {os:Os} {Q:Qt} (h:dA prog tab cN a n (.cond c x y) ts os Q):j4 prog a (.cond c x y) ts os Q:=go b h
def cW {a:K5} {n:Nat} (b:a.n=n) {id:Nat} {ts:Ts} {os:Os} {Q:Qt} (h:dA prog tab cN a n (.exit id) ts os Q):j4 prog a (.exit id) ts os Q:=go b h
def cX {a:K5} {n:Nat} (b:a.n=n) {ts:Ts} {os:Os} {Q:Qt} (h:dA prog tab cN a n .skip ts os Q):j4 prog a .skip ts os Q:=go b h
def cQ {a:K5} {n:Nat} (b:a.n=n) {ts:Ts} {os:Os} {Q:Qt} (h:dA prog tab cN a n .ret ts os Q):j4 prog a .ret ts os Q:=go b h
def oh {a:K5} {n:Nat} (b:a.n=n) {id:Nat} {l:Array Oper} (hd:X5 l.toList=true) {ts:Ts} {os:Os} {Q:Qt} (h:db ts fun ts=>dy prog tab cN n l.toList 0 l.toList ts os [] (Q .normal)):j4 prog a (.region id l true) ts os Q :=
 j4.draw gL mg b mixed hd h
def uL (a b:Nat) {c:K5} {n:Nat} (d:c.n=n) {id:Nat} {l:Array Oper} (hd:X5 l.toList=true) {ts:Ts} {os:Os} {Q:Qt} (h:db ts fun ts=>dz prog tab cN n l.toList a b 0 l.toList ts os [] none (Q .normal)):j4 prog c (.region id l true) ts os Q :=
 j4.jo gL mg d mixed hd a b h
def vz {k n:Nat} (h:k<n) (a:n<=maxLen):D8 ((k:Int)+1):=by simp only[maxLen] at a;exact⟨d9,d9⟩
abbrev wr (n:Int):Int:=IntKind.i64.wrap n
def K6 {n:Int} (h:D8 n):wr n=n:=IntWalk.i64_in n h
def uP (a b:St):cO [.int a.cls,.str a.name,.int a.pos] [.int b.cls,.str b.name,.int b.pos]=decide (a=b):=by
 obtain⟨c,d,e⟩:=a;obtain⟨f,g,h⟩:=b;by_cases i:c=f<;>by_cases j:d=g<;>by_cases k:e=h<;>simp[cO,ij,i,j,k]
def uJ (a b:Ln):cO [.int a.cls,.int a.found] [.int b.cls,.int b.found]=decide (a=b):=by
 obtain⟨c,d⟩:=a;obtain⟨e,f⟩:=b;by_cases g:c=e<;>by_cases h:d=f<;>simp[cO,ij,g,h]
def xt (a b:V):cO [.int a.k,.int a.n] [.int b.k,.int b.n]=decide (a=b):=by
 obtain⟨c,d⟩:=a;obtain⟨e,f⟩:=b;by_cases g:c=e<;>by_cases h:d=f<;>simp[cO,ij,g,h]
def xk (a b:Ins):cO [.int a.op,.int a.a,.int a.b,.int a.c,.str a.name] [.int b.op,.int b.a,.int b.b,.int b.c,.str b.name]=decide (a=b):=by
 obtain⟨d,e,f,g,h⟩:=a;obtain⟨i,j,k,l,m⟩:=b;by_cases n:d=i<;>by_cases o:e=j<;>by_cases p:f=k<;>by_cases q:g=l<;>by_cases r:h=m<;>simp[cO,ij,n,o,p,q,r]
inductive F8 (ρ σ:Type):Type where
 |ret (r:ρ)
 |next (s:σ)
def u6 {α:Type} (l:List α) (i:Int):Option α:=bif decide (0<=i) then l[i.toNat]? else none
def fW (s:ByteArray) (i:Int):Option UInt8:=bif decide (0<=i) then s[i.toNat]? else none
def K3 {α:Type} {l:List α} {i:Int} {x:α} (h:u6 l i=some x):0<=i/\l[i.toNat]?=some x:=by
 unfold u6 at h;by_cases a:0<=i
 ·rw[Al a] at h;exact⟨a,h⟩
 ·rw[Ak a] at h;cases h
def H5 {α:Type} (l:List α) (k:Nat):u6 l (k:Int)=l[k]?:=by
 unfold u6;rw[Al (Int.natCast_nonneg k)];rfl
def qC {α:Type} {l:List α} {i:Int} {x:α} (h:u6 l i=some x):0<=i/\i<l.length:=by
 obtain⟨a,b⟩:=K3 h;have:=(AF.1 b).1;exact⟨a,d9⟩
def oG {α b:Type} {x:Option α} {f:α->Option b} {r:b} (h:x.bind f=some r):∃a,x=some a/\f a=some r:=by
 cases x with
 |none=>cases h
 |some a=>exact⟨a,rfl,h⟩
def xj {a:Type} {b:Bool} {x y:Option a} {r:a} (h:(bif b then x else y)=some r) {X Y:Prop} (c:b=true->x=some r->X) (d:b=false->y=some r->Y):eK.match_1 (motive:=fun _ _ _=>Prop) b X Y (fun X _=>X) (fun _ Y=>Y):=by
 cases b
 ·exact d rfl h
 ·exact c rfl h
def xY {b:Bool} {X Y:Prop} (a:b=true) (c:X):eK.match_1 (motive:=fun _ _ _=>Prop) b X Y (fun X _=>X) (fun _ Y=>Y):=by subst a;exact c
def xd {b:Bool} {X Y:Prop} (a:b=false) (c:Y):eK.match_1 (motive:=fun _ _ _=>Prop) b X Y (fun X _=>X) (fun _ Y=>Y):=by subst a;exact c
def mh {a:Type} {b:Bool} {x:Option a} {r:a} (h:(bif b then x else none)=some r):b=true/\x=some r:=by
 cases b
 ·cases h
 ·exact⟨rfl,h⟩
def fr (p:ByteArray×Bool):AV×AV:=(.str p.1,.bool p.2)
def dE {α:Type} [DecidableEq α] (k:α):List (α×Bool)->Bool
 |[]=>false
 |p::l=>if k=p.1 then p.2 else dE k l
def c7 {α:Type} [DecidableEq α] (k:α) (b:Bool):List (α×Bool)->List (α×Bool)
 |[]=>[(k,b)]
 |p::l=>if k=p.1 then(k,b)::l else p::c7 k b l
theorem nQ {α:Type} [DecidableEq α] (k:α) (b:Bool):∀l:List (α×Bool),(c7 k b l).length<=l.length+1
 |[]=>AA _
 |p::l=>by
  rw[c7];split
  ·simp
  ·simpa using nQ k b l
theorem nv {α:Type} [DecidableEq α] {f:α->AV} (c:∀a b,iP (f a) (f b)=some (decide (a=b))) (k:α) (b:Bool):∀(l:List (α×Bool)) (i:Nat),∃r,eJ (f k) (l.map fun p=>(f p.1,.bool p.2)) i=some r /\
  (match r with|none=>AV.bool false|some p=>p.2)=.bool (dE k l)/\∀pre:List (AV×AV),pre.length=i->fu (f k) (.bool b) (pre++l.map fun p=>(f p.1,.bool p.2)) r=pre++(c7 k b l).map fun p=>(f p.1,.bool p.2)
 |[],i=>⟨none,rfl,rfl,fun pre _=>by simp[fu,c7]⟩
 |p::l,i=>by
  obtain⟨r,e,g,j⟩:=nv c k b l (i+1);by_cases h:k=p.1
  ·refine⟨some (i,.bool p.2),by simp[eJ,c,h],by simp[dE,h],fun pre d=>?_⟩;subst d;simp[fu,c7,h]
  ·refine⟨r,by simp[eJ,c,h,e],by simp only[dE,Ag h];exact g,fun pre d=>?_⟩;have:=j (pre++[(f p.1,.bool p.2)]) (by simp[d]);simp only[c7,Ag h,AQ,AK,List.singleton_append] at this⊢;exact this
def xf {m:List (ByteArray×Bool)} {k:ByteArray} {A B C D:Prop} (a:A) (b:B) (c:C) (d:D) {K:AV->Prop} (H:K (.bool (dE k m))) :
  A/\B/\C/\D/\∃r,eJ (.str k) (m.map fr) 0=some r/\∀q,q=(match r with|none=>AV.bool false|some p=>p.2)->K q:=by
 obtain⟨r,e,g,_⟩:=nv (f:=AV.str) (fun _ _=>rfl) k false m 0;exact⟨a,b,c,d,r,e,fun q h=>by rw[h,g];exact H⟩
def uC {m:List (ByteArray×Bool)} {k:ByteArray} {v:Bool} {A B:Prop} (a:A) (b:B) (g:AD (m.length+1) 140737488355328=true) {K:List (AV×AV)->Prop} (H:K ((c7 k v m).map fr)) :
  A/\B/\∃r,eJ (.str k) (m.map fr) 0=some r/\(fu (.str k) (.bool v) (m.map fr) r).length<=maxLen/\∀q,q=fu (.str k) (.bool v) (m.map fr) r->K q:=by
 obtain⟨r,d,_,c⟩:=nv (f:=AV.str) (fun _ _=>rfl) k v m 0;have c:=c [] rfl;have e:fu (.str k) (.bool v) (m.map fr) r=(c7 k v m).map fr:=c;refine⟨a,b,r,d,?_,fun q h=>by rw[h,e];exact H⟩;rw[e,AR];have:=nQ k v m;have:=AU g;simp only[maxLen];omega
section
variable {α:Type} {enc:α->List AV}
def M8 {l:List α} {K:Nat->Prop} (H:l.length<=maxLen->K l.length):∀n:Nat,n=(l.map enc).length->n<=maxLen->K n:=fun n e h=>by
 rw[AR] at e;subst e;exact H h
def Q9 {l:List α} {i:Int} {x:α} (h:u6 l i=some x) {K:List AV->Prop} (H:K (enc x)):0<=i/\i<((l.map enc).length:Int)/\∀a,(l.map enc)[i.toNat]?=some a->bC a->K a:=by
 obtain⟨c,d⟩:=K3 h;refine⟨c,by rw[AR];exact(qC h).2,fun a b _=>?_⟩;rw[Aa,d] at b;cases b;exact H
def P9 {l:List α} {k:Nat} {x:α} (h:l[k]?=some x) {K:List AV->Prop} (H:K (enc x)):0<=(k:Int)/\(k:Int)<((l.map enc).length:Int)/\∀a,(l.map enc)[k]?=some a->bC a->K a :=
 Q9 (i:=(k:Int)) (by rw[H5];exact h) H
def cT {l:List α} {i:Int} {x:α} (h:u6 l i=some x) {K:Prop} (H:K):0<=i/\i<((l.map enc).length:Int)/\K :=
 ⟨(K3 h).1,by rw[AR];exact(qC h).2,H⟩
def dV {l:List α} {i:Nat} {x:α} (h:l[i]?=some x) {K:List AV->Prop} (H:K (enc x)):i<(l.map enc).length/\∀a,(l.map enc)[i]?=some a->K a:=by
 refine⟨by rw[AR];exact(AF.1 h).1,fun a b=>?_⟩;rw[Aa,h] at b;cases b;exact H
def vO {l:List α} {i:Nat} {x c:α} {b:List AV} (h:l[i]?=some x) (d:dw b (enc c)):S9 ((l.map enc).set i b) ((l.set i c).map enc):=by
 induction l generalizing i with
 |nil=>simp at h
 |cons a l ih =>
  cases i with
  |zero=>exact⟨d,fG _⟩
  |succ i=>exact⟨nD _,ih (by simpa using h)⟩
def vN {ls c q d:List (List AV)} (h:S9 ls q) (e:S9 c d):S9 (ls++c) (q++d):=by
 induction ls generalizing q with
 |nil=>cases q with
  |nil=>exact e
  |cons=>exact h.elim
 |cons a ls ih=>cases q with
  |nil=>exact h.elim
  |cons b q=>exact⟨h.1,ih h.2⟩
def nh {l l2:List α} {a:List (List AV)} (b:S9 a (l2.map enc)):S9 (l.map enc++a) ((l++l2).map enc):=by
 rw[List.map_append];exact vN (fG _) b
def vm {n:Nat} {z:List AV} {x:α} (h:dw z (enc x)):S9 (AG n z) ((AG n x).map enc):=by
 induction n with
 |zero=>trivial
 |succ n ih=>exact⟨h,ih⟩
def uO {l l2:List α} {a:List (List AV)} {B C:Nat} (d:AD ((l.length+l2.length)*B) C=true) (b:S9 a (l2.map enc)) {K:List (List AV)->Prop} (H:K ((l++l2).map enc)) :
  ((l.map enc).length+a.length)*B<=C/\∃q,S9 (l.map enc++a) q/\K q:=by
 have c:=(nu b).1;rw[AR] at c;refine⟨?_,_,nh b,H⟩;rw[AR,c];exact AU d
def vD {α:Type} {enc:α->List AV} (l:List α) (n:Nat):S9 ((l.map enc).drop n) ((l.drop n).map enc):=by
 rw[List.map_drop];exact fG _
def sA {a:Int} {B:Int} {z:List AV} {x:α} (b:(decide (0<=a) && decide (a<=140737488355328) && decide (a*B<=140737488355328))=true) (c:dw z (enc x)) {K:List (List AV)->Prop} (H:K ((AG a.toNat x).map enc)) :
  a=a/\0<=a/\a<=140737488355328/\a*B<=140737488355328/\∃q,S9 (AG a.toNat z) q/\K q:=by
 simp only[A7,Am] at b;exact⟨rfl,b.1.1,b.1.2,b.2,_,vm c,H⟩
def xg {l:List α} {b:Int} {X Y:Prop} (a:(decide (0<=b) && decide (b<=(l.length:Int)))=true) (c:X) (d:Y) {K:List (List AV)->Prop} (H:K ((l.take b.toNat).map enc)) :
  X/\Y/\0<=b/\b<=((l.map enc).length:Int)/\∀q,q=(l.map enc).take b.toNat->K q:=by
 simp only[A7,Am] at a;refine⟨c,d,a.1,by rw[AR];exact a.2,fun q e=>?_⟩;rw[e,<-List.map_take];exact H
def x8 {l:List α} {b:Int} {X Y c:Prop} (a:(decide (0<=b) && decide (b<=(l.length:Int)))=true) (d:X) (g:Y) {K:List (List AV)->Prop} (H:K ((l.drop b.toNat).map enc)) :
  X/\Y/\0<=b/\b<=((l.map enc).length:Int)/\(c\/∀q,q=(l.map enc).drop b.toNat->K q):=by
 simp only[A7,Am] at a;refine⟨d,g,a.1,by rw[AR];exact a.2,.inr fun q e=>?_⟩;rw[e,<-List.map_drop];exact H
def xr {l:List α} {b:Int} {X Y:Prop} (a:(decide (0<=b) && decide (b<=(l.length:Int)))=true) (c:X) (d:Y) {K:List (List AV)->Prop} (H:K ((l.drop b.toNat).map enc)) :
  X/\Y/\0<=b/\b<=((l.map enc).length:Int)/\∀q,q=(l.map enc).drop b.toNat->K q:=by
 simp only[A7,Am] at a;refine⟨c,d,a.1,by rw[AR];exact a.2,fun q e=>?_⟩;rw[e,<-List.map_drop];exact H
end
def jm {s:ByteArray} {i:Int} {u:UInt8} (h:fW s i=some u) {K:UInt8->Prop} (H:K u):0<=i/\i<(s.size:Int)/\∀u,s[i.toNat]?=some u->K u:=by
 unfold fW at h;by_cases a:0<=i
 ·rw[Al a] at h;have h:s[i.toNat]?=some u:=h;have d:i.toNat<s.size:=by
   rcases Nat.lt_or_ge i.toNat s.size with b|b
   ·exact b
   ·rw[getElem?_neg s i.toNat d9] at h;cases h
  exact⟨a,d9,fun e c=>by rw[h] at c;cases c;exact H⟩
 ·rw[Ak a] at h;cases h
def uG {a b:Int} (c:0<b) (e:b<=4611686018427387904) {K:Prop} (H:K):b≠0/\D8 (a.tmod b)/\K:=by
 refine⟨d9,?_,H⟩;unfold D8;have g:=Int.tmod_lt_of_pos a c;have d:=Int.tmod_lt_of_pos (-a) c;rw[Int.neg_tmod] at d;omega
def uK {l:List Int} {s:ByteArray} {C:Nat} (a:AD (l.length+s.size) C=true) {K:List (List AV)->Prop} (H:K ((l++V3 s).map fun n=>[AV.ik .u8 n])) :
  (l.map fun n=>[AV.ik .u8 n]).length+s.size<=C/\∃q,S9 (l.map (fun n=>[AV.ik .u8 n])++(V3 s).map fun n=>[AV.ik .u8 n]) q/\K q :=
 ⟨by rw[AR];exact AU a,_,fG _,by rw[<-List.map_append];exact H⟩
def uE {s:ByteArray} {a b:Int} {X:Prop} (c:(decide (0<=a) && (decide (a<=b) && decide (b<=(s.size:Int))))=true) (d:X) {K:Prop} (H:K):X/\0<=a/\a<=b/\b<=s.size/\K:=by
 simp only[A7,Am] at c;exact⟨d,c.1,c.2.1,c.2.2,H⟩
def dx {p:Prop} [Decidable p] (h:decide p=true) {K:Prop} (H:K):p/\K:=⟨of_decide_eq_true h,H⟩
def wF {α:Type} {l:List α} {k:Nat} (h:[]=l.drop k):decide ((k:Int)<(l.length:Int))=false:=by
 have:=List.drop_eq_nil_iff.1 h.symm;exact Ak d9
def e7 {α:Type} {l r:List α} {k:Nat} {x:α} (h:x::r=l.drop k):l[k]?=some x/\r=l.drop (k+1)/\decide ((k:Int)<(l.length:Int))=true:=by
 have a:(l.drop k)[0]?=some x:=by rw[<-h];rfl
 rw[Ac] at a;have a:l[k]?=some x:=a;refine⟨a,?_,Al (by have:=(AF.1 a).1;omega)⟩;have:=congrArg List.tail h;rw[List.tail_drop] at this;exact this
def O4 {α:Type} {l:List α} {k:Nat} {x:α} (h:l[k]?=some x) (a:l.length<=maxLen):D8 ((k:Int)+1):=vz (AF.1 h).1 a
def xe {n:Int} {k:Nat} (h:0=(n-k).toNat):decide ((k:Int)<n)=false:=Ak d9
def rN {n:Int} {k m:Nat} (h:m+1=(n-k).toNat):m=(n-((k+1:Nat):Int)).toNat/\decide ((k:Int)<n)=true:=⟨d9,Al d9⟩
def ct {n:Int} {k:Nat} (h:decide ((k:Int)<n)=true) (a:bC [.int n]):D8 ((k:Int)+1):=by
 have h:=of_decide_eq_true h;have a:D8 n:=a.1;exact⟨d9,by have:=a.2;omega⟩
section
variable {P:Program} {Γ:K5}
theorem j4.rH {c:Code} {ts:Ts} {os:Os} {Q:Qt} {id:Nat} (h:j4 P Γ c ts os fun e d b=>match e with
  |.normal=>Q .normal d b
  |.exit k=>match A4 k id with
   |true=>Q .normal d b
   |false=>Q (.exit k) d b
  |.ret=>Q .ret d b):j4 P Γ (.block id c) ts os Q:=by
 refine⟨fun a w r=>wp_block (wp_mono (h.run a w r) fun e s w' ⟨ex,d,b,n,g,l⟩=>?_)⟩
 match e,ex,n,g with
 |.normal,.normal,_,g=>exact⟨.normal,d,b,trivial,g,l⟩
 |.exit i,.exit j,n,g =>
  have o:i=j:=n;subst o;simp only at g;split at g
  ·rename_i m;have q:=AB m;simp only[Exit.inBlock,Ah q];exact⟨.normal,d,b,trivial,g,l⟩
  ·rename_i m;have p:¬i=id:=fun e=>by rw[e] at m;simp at m
   simp only[Exit.inBlock,Ag p];exact⟨.exit i,d,b,rfl,g,l⟩
 |.ret,.ret,_,g=>exact⟨.ret,d,b,trivial,g,l⟩
theorem j4.jj {c:Code} {ts:Ts} {os:Os} {Q:Qt} {b:Nat} (h:∀a:Qt,(∀ts os,Q .normal ts os->a .normal ts os)->(∀ts os,Q .normal ts os->a (.exit b) ts os)->(∀id ts os,A4 id b=false->Q (.exit id) ts os->a (.exit id) ts os)->(∀ts os,Q .ret ts os->a .ret ts os)->j4 P Γ c ts os a):j4 P Γ (.block b c) ts os Q :=
 j4.rH (h _ (fun _ _ h=>h) (fun _ _ h=>by simpa using h) (fun id _ _ d h=>by simp only[d];exact h) (fun _ _ h=>h))
def JQ {ι:Type} (St:ι->Ts) (a:ι->Os) (p:ι->Prop):Qt:=fun _ ts os=>∃i b,p i/\bj ts os (St i) (a i) b
theorem j4.gE {ι:Type} (St:ι->Ts) (k:ι->Os) {c:Code} {ts:Ts} {os:Os} {Q:Qt} (h:∀j:Qt,(∀d b,O9 Γ d b (JQ St k fun _=>True)->j .normal d b)->(∀id ts os,Q (.exit id) ts os->j (.exit id) ts os)->(∀ts os,Q .ret ts os->j .ret ts os)->j4 P Γ c ts os j)
  (s:∀i,((St i).all fun p=>AM p.1 Γ.n)=true) (q:∀i,Q .normal (St i) (k i)):j4 P Γ c ts os Q :=
by
 have h:=h (fun e d b=>match e with
  |.normal=>O9 Γ d b (JQ St k fun _=>True)
  |.exit id=>Q (.exit id) d b
  |.ret=>Q .ret d b) (fun _ _ h=>h) (fun _ _ _ h=>h) (fun _ _ h=>h)
 refine⟨fun a w t=>wp_mono (h.run a w t) fun e o w' ⟨ex,d,b,l,g,m⟩=>?_⟩;cases ex with
 |normal =>
  obtain⟨x,v,⟨i,y,_,u⟩,r⟩:=O9.run g o w' m;exact⟨.normal,_,_,l,q i,u.rel (s i) r⟩
 |exit id=>exact⟨.exit id,d,b,l,g,m⟩
 |ret=>exact⟨.ret,d,b,l,g,m⟩
def oM : Ts->Ts->Prop
 |[],_=>True
 |(t,a)::r,ts=>lk ts t=some a/\oM r ts
theorem qf {ts:Ts}:∀{a:Ts},oM a ts->∀t x,lk a t=some x->lk ts t=some x
 |(k,y)::r,h,t,x,hl=>by
  rw[j5] at hl;split at hl
  ·rename_i e;subst e;cases hl;exact h.1
  ·exact qf h.2 t x hl
theorem o6.aP {ts h:Ts} {os g:Os} {a:Act} {w:World} (q:oM h ts) (p:eg g os) (s:o6 Γ ts os a w):o6 Γ h g a w:=by
 obtain⟨c,⟨j,k,l,m,d⟩,n⟩:=s;have e:=jG p;exact⟨c,⟨j,k,fun t x i=>l t x (qf q t x i),m.sub e,⟨d.bV,d.tape,d.output,d.size,d.aX,d.aV,d.aP,fun id o b i r=>d.ab _ _ b (e id o i) r⟩⟩,n⟩
def fm {tab:F7} {b:List ResultVar} {ts:Ts} {os:Os} {av:AV} {upd:Os} {news:List Nat} {a:List (Nat×Nat)} {r:List AV} (c:gg tab ts os b=some r:=by rfl) (d:iq (oV r) (av.aw (rn a)):=by repeat (first|exact trivial|exact rfl|(refine A5 ?_ ?_))) (e:iX (rn a) os upd:=by repeat (first|exact trivial|exact rfl|(refine A5 ?_ ?_)))
  (g:ja (rn a) upd=true:=by rfl) (h:lW a=true:=by rfl) (j:(upd.all fun p=>news.elem p.1 || AD Go.Proofs.YtibjcppjfkamhaaGreatDoor.top p.1)=true:=by rfl) (k:(av.ids.all fun i=>(lk upd i).isSome || AD Go.Proofs.YtibjcppjfkamhaaGreatDoor.top i)=true:=by rfl)
  (l:(upd.all fun p=>p.2.ids.all fun i=>(lk upd i).isSome || AD Go.Proofs.YtibjcppjfkamhaaGreatDoor.top i)=true:=by rfl):Fin tab b ts os av upd news a r:=⟨c,d,e,g,h,j,k,l⟩
section
variable {os:Os} {K:Kt} {f:Nat} {ins ins':List AV} {need upd:Os} {news:List Nat} {av:AV}
def cA (h:Spec P f need ins' av upd news) (b:K av (need.map (·.1)) news upd) (a:cu ins ins':=by repeat (first|exact trivial|exact rfl|(refine A5 ?_ ?_))) (d:eg need os:=by repeat (first|exact trivial|exact rfl|(refine A5 ?_ ?_))) (c:(need.all fun p=>fJ news p.2.ids)=true:=by rfl):Y7 P f ins os K:=Y7.a_ h a d c b
def cF (h:Spec P f need ins' av upd news) (b:K av (((J9 os ins).2++need).map (·.1)) news (upd++D7 (J9 os ins).2)) (a:cu (J9 os ins).1 ins':=by repeat (first|exact trivial|exact rfl|(refine A5 ?_ ?_))) (d:eg need os:=by repeat (first|exact trivial|exact rfl|(refine A5 ?_ ?_))) (hd:(need.all fun p=>(lk (J9 os ins).2 p.1).isNone)=true:=by rfl)
  (c:(need.all fun p=>fJ news p.2.ids)=true:=by rfl):Y7 P f ins os K:=Y7.fz h a d hd c b
def cL (h:Spec P f [] ins' av [] []) (b:K av ((J9 os ins).2.map (·.1)) [] []) (a:cu (J9 os ins).1 ins':=by repeat (first|exact trivial|exact rfl|(refine A5 ?_ ?_))) (c:iQ av=true:=by rfl):Y7 P f ins os K:=Y7.gp h a c b
end
theorem j4.eQ {ι:Type} (St:ι->Ts) (l:ι->Os) (m:ι->Nat) {c:Code} {ts:Ts} {os:Os} {Q:Qt} (v:ι) (E:List (Nat×Nat)) (J:bj ts os (St v) (l v) E) (H:∀i,((St i).all fun p=>AM p.1 Γ.n)=true)
  (S:∀i,∀t:Qt,(∀d b,O9 Γ d b (JQ St l fun j=>m j<m i)->t .normal d b)->(∀id ts os,Q (.exit id) ts os->t (.exit id) ts os)->(∀ts os,Q .ret ts os->t .ret ts os)->j4 P Γ c (St i) (l i) t):j4 P Γ (.loop c) ts os Q:=by
 have D:∀i,j4 P Γ c (St i) (l i) fun e d b=>match e with
   |.normal=>O9 Γ d b (JQ St l fun j=>m j<m i)
   |.exit id=>Q (.exit id) d b
   |.ret=>Q .ret d b:=fun i=>S i _ (fun _ _ h=>h) (fun _ _ _ h=>h) (fun _ _ h=>h)
 refine⟨fun a w r=>?_⟩;let I:Act->World->Prop:=fun a w=>∃i,o6 Γ (St i) (l i) a w;have A:I a w:=⟨v,J.rel (H v) r⟩;have o:∀a w,∃n,I a w->(∃i,m i=n/\o6 Γ (St i) (l i) a w)/\∀i,o6 Γ (St i) (l i) a w->n<=m i:=by
  intro a w;by_cases u:I a w
  ·obtain⟨i,N⟩:=u;obtain⟨n,⟨j,G,z⟩,L⟩:=exists_least (p:=fun n=>∃i,m i=n/\o6 Γ (St i) (l i) a w) ⟨m i,i,rfl,N⟩;exact⟨n,fun _=>⟨⟨j,G,z⟩,fun k O=>L (m k) ⟨k,rfl,O⟩⟩⟩
  ·exact⟨0,fun h=>absurd h u⟩
 refine wp_loop I (fun a w=>Classical.choose (o a w)) A fun a w u=>?_;obtain⟨⟨i,G,z⟩,_⟩:=Classical.choose_spec (o a w) u;refine wp_mono ((D i).run a w z) fun e F w' ⟨ex,d,b,C,q,g⟩=>?_
 match e,ex,C,q with
 |.normal,.normal,_,q =>
  obtain⟨U,T,⟨j,V,R,s⟩,M⟩:=O9.run q F w' g;have B:=s.rel (H j) M;refine⟨⟨j,B⟩,?_⟩;have:=(Classical.choose_spec (o F w') ⟨j,B⟩).2 j B;omega
 |.exit x,.exit y,C,q=>exact⟨.exit y,d,b,C,q,g⟩
 |.ret,.ret,_,q=>exact⟨.ret,d,b,trivial,q,g⟩
def aT {P:Prop} (h:P:=by repeat (first|exact trivial|exact rfl|(refine A5 ?_ ?_))):P:=h
def oI {α:Type} {a b:α} (h:some a=some b):a=b:=Option.some.inj h
mutual
def AV.gD (id sz:Nat) (ls:List (List AV)):AV->AV
 |.aG j=>bif A4 j id then .sl sz ls else .aG j
 |.fn f b=>.fn f (AV.bN id sz ls b)
 |.agg b=>.agg (AV.bN id sz ls b)
 |.aS b=>.aS (AV.bN id sz ls b)
 |a=>a
def AV.bN (id sz:Nat) (ls:List (List AV)):List AV->List AV
 |[]=>[]
 |a::l=>a.gD id sz ls::AV.bN id sz ls l
end
mutual
theorem Rd.gD {c c':Ctx} {w:World} {id sz:Nat} {ls:List (List AV)} (b:∀v a,Rd c w v a->Rd c' w v a) (g:∀v,Rd c w v (.aG id)->Rd c' w v (.sl sz ls)):∀(a:AV) {v:Value},Rd c w v a->Rd c' w v (a.gD id sz ls)
 |.aG j,v,h=>by
  unfold AV.gD;cases i:A4 j id
  ·exact b _ _ h
  ·have:=AB i;subst this;exact g v h
 |.fn f d,v,h=>by
  obtain⟨us,rfl,e⟩:=h.il;exact .fn (l8.bN b g d e)
 |.agg d,v,h=>by
  obtain⟨us,rfl,e⟩:=h.bM;exact .agg (l8.bN b g d e)
 |.aS d,v,h=>by
  obtain⟨us,rfl,e⟩:=h.dJ;exact .aS (l8.bN b g d e)
 |.any,_,h=>b _ _ h
 |.int _,_,h=>b _ _ h
 |.ik _ _,_,h=>b _ _ h
 |.bool _,_,h=>b _ _ h
 |.str _,_,h=>b _ _ h
 |.sl _ _,_,h=>b _ _ h
 |.ptr _ _,_,h=>b _ _ h
 |.fp _,_,h=>b _ _ h
 |.bo _ _,_,h=>b _ _ h
 |.cI _ _ _,_,h=>b _ _ h
 |.ep _ _ _ _,_,h=>b _ _ h
 |.a8,_,h=>b _ _ h
 |.cz _,_,h=>b _ _ h
 |.aL,_,h=>b _ _ h
 |.aA,_,h=>b _ _ h
 |.mp _,_,h=>b _ _ h
 |.bL _,_,h=>b _ _ h
 |.np _,_,h=>b _ _ h
 |.br _,_,h=>b _ _ h
 |.aU _,_,h=>b _ _ h
theorem l8.bN {c c':Ctx} {w:World} {id sz:Nat} {ls:List (List AV)} (e:∀v a,Rd c w v a->Rd c' w v a) (d:∀v,Rd c w v (.aG id)->Rd c' w v (.sl sz ls)):∀(b:List AV) {vs:List Value},l8 c w vs b->l8 c' w vs (AV.bN id sz ls b)
 |[],_,.nil=>.nil
 |a::b,_,.cons h t=>.cons (Rd.gD e d a h) (l8.bN e d b t)
end
def Obj.rz (id sz:Nat) (ls:List (List AV)):Obj->Obj
 |.box a e=>.box (AV.bN id sz ls a) e
 |o=>o
def ib (id sz:Nat) (ls:List (List AV)):Ts->Ts
 |[]=>[]
 |(t,a)::r=>(t,a.gD id sz ls)::ib id sz ls r
def gf (id sz:Nat) (ls:List (List AV)):Os->Os
 |[]=>[]
 |(k,o)::r=>(k,o.rz id sz ls)::gf id sz ls r
theorem pz (id sz:Nat) (ls:List (List AV)) (t:Nat):∀ts:Ts,lk (ib id sz ls ts) t=(lk ts t).map (AV.gD id sz ls)
 |[]=>rfl
 |(k,a)::r=>by
  rw[ib,j5,j5,pz id sz ls t r];split<;>rfl
theorem pr (id sz:Nat) (ls:List (List AV)) (t:Nat):∀ts:Os,lk (gf id sz ls ts) t=(lk ts t).map (Obj.rz id sz ls)
 |[]=>rfl
 |(k,a)::r=>by
  rw[gf,j5,j5,pr id sz ls t r];split<;>rfl
theorem o6.au {ts:Ts} {os:Os} (id:Nat) {sz e:Nat} {ls:List (List AV)} (E:lk os id=some (.row sz ls e)) {a:Act} {w:World} (H:o6 Γ ts os a w):o6 Γ (ib id sz ls ts) ((id,.aI)::gf id sz ls os) a w:=by
 obtain⟨j,⟨R,S,T,C,U⟩,V⟩:=H;have k:∀i o,lk [(id,Obj.row sz ls e)] i=some o->lk os i=some o:=fun i o g=>by
  rw[j5] at g;split at g
  ·rename_i e1;subst e1;cases g;exact E
  ·cases g
 have p:=C.sub k;have N:=aF.freeze p;have n:H7 (j.fz [(id,.row sz ls e)]) w (D7 [(id,.row sz ls e)]++os):=C.frame k N (fun _ h=>(by cases h)) (fun _ _ _ _ _ h=>(by cases h));have M:∀v a,Rd j w v a->Rd (j.fz [(id,.row sz ls e)]) w v a:=fun v a H=>Rd.mono (c:=j) (c':=j.fz [(id,.row sz ls e)]) (fun _ _=>rfl) (fun _ h=>A9 h) (fun _ _=>⟨rfl,rfl⟩) H;have L:∀v,Rd j w v (.aG id)->Rd (j.fz [(id,.row sz ls e)]) w v (.sl sz ls):=fun v X=>lB p (j3 _ _ _) X;have l:∀i o,lk ((id,Obj.aI)::gf id sz ls os) i=some o->∃m,lk (D7 [(id,Obj.row sz ls e)]++os) i=some m/\(∀b,aK (j.fz [(id,.row sz ls e)]) i o b↔aK (j.fz [(id,.row sz ls e)]) i m b)/\bm (j.fz [(id,.row sz ls e)]) w i o:=fun i o g=>by
  have W:=g;rw[j5] at g;split at g
  ·rename_i e1;subst e1;cases g;exact⟨.aI,by simp[D7,j3],fun _=>Iff.rfl,trivial⟩
  ·rename_i e1;rw[pr] at g;obtain⟨m,z,rfl⟩:=AZ.1 g;have u:lk (D7 [(id,Obj.row sz ls e)]++os) i=some m:=by simp only[D7,List.cons_append,List.nil_append];rw[G5 _ _ e1];exact z
   have A:=n.rep i m u;refine⟨m,u,fun b=>?_,?_⟩
   ·cases m<;>exact Iff.rfl
   ·cases m with
    |box Q e2 =>
     obtain⟨us,I,J⟩:=C.rep i _ z;exact⟨us,I,l8.bN M L Q J⟩
    |_=>exact A
 refine⟨j.fz [(id,.row sz ls e)],⟨R,S,fun t x g=>?_,⟨fun i o g=>?_,fun i o b g s=>?_,fun i O o m b G g F s D=>?_,n.aX⟩,?_⟩,V⟩
 ·rw[pz] at g;obtain⟨y,Z,rfl⟩:=AZ.1 g;obtain⟨v,I,J⟩:=T t y Z;exact⟨v,I,Rd.gD M L y J⟩
 ·obtain⟨_,_,_,h⟩:=l i o g;exact h
 ·obtain⟨B,q,r,_⟩:=l i o g;exact n.lt i B b q ((r b).1 s)
 ·obtain⟨B,q,r,_⟩:=l i o g;obtain⟨o2,k1,k2,_⟩:=l O m F;exact n.sep i O B o2 b G q k1 ((r b).1 s) ((k2 b).1 D)
 ·have d:Inv Γ (j.fz [(id,.row sz ls e)]) w (D7 [(id,.row sz ls e)]++os):=U.post C k N (fun _ h=>(by cases h)) (fun _ _ _ _ x Y=>(by cases Y));exact⟨d.bV,d.tape,d.output,d.size,d.aX,d.aV,d.aP,fun i o b g s=>by
   obtain⟨B,q,r,_⟩:=l i o g;exact d.ab i B b q ((r b).1 s)⟩
theorem j4.au {c:Code} {ts:Ts} {os:Os} {Q:Qt} (id:Nat) {sz e:Nat} {ls:List (List AV)} (b:lk os id=some (.row sz ls e)) (h:j4 P Γ c (ib id sz ls ts) ((id,.aI)::gf id sz ls os) Q):j4 P Γ c ts os Q :=
 ⟨fun a w d=>h.run a w (d.au id b)⟩
theorem O9.au {ts:Ts} {os:Os} {Q:Qt} (id:Nat) {sz e:Nat} {ls:List (List AV)} (b:lk os id=some (.row sz ls e)) (h:O9 Γ (ib id sz ls ts) ((id,.aI)::gf id sz ls os) Q):O9 Γ ts os Q :=
 ⟨fun a w c=>h.run a w (c.au id b)⟩
theorem O9.bd {ts:Ts} {os:Os} {Q:Qt} (t id sz e:Nat) (d:lk ts t=some .a8) (b:D5 [id] ts=true) (c:D6 [id] [(id,.row sz [] e)] os=true) (h:O9 Γ ((t,.aG id)::ts) ((id,.row sz [] e)::os) Q):O9 Γ ts os Q :=
 ⟨fun a w g=>h.run a w (g.bd t id sz e d b c)⟩
end
section
open Go.ChangeShapes Go.WideShapes Go.ChangeAt Go.RowKit Go.Deep
def jY (W:World):Ctx:=⟨fun b=>b<W.heap.size,fun _=>0,fun _=>undef⟩
theorem Spec.law {P:Program} {f:Nat} {ins:List AV} (hS:Spec P f [] ins (.bool true) [] []) {W:World} {args:Array Value} (h:l8 (jY W) W args.toList ins) :
  Calls P f args W fun e d=>e=.returned (.bool true)/\Below W.heap.size W d:=by
 have c:∀(id:Nat) (o:Obj),lk ([]:Os) id=some o->False:=fun id o h=>by cases h
 refine(hS.2.2 (jY W) W args ⟨fun id o h=>(c id o h).elim,fun id o b h=>(c id o h).elim,fun id l o m b _ h=>(c id o h).elim,fun b g=>g⟩ h).mono ?_;rintro e d ⟨v,c',rfl,a,j⟩;exact⟨by rw[j.ai],a.bV,a.tape,a.output,a.size,fun k i=>a.aP k i fun⟨id,o,h,_⟩=>c id o h⟩
def cf (n:Int):Prop:=D8 n
def lf (s:ByteArray):Prop:=s.size<=maxLen
def okB (_:Bool):Prop:=True
def di {b:Type} (ok:b->Prop) (l:List b):Prop:=l.length<=maxLen/\∀a∈l,ok a
def bE (_:Int):Nat:=1
def ei (s:ByteArray):Nat:=s.size+1
def u9 (_:Bool):Nat:=1
def bI {a:Type} (bk:a->Nat) (l:List a):Nat:=(l.map bk).sum+1
def nd {b:Type} (bk:b->Nat) (a:b) (l:List b):bI bk (a::l)=bk a+bI bk l:=by simp only[bI,AQ,List.sum_cons];omega
def iE {b:Type} {bk:b->Nat} (h:∀a,1<=bk a) (l:List b):l.length+1<=bI bk l:=by
 induction l with
 |nil=>simp[bI]
 |cons a l ih=>rw[nd,AP];have:=h a;omega
def ny {b:Type} {bk:b->Nat} {l:List b} {a:b} (h:a∈l):bk a+1<=bI bk l:=by
 induction l with
 |nil=>cases h
 |cons x l ih =>
  rw[nd];rcases AJ.1 h with rfl|h
  ·simp only[bI];omega
  ·have:=ih h;omega
def um {H:Type} {l:List (DataW H)} (h:Rows.uptoSmall H l=true):Rows.uptoBulkAll l<=1048576:=of_decide_eq_true h
structure y9 (P:Program) (t:TypeId) (sz:Nat) {α:Type} (enc:α->List AV) (ok:α->Prop) (bk:α->Nat):Prop where
 out:∀{H:Type} {eH:TypeId×Value->H} {w:World} {sp:Nat->Bool} {held:Bool} {fuel:Nat} {cs:List Value} {x:DataW H×List MemPlace},DataW.trod eH P w 0 sp held fuel t cs=some x ->
  ∃a:α,p8 (fun b=>b<w.heap.size) w cs (enc a)/\cs.length=sz/\(∀u∈cs,u.oneCell'=true)/\ok a/\bk a<=Rows.uptoBulk x.1
section
variable {P:Program}
theorem y9.int {t:TypeId} (b:P.underlying t=some (.int .i64)):y9 P t 1 Q0 cf bE:=⟨fun h=>by
 obtain⟨n,rfl,rfl,c⟩:=DataW.trod_int b h;have a:D8 n:=by
  have:IntKind.i64.min<=n/\n<=IntKind.i64.max:=by simpa[Lit.wf] using c
  exact this
 exact⟨n,.cons (.int a) .nil,rfl,by simp[Value.oneCell'],a,AA _⟩⟩
theorem y9.str {t:TypeId} (b:P.underlying t=some .string):y9 P t 1 fE lf ei:=⟨fun h=>by
 obtain⟨s,rfl,rfl,a⟩:=DataW.trod_string b h;exact⟨s,.cons (.str a) .nil,rfl,by simp[Value.oneCell'],a,by simp[ei,Rows.uptoBulk]⟩⟩
theorem y9.bool {t:TypeId} (a:P.underlying t=some .bool):y9 P t 1 (fun b:Bool=>[AV.bool b]) okB u9:=⟨fun h=>by
 obtain⟨b,rfl,rfl⟩:=DataW.trod_bool a h;exact⟨b,.cons (.bool b) .nil,rfl,by simp[Value.oneCell'],trivial,AA _⟩⟩
def jJ {w:World} {b o:Nat} {v:Value} (h:w.cell? ⟨b,o,none⟩=some v):b<w.heap.size:=by
 unfold World.cell? at h;cases a:w.heap[b]? with
 |none=>rw[a] at h;cases h
 |some x=>exact(Array.getElem?_eq_some_iff.1 a).1
theorem rb {H a:Type} (bk:a->Nat):∀(n:Nat) (g:_root_.Fin n->a) (D:Nat->DataW H),(∀i:_root_.Fin n,bk (g i)<=Rows.uptoBulk (D i))->((List.ofFn g).map bk).sum<=Rows.uptoBulkAll ((List.range n).map D)
 |0,g,D,_=>o5
 |n+1,g,D,h=>by
  have ih:=rb bk n (fun i=>g i.succ) (fun i=>D (i+1)) (fun i=>by simpa using h i.succ);have b:=h 0;rw[List.ofFn_succ,List.range_succ_eq_map];simp only[AQ,List.sum_cons,List.map_map,Rows.uptoBulkAll];have e:(D∘Nat.succ)=fun i=>D (i+1):=rfl;rw[e];have c:bk (g 0)<=Rows.uptoBulk (D 0):=b;omega
theorem y9.slice {t e:TypeId} {sz:Nat} {z:Type} {enc:z->List AV} {ok:z->Prop} {bk:z->Nat} (ht:P.underlying t=some (.slice e)) (hc:P.cellsOf e=sz) (X:0<sz) (L:y9 P e sz enc ok bk) :
  y9 P t 1 (fun l:List z=>[AV.sl sz (l.map enc)]) (di ok) (bI bk):=⟨fun {H eH w sp V fuel d x} h=>by
 rcases open_slice ht h with⟨rfl,rfl⟩|⟨a,len,cap,m,n,D,Pl,rfl,hb,hl,W,N,rfl,M⟩
 ·refine⟨[],.cons ?_ .nil,rfl,by simp[Value.oneCell'],⟨by simp[maxLen],o5⟩,by simp[bI,Rows.uptoBulk]⟩;exact Rf.sl (A:=none) (c:=0) (ls:=[]) (fun _=>[]) 0 0 o5 (by simp[maxLen]) (fun h=>absurd h o5) (fun i d h=>by simp at h) (fun i d h=>by simp at h) (fun i d h=>by simp at h) (fun i d h=>by simp at h)
 ·have hlm:len<=m:=by rw[N];split<;>omega
  have r:∀i:_root_.Fin len,∃y:z,(∃d:List Value,(p8 (fun b=>b<w.heap.size) w d (enc y)/\d.length=sz/\∀u∈d,u.oneCell'=true)/\∀(j:Nat) (u:Value),d[j]?=some u->w.cell? ((a.add (i*sz)).add j)=some u)/\ok y/\bk y<=Rows.uptoBulk (D i):=by
   intro i;obtain⟨I,C,R⟩:=M i d9;obtain⟨y,T,S,B,aD,J⟩:=L.out R;rw[hc] at C;obtain⟨_,p,k⟩:=World.cells?_some C;refine⟨y,⟨I,⟨T,S,B⟩,fun j u E=>?_⟩,aD,J⟩;rw[k j (by rw[<-p];exact(AF.1 E).1),E]
  let g:_root_.Fin len->z:=fun i=>(r i).choose;have v:=fun i=>(r i).choose_spec;have p:(List.ofFn g).length=len:=o5;have get:∀(i:Nat) (d:List AV),((List.ofFn g).map enc)[i]?=some d->∃M:i<len,d=enc (g ⟨i,M⟩):=by
   intro i d h;rw[Aa,AZ] at h;obtain⟨y,B,Z⟩:=h;obtain⟨f,e1⟩:=AF.1 B;simp only[List.length_ofFn] at f;exact⟨f,by rw[<-Z,<-e1];simp⟩
  have Q:0<len->∃b o,a=⟨b,o,none⟩/\b<w.heap.size:=by
   intro O;obtain⟨⟨d,⟨T,S,_⟩,k⟩,_⟩:=v ⟨0,O⟩;have q:=k 0 d[0] (A8 d9);have B:((a.add (0*sz)).add 0)=a:=by simp[Addr.add]
   simp only at q;rw[B] at q;have G:a.spot=none:=by
    unfold World.cell? at q;split at q
    ·cases G:a.spot with
     |none=>rfl
     |some s=>rw[G] at q;simp at q
    ·cases q
   obtain⟨b,o,s⟩:=a;simp only at G;subst G;exact⟨b,o,rfl,jJ q⟩
  refine⟨List.ofFn g,.cons ?_ .nil,rfl,by simp[Value.oneCell'],⟨by rw[p];omega,fun y hy=>?_⟩,?_⟩
  ·have F:len=((List.ofFn g).map enc).length:=o5;by_cases O:0<len
   ·obtain⟨b,o,U,K⟩:=Q O
    suffices key:Rf (fun b=>b<w.heap.size) w (.slice (some a) ((List.ofFn g).map enc).length cap) (.sl sz ((List.ofFn g).map enc)) by
     rw[<-F] at key;exact key
    refine Rf.sl (fun i=>if h:i<len then(v ⟨i,h⟩).1.choose else[]) b o (by rw[<-F];exact hl) W (fun _=>⟨by rw[U],K⟩) (fun i d h=>?_) (fun i d h j u E=>?_) (fun i d h=>?_) (fun i d h u Y=>?_)<;>obtain⟨f,rfl⟩:=get i d h
    ·rw[dif_pos f];exact(v ⟨i,f⟩).1.choose_spec.1.2.1
    ·rw[dif_pos f] at E;have:=(v ⟨i,f⟩).1.choose_spec.2 j u E;rw[U] at this;simpa only[X9] using this
    ·rw[dif_pos f];exact(v ⟨i,f⟩).1.choose_spec.1.1
    ·rw[dif_pos f] at Y;exact(v ⟨i,f⟩).1.choose_spec.1.2.2 u Y
   ·have q:len=0:=d9;subst q;have e0:((List.ofFn g).map enc)=[]:=o5;rw[e0];exact Rf.sl (A:=some a) (c:=cap) (ls:=[]) (fun _=>[]) 0 0 o5 W (fun h=>absurd h o5) (fun i d h=>by simp at h) (fun i d h=>by simp at h) (fun i d h=>by simp at h) (fun i d h=>by simp at h)
  ·obtain⟨i,rfl⟩:=List.mem_ofFn.1 hy;exact(v i).2.1
  ·have:=rb bk len g D fun i=>(v i).2.2;simp only[bI,Rows.uptoBulk];omega⟩
end
def wb {c:Ctx} {w:World} {v:Value} {a:AV} (h:p8 c.Φ w [v] [a]):Rd c w v a:=by
 cases h with|cons h _=>exact .fz h
def wQ {c:Ctx} {w:World} {b:Array Value} {a:List AV} (h:p8 c.Φ w b.toList a):Rd c w (.agg b) (.agg a):=by
 have:=Rf.agg h;simp only[Array.toArray_toList] at this;exact .fz this
end
section
variable {Γ:K5}
def ud {a:Type} {l:List a} {k:Nat} {x:a} (h:l[k]?=some x):l.set k x=l:=by
 apply AY;intro j;rw[AS];split
 ·rename_i e;subst e;split
  ·exact h.symm
  ·rw[AW d9]
 ·rfl
theorem p8.gw {Φ:Nat->Prop} {w:World}:∀{vs:List Value} {b:List AV},p8 Φ w vs b->∀(n:Nat) {v:Value} {a:AV},vs[n]?=some v->Rf Φ w v a->p8 Φ w vs (b.set n a)
 |_,_,.nil,n,_,_,h,_=>by simp at h
 |_,_,.cons h t,0,_,_,e,k=>by simp at e;subst e;exact .cons k t
 |_,_,.cons h t,n+1,_,_,e,k=>.cons h (p8.gw t n (by simpa using e) k)
theorem o6.fX {ts:Ts} {os:Os} (r i off j j':Nat) {sz e isz ie:Nat} {ls d:List (List AV)} {s:List AV} {v:Value} (hr:lk os r=some (.row sz ls e)) (hj:lk os j=some (.row isz d ie)) (L:lk os j'=some (.eqv j v))
  (Z:ls[i]?=some s) (ho:s[off]?=some (.aU v)) (g:A4 r j=false) (p:A4 r j'=false) (q:A4 j j'=false) {a:Act} {w:World} (C:o6 Γ ts os a w) :
  o6 Γ ts ((r,.row sz (ls.set i (s.set off (.sl isz d))) e)::(j,.aI)::(j',.aI)::os) a w:=by
 have g:=Q7 g;have p:=Q7 p;have q:=Q7 q;refine o6.ghost (need:=[(r,.row sz ls e),(j,.row isz d ie),(j',.eqv j v)]) (upd:=[(r,.row sz (ls.set i (s.set off (.sl isz d))) e),(j,.aI),(j',.aI)]) (news:=[]) [] C ⟨hr,hj,L,trivial⟩ rfl rfl rfl fun c aD=>?_;have G:lk [(r,Obj.row sz ls e),(j,.row isz d ie),(j',.eqv j v)] r=some (.row sz ls e):=j3 _ _ _;have D:lk [(r,Obj.row sz ls e),(j,.row isz d ie),(j',.eqv j v)] j=some (.row isz d ie):=by rw[G5 _ _ g,j3]
 have O:lk [(r,Obj.row sz ls e),(j,.row isz d ie),(j',.eqv j v)] j'=some (.eqv j v):=by rw[G5 _ _ p,G5 _ _ q,j3]
 have Y:∀x o,lk [(j,Obj.row isz d ie)] x=some o->lk [(r,Obj.row sz ls e),(j,.row isz d ie),(j',.eqv j v)] x=some o:=fun x o h=>by
  obtain⟨rfl,rfl⟩:=dH h;exact D
 have hv:c.hd j=v:=aD.rep j' _ O;have B:Rd c w v (.aG j):=by
  obtain⟨css,P,S,Q⟩:=aD.rep j _ D;obtain⟨A,cap,e1,V,W⟩:=P.head;rw[<-hv,e1];exact .aG (by rw[e1]) V W
 have N:Rf (c.fz [(j,.row isz d ie)]).Φ w v (.sl isz d):=(lB (aD.sub Y) (j3 _ _ _) B).rf (by simp[AV.ids]);have E:∀id,(lk [(r,Obj.row sz (ls.set i (s.set off (.sl isz d))) e),(j,.aI),(j',.aI)] id).isSome=true↔id=r\/id=j\/id=j':=fun id=>by
  rw[j5,j5,j5];by_cases k:r=id<;>by_cases l:j=id<;>by_cases I:j'=id<;>simp[k,l,I,lk]<;>omega
 refine⟨c.fz [(j,.row isz d ie)],⟨rfl,rfl,rfl,AA _,fun b h=>.inl h,fun b J=>?_,fun _ _ _=>rfl,fun _ _=>⟨rfl,rfl⟩,⟨fun id o m=>?_,fun id o b m f=>?_,fun id id' o o' b z m M f K=>?_,fun b J=>?_⟩,fun id o b m f=>?_⟩,fun t' y hy=>(by cases hy)⟩
 ·rcases J with h|⟨id,o,k,l⟩
  ·exact .inl h
  ·obtain⟨rfl,rfl⟩:=dH k;exact .inr (.inr ⟨id,_,D,(E id).2 (.inr (.inl rfl)),l⟩)
 ·rcases bt m with⟨rfl,rfl⟩|⟨_,rfl,rfl⟩|⟨_,_,rfl,rfl⟩
  ·obtain⟨css,P,S,Q⟩:=aD.rep id _ G;refine⟨css,P,by simpa using S,fun n us H F t=>?_⟩;have T:∀{us:List Value} {U:List AV},p8 c.Φ w us U->p8 (c.fz [(j,.row isz d ie)]).Φ w us U:=fun h=>h.mono (fun _ _=>rfl) fun _ h=>.inl h;rw[AS] at t;split at t
   ·rename_i X;subst X;split at t
    ·cases t;have R:=Q i us s F Z;obtain⟨u,v1,v2⟩:=R.get ho;have F:u=v:=by cases v2;rfl
     subst F;exact(T R).gw off v1 N
    ·cases t
   ·exact T (Q n us H F t)
  ·trivial
  ·trivial
 ·rcases bt m with⟨rfl,rfl⟩|⟨_,rfl,rfl⟩|⟨_,_,rfl,rfl⟩
  ·have k:=aD.lt id _ b G f;refine⟨k.1,fun h=>?_⟩;rcases h with h|⟨x,o,l,I⟩
   ·exact k.2 h
   ·obtain⟨rfl,rfl⟩:=dH l;exact aD.sep id x _ _ b g G D f I
  ·exact f.elim
  ·exact f.elim
 ·rcases bt m with⟨rfl,rfl⟩|⟨_,rfl,rfl⟩|⟨_,_,rfl,rfl⟩<;>rcases bt M with⟨rfl,rfl⟩|⟨_,rfl,rfl⟩|⟨_,_,rfl,rfl⟩<;>first|exact z rfl|exact f.elim|exact K.elim
 ·rcases J with h|⟨id,o,k,l⟩
  ·exact aD.aX b h
  ·obtain⟨rfl,rfl⟩:=dH k;exact(aD.lt id _ b D l).1
 ·rcases bt m with⟨rfl,rfl⟩|⟨_,rfl,rfl⟩|⟨_,_,rfl,rfl⟩
  ·exact .inr ⟨id,_,G,(E id).2 (.inl rfl),f⟩
  ·exact f.elim
  ·exact f.elim
theorem j4.fX {P:Program} {c:Code} {ts:Ts} {os:Os} {Q:Qt} (r i off j j':Nat) {sz e isz ie:Nat} {ls m:List (List AV)} {d:List AV} {v:Value} (q:lk os r=some (.row sz ls e)) (o:lk os j=some (.row isz m ie)) (f:lk os j'=some (.eqv j v))
  (n:ls[i]?=some d) (p:d[off]?=some (.aU v)) (g:A4 r j=false) (k:A4 r j'=false) (l:A4 j j'=false) (h:j4 P Γ c ts ((r,.row sz (ls.set i (d.set off (.sl isz m))) e)::(j,.aI)::(j',.aI)::os) Q):j4 P Γ c ts os Q :=
 ⟨fun a w b=>h.run a w (b.fX r i off j j' q o f n p g k l)⟩
theorem o6.flat {ts:Ts} {os:Os} (t id k:Nat) {sz e isz ie:Nat} {l:List (List AV×List (List AV))} (C:lk ts t=some (.bL id)) (P:lk os id=some (.nest sz e isz ie l)) (R:A4 k id=false)
  (N:D5 [k] ts=true) (O:D6 [k] [(k,.row sz (dP isz l) e),(id,.aI)] os=true) {a:Act} {w:World} (G:o6 Γ ts os a w) :
  o6 Γ ((t,.aG k)::ts) ((k,.row sz (dP isz l) e)::(id,.aI)::os) a w:=by
 have R:=Q7 R;refine o6.ghost (need:=[(id,.nest sz e isz ie l)]) (upd:=[(k,.row sz (dP isz l) e),(id,.aI)]) (news:=[k]) [(t,.aG k)] G ⟨P,trivial⟩ N O (by simp[j3]) fun c aD=>?_;have m:lk [(id,Obj.nest sz e isz ie l)] id=some (.nest sz e isz ie l):=j3 _ _ _;obtain⟨h,z,e1,W,h3,h4,h5⟩:=aD.rep id _ m;have inner:∀p∈dI z,∀b,p.1.v.ownBlock=some b->aK c id (.nest sz e isz ie l) b:=fun p j b d=>by
  refine⟨p.1.v,?_,d⟩;rw[e1];simp only[cm,AJ,AL];obtain⟨q,S,rfl⟩:=AL.1 j;exact .inr ⟨q,S,rfl⟩
 have f:∀b,h.v.ownBlock=some b->aK c id (.nest sz e isz ie l) b:=fun b d=>⟨h.v,by rw[e1];simp[cm],d⟩;let s:Nat->Prop:=fun b=>c.Φ b\/∃p∈dI z,p.1.v.ownBlock=some b;let c':Ctx:={ (c.aE k h.v) with Φ:=s };have B:c'.hd k=h.v:=by simp[c',Ctx.aE]
 have r:∀b,aK c id (.nest sz e isz ie l) b->Touch c [(id,.nest sz e isz ie l)] [(k,.row sz (dP isz l) e),(id,.aI)] b:=fun b d=>⟨id,_,m,by rw[G5 _ _ R,j3];rfl,d⟩;have E:∀b,h.v.ownBlock=some b->¬s b:=by
  rintro b d (H|⟨p,j,H⟩)
  ·exact(aD.lt id _ b m (f b d)).2 H
  ·obtain⟨q,S,rfl⟩:=AL.1 j;exact h5 b q d S H
 refine⟨c',⟨rfl,rfl,rfl,AA _,fun b d=>.inl d,fun b d=>?_,fun _ _ _=>rfl,fun x H=>⟨rfl,?_⟩,⟨fun x o C=>?_,fun x o b C g=>?_,fun x x' o o' b D C Q g M=>?_,fun b d=>?_⟩,fun x o b C g=>?_⟩,fun t' y hy=>?_⟩
 ·rcases d with d|⟨p,j,d⟩
  ·exact .inl d
  ·exact .inr (.inr (r b (inner p j b d)))
 ·have:x≠k:=by simpa using H
  simp[c',Ctx.aE,this]
 ·rcases cR C with⟨rfl,rfl⟩|⟨_,rfl,rfl⟩
  ·show I5 s w (c'.hd x) sz (dP isz l) e;rw[B];obtain⟨css,q1,q2,q3⟩:=h3;refine⟨css,q1,by rw[q2];simp only[cS,dP,AR,<-W],fun i us Y hu J=>?_⟩;have hz:∃p,z[i]?=some p/\Y=p.2.1++[.sl isz p.2.2]:=by
    rw[<-W] at J;simp only[dP,List.map_map] at J;rw[Aa,AZ] at J;obtain⟨p,j,rfl⟩:=J;exact⟨p,j,rfl⟩
   obtain⟨p,j,rfl⟩:=hz;have ho:(cS z)[i]?=some (p.2.1++[.aU p.1.v]):=by simp[cS,j]
   have h0:=q3 i us _ hu ho;have F:(p.1,p.2.2)∈dI z:=AL.2 ⟨p,AO j,rfl⟩;obtain⟨V,r1,r2,r3⟩:=h4.1 _ F;have T:Rf s w p.1.v (.sl isz p.2.2):=r1.rf r2 r3 (fun _ d=>.inl d) fun b d=>.inr ⟨_,F,d⟩;have X:p8 s w us (p.2.1++[.aU p.1.v]):=h0.mono (fun _ _=>rfl) fun _ d=>.inl d;have L:(p.2.1++[AV.aU p.1.v])[p.2.1.length]?=some (.aU p.1.v):=o5;obtain⟨u,u1,u2⟩:=X.get L;have U:u=p.1.v:=by cases u2;rfl
   subst U;have:=X.gw p.2.1.length u1 T;simpa using this
  ·trivial
 ·rcases cR C with⟨rfl,rfl⟩|⟨_,rfl,rfl⟩
  ·have g:h.v.ownBlock=some b:=by rw[<-B];exact g
   exact⟨(aD.lt id _ b m (f b g)).1,E b g⟩
  ·exact g.elim
 ·rcases cR C with⟨rfl,rfl⟩|⟨_,rfl,rfl⟩<;>rcases cR Q with⟨rfl,rfl⟩|⟨_,rfl,rfl⟩<;>first|exact D rfl|exact g.elim|exact M.elim
 ·rcases d with d|⟨p,j,d⟩
  ·exact aD.aX b d
  ·exact(aD.lt id _ b m (inner p j b d)).1
 ·rcases cR C with⟨rfl,rfl⟩|⟨_,rfl,rfl⟩
  ·have g:h.v.ownBlock=some b:=by rw[<-B];exact g
   exact .inr (r b (f b g))
  ·exact g.elim
 ·obtain⟨rfl,rfl⟩:=nJ hy;refine⟨_,C,fun v hv=>?_⟩;obtain⟨A,n,cap,vs,Z,I,e8,e9⟩:=hv.fb;rw[e1] at I;have K:h.v=.slice A n cap:=by
   injection I with I
   have:=congrArg (fun a:Array Value=>a.toList.head?) I;simpa using this
  rw[Z];exact .aG (by rw[B,K]) e8 e9
theorem j4.flat {P:Program} {c:Code} {ts:Ts} {os:Os} {Q:Qt} (t id k:Nat) {sz e isz ie:Nat} {l:List (List AV×List (List AV))} (i:lk ts t=some (.bL id)) (g:lk os id=some (.nest sz e isz ie l)) (j:A4 k id=false)
  (d:D5 [k] ts=true) (f:D6 [k] [(k,.row sz (dP isz l) e),(id,.aI)] os=true) (h:j4 P Γ c ((t,.aG k)::ts) ((k,.row sz (dP isz l) e)::(id,.aI)::os) Q):j4 P Γ c ts os Q :=
 ⟨fun a w b=>h.run a w (b.flat t id k i g j d f)⟩
theorem o6.b8 {ts:Ts} {os:Os} (id:Nat) {sz e:Nat} {ls:List (List AV)} (q:List (List AV)) (f:lk os id=some (.row sz ls e)) (g:S9 ls q) {a:Act} {w:World} (d:o6 Γ ts os a w):o6 Γ ts ((id,.row sz q e)::os) a w :=
 o6.ghost (need:=[(id,.row sz ls e)]) (upd:=[(id,.row sz q e)]) (news:=[]) [] d ⟨f,trivial⟩ rfl rfl rfl fun c aD =>
  ⟨c,aF.b8 (U:=[]) ⟨rfl,rfl,rfl,AA _,fun _ h=>h,fun _ h=>.inl h,fun _ _ _=>rfl,fun _ _=>⟨rfl,rfl⟩,aD,fun i o b j k=>.inr ⟨i,o,j,by rw[j];rfl,k⟩⟩ g,fun m y l=>(by cases l)⟩
theorem j4.b8 {P:Program} {c:Code} {ts:Ts} {os:Os} {Q:Qt} (id:Nat) {sz e:Nat} {ls:List (List AV)} (q:List (List AV)) (d:lk os id=some (.row sz ls e)) (f:S9 ls q) (h:j4 P Γ c ts ((id,.row sz q e)::os) Q):j4 P Γ c ts os Q :=
 ⟨fun a w b=>h.run a w (b.b8 id q d f)⟩
end
section
variable {Γ:K5}
theorem l8.aE {c:Ctx} {w:World} {vs:List Value} {d:List AV} {g:Nat} {v:Value} (h:l8 c w vs d) (f:(AV.aY d).all (fun i=>!Nat.beq i g)=true):l8 (c.aE g v) w vs d :=
 l8.mono (c:=c) (c':=c.aE g v) (fun _ _=>rfl) (fun _ h=>h) (fun id a=>⟨rfl,by
  have:=AH.1 f id a;have b:id≠g:=fun e=>by subst e;simp at this
  simp[Ctx.aE,b]⟩) h
def ch {a:Type} {l:List a} {k:Nat} {x:a} (h:l[k]?=some x):l.set k x=l:=ud h
theorem o6.cG {ts:Ts} {os:Os} (b off id sz e:Nat) {f:List AV} {j:Nat} (F:lk os b=some (.box f j)) (r:f[off]?=some .a8) (z:(AV.aY f).all (fun i=>!Nat.beq i id)=true) (l:A4 b id=false)
  (t:D5 [id] ts=true) (u:D6 [id] [(b,.box (f.set off (.aG id)) j),(id,.row sz [] e)] os=true) {a:Act} {w:World} (p:o6 Γ ts os a w) :
  o6 Γ ts ((b,.box (f.set off (.aG id)) j)::(id,.row sz [] e)::os) a w:=by
 have l:=Q7 l;refine o6.ghost (need:=[(b,.box f j)]) (upd:=[(b,.box (f.set off (.aG id)) j),(id,.row sz [] e)]) (news:=[id]) [] p ⟨F,trivial⟩ t u (by simp[j5,l]) fun c aD=>⟨c.aE id (.slice none 0 0),?_,fun N y H=>(by cases H)⟩;have C:lk [(b,Obj.box f j)] b=some (.box f j):=j3 _ _ _;have q:(c.aE id (.slice none 0 0)).hd id=.slice none 0 0:=by simp[Ctx.aE]
 obtain⟨us,I,J⟩:=aD.rep b _ C;refine aF.same aD rfl (fun i z=>⟨rfl,by have:i≠id:=(by simpa using z);simp[Ctx.aE,this]⟩) (fun x o m=>?_) (fun x o d m k=>?_) (fun x O o M d g m B k s=>?_)
 ·rcases cR m with⟨rfl,rfl⟩|⟨_,rfl,rfl⟩
  ·refine⟨us,I,?_⟩;have E:=J.aE (v:=.slice none 0 0) z;obtain⟨v,K,L⟩:=E.get r;have G:=L.ah;subst G;have:=E.set off (v:=.slice none 0 0) (a:=.aG id) (.aG (n:=0) (cap:=0) (A:=none) q (AA _) (by simp[maxLen]))
   rwa [ch K] at this
  ·exact⟨[],by rw[q];exact⟨.inl ⟨rfl,rfl⟩,o5,o5⟩,rfl,fun i us f h=>by simp at h⟩
 ·rcases cR m with⟨rfl,rfl⟩|⟨_,rfl,rfl⟩
  ·exact⟨x,_,C,by rw[m];rfl,k⟩
  ·have k:((c.aE x (.slice none 0 0)).hd x).ownBlock=some d:=k;rw[q] at k;cases k
 ·have D:∀d,((c.aE id (.slice none 0 0)).hd id).ownBlock=some d->False:=fun d h=>by rw[q] at h;cases h
  rcases cR m with⟨rfl,rfl⟩|⟨_,rfl,rfl⟩<;>rcases cR B with⟨rfl,rfl⟩|⟨_,rfl,rfl⟩
  ·exact g rfl
  ·exact D d s
  ·exact D d k
  ·exact g rfl
theorem j4.cG {P:Program} {c:Code} {ts:Ts} {os:Os} {Q:Qt} (b off id sz e:Nat) {d:List AV} {g:Nat} (n:lk os b=some (.box d g)) (j:d[off]?=some .a8) (o:(AV.aY d).all (fun i=>!Nat.beq i id)=true) (m:A4 b id=false)
  (k:D5 [id] ts=true) (l:D6 [id] [(b,.box (d.set off (.aG id)) g),(id,.row sz [] e)] os=true) (h:j4 P Γ c ts ((b,.box (d.set off (.aG id)) g)::(id,.row sz [] e)::os) Q):j4 P Γ c ts os Q :=
 ⟨fun a w f=>h.run a w (f.cG b off id sz e n j o m k l)⟩
theorem o6.eU {ts:Ts} {os:Os} (b off j g:Nat) {k:List AV} {m sz e:Nat} {ls:List (List AV)} (J:lk os b=some (.box k m)) (B:k[off]?=some (.aG j)) (K:lk os j=some (.row sz ls e)) (E:(AV.aY k).all (fun i=>!Nat.beq i g)=true)
  (f:A4 b j=false) (q:A4 b g=false) (r:A4 j g=false)
  (C:D5 [g] ts=true) (D:D6 [g] [(b,.box (k.set off (.aG g)) m),(g,.row sz ls e),(j,.aI)] os=true) {a:Act} {w:World} (u:o6 Γ ts os a w) :
  o6 Γ ts ((b,.box (k.set off (.aG g)) m)::(g,.row sz ls e)::(j,.aI)::os) a w:=by
 have f:=Q7 f;have q:=Q7 q;have r:=Q7 r;refine o6.ghost (need:=[(b,.box k m),(j,.row sz ls e)]) (upd:=[(b,.box (k.set off (.aG g)) m),(g,.row sz ls e),(j,.aI)]) (news:=[g]) [] u ⟨J,K,trivial⟩ C D (by simp[j5,q]) fun c aD=>⟨c.aE g (c.hd j),?_,fun W y L=>(by cases L)⟩;have G:lk [(b,Obj.box k m),(j,.row sz ls e)] b=some (.box k m):=j3 _ _ _;have H:lk [(b,Obj.box k m),(j,.row sz ls e)] j=some (.row sz ls e):=by rw[G5 _ _ f,j3]
 have z:(c.aE g (c.hd j)).hd g=c.hd j:=by simp[Ctx.aE]
 obtain⟨us,R,I⟩:=aD.rep b _ G;have Q:I5 c.Φ w (c.hd j) sz ls e:=aD.rep j _ H;refine aF.same aD rfl (fun i E=>⟨rfl,by have:i≠g:=(by simpa using E);simp[Ctx.aE,this]⟩) (fun x o s=>?_) (fun x o d s l=>?_) (fun x X o V d t s F l p=>?_)
 ·rcases bt s with⟨rfl,rfl⟩|⟨_,rfl,rfl⟩|⟨_,_,rfl,rfl⟩
  ·refine⟨us,R,?_⟩;obtain⟨v,T,U⟩:=I.get B;have S:=I.aE (v:=c.hd j) E;obtain⟨A,n,cap,M,N,O,P⟩:=U.aj;have:=S.set off (v:=v) (a:=.aG g) (by rw[M];exact .aG (by rw[z,N]) O P)
   rwa [ch T] at this
  ·show I5 c.Φ w ((c.aE x (c.hd j)).hd x) sz ls e;rw[z];exact Q
  ·trivial
 ·rcases bt s with⟨rfl,rfl⟩|⟨_,rfl,rfl⟩|⟨_,_,rfl,rfl⟩
  ·exact⟨x,_,G,by rw[s];rfl,l⟩
  ·have l:((c.aE x (c.hd j)).hd x).ownBlock=some d:=l;rw[z] at l;exact⟨j,_,H,by rw[G5 _ _ f,G5 _ _ (Ne.symm r),j3];rfl,l⟩
  ·exact l.elim
 ·have apart:∀d,((c.aE g (c.hd j)).hd g).ownBlock=some d->d≠c.μ b:=fun d h e=>by
   rw[z] at h;exact aD.sep j b _ _ d (Ne.symm f) H G h e
  rcases bt s with⟨rfl,rfl⟩|⟨_,rfl,rfl⟩|⟨_,_,rfl,rfl⟩<;>rcases bt F with⟨rfl,rfl⟩|⟨_,rfl,rfl⟩|⟨_,_,rfl,rfl⟩<;>first|exact t rfl|exact l.elim|exact p.elim|exact apart d l p|exact apart d p l
theorem j4.eU {P:Program} {c:Code} {ts:Ts} {os:Os} {Q:Qt} (b off j g:Nat) {d:List AV} {k sz e:Nat} {ls:List (List AV)} (r:lk os b=some (.box d k)) (l:d[off]?=some (.aG j)) (t:lk os j=some (.row sz ls e)) (s:(AV.aY d).all (fun i=>!Nat.beq i g)=true)
  (o:A4 b j=false) (p:A4 b g=false) (q:A4 j g=false)
  (m:D5 [g] ts=true) (n:D6 [g] [(b,.box (d.set off (.aG g)) k),(g,.row sz ls e),(j,.aI)] os=true) (h:j4 P Γ c ts ((b,.box (d.set off (.aG g)) k)::(g,.row sz ls e)::(j,.aI)::os) Q):j4 P Γ c ts os Q :=
 ⟨fun a w f=>h.run a w (f.eU b off j g r l t s o p q m n)⟩
theorem o6.ca {ts:Ts} {os:Os} (id:Nat) {i:List AV} {e:Nat} (b:List AV) (j:lk os id=some (.box i e)) (l:cu i b) {a:Act} {w:World} (h:o6 Γ ts os a w):o6 Γ ts ((id,.box b e)::os) a w :=
 o6.ghost (need:=[(id,.box i e)]) (upd:=[(id,.box b e)]) (news:=[]) [] h ⟨j,trivial⟩ rfl rfl rfl fun c aD =>
  ⟨c,aF.same aD rfl (fun _ _=>⟨rfl,rfl⟩) (fun x o g=>by
   obtain⟨rfl,rfl⟩:=dH g;obtain⟨us,p,q⟩:=aD.rep x _ (j3 _ _ _);exact⟨us,p,jR l q⟩) (fun x o d g m=>by
   obtain⟨rfl,rfl⟩:=dH g;exact⟨x,_,j3 _ _ _,by rw[j3];rfl,m⟩) (fun x t o r d f g k _=>by
   obtain⟨rfl,_⟩:=dH g;obtain⟨rfl,_⟩:=dH k;exact absurd rfl f),fun s y n=>(by cases n)⟩
theorem j4.ca {P:Program} {c:Code} {ts:Ts} {os:Os} {Q:Qt} (id:Nat) {i:List AV} {e:Nat} (b:List AV) (f:lk os id=some (.box i e)) (g:cu i b) (h:j4 P Γ c ts ((id,.box b e)::os) Q):j4 P Γ c ts os Q :=
 ⟨fun a w d=>h.run a w (d.ca id b f g)⟩
theorem O9.ca {ts:Ts} {os:Os} {Q:Qt} (id:Nat) {g:List AV} {e:Nat} (b:List AV) (d:lk os id=some (.box g e)) (f:cu g b) (h:O9 Γ ts ((id,.box b e)::os) Q):O9 Γ ts os Q :=
 ⟨fun a w c=>h.run a w (c.ca id b d f)⟩
end
def vE {a:Type} {l:List a} {k:Nat} {x:a} (h:l[k]?=some x):l.take (k+1)=l.take k++[x]:=by
 rw[List.take_add_one,h];rfl
section
variable {Γ:K5}
end
section
variable {Γ:K5} {P:Program}
end
section
variable {α:Type} {enc:α->List AV}
def s8 {l:List α} {i:Nat} {x:α} (h:l[i]?=some x):i<(l.map enc).length:=by
 rw[AR];exact(AF.1 h).1
def xZ {l:List α} {i:Nat} {x:α} (h:l[i]?=some x) {A B C D K:Prop} (a:A) (b:B) (c:C) (d:D) (H:K):A/\B/\i<(l.map enc).length/\C/\D/\K:=⟨a,b,s8 h,c,d,H⟩
def xE {l:List α} {i:Nat} {x:α} (h:l[i]?=some x) {A B D K:Prop} (a:A) (b:B) (d:D) (H:K):A/\B/\i<(l.map enc).length/\D/\K:=⟨a,b,s8 h,d,H⟩
end
theorem Gh.drop {Γ:K5} {ts:Ts} {os:Os} (id:Nat) {o:Obj} (e:lk os id=some o):Gh Γ ts os (fun _:Unit=>ts) (fun _=>(id,.aI)::os) :=
 Gh.of (need:=[(id,o)]) (upd:=fun _=>[(id,.aI)]) (ex:=fun _=>[]) (news:=[]) ⟨e,trivial⟩ rfl (fun _=>rfl) (fun _=>rfl) fun c w aD _ =>
  ⟨(),c,aF.mk' aD rfl rfl rfl rfl (AA _) (fun _ _ _=>rfl) (fun k _=>⟨rfl,rfl⟩) (fun k f a=>by
   obtain⟨_,rfl⟩:=dH a;trivial) (fun k f b a d=>by
   obtain⟨_,rfl⟩:=dH a;exact d.elim) (fun k l f m b j a i d g=>by
   obtain⟨_,rfl⟩:=dH a;exact d.elim),fun t y h=>by cases h⟩
def lb (k:IntKind) (n:Int):List AV:=[.ik k n]
structure U0 where
  err:Int
  ga:Int
  deriving DecidableEq,Inhabited
def kr (x:U0):List AV:=[.int x.err,.int x.ga]
structure l9 where
  s:ByteArray
  cH:Bool
  deriving DecidableEq,Inhabited
def H6 (x:l9):List AV:=[.str x.s,.bool x.cH]
structure J8 where
  l:(List ByteArray)
  cH:Bool
  deriving DecidableEq,Inhabited
def cM (x:J8):List AV:=[.sl 1 (List.map fE x.l),.bool x.cH]
structure M9 where
  f0:Int
  f1:Int
  deriving DecidableEq,Inhabited
def kq (x:M9):List AV:=[.int x.f0,.int x.f1]
abbrev s3 (l:List Int):AV:=.sl 1 (l.map Q0)
abbrev s5 (l:List Int):AV:=.sl 1 (l.map (lb .u8))
abbrev xx (l:List Me):AV:=.sl 5 (l.map X7)
abbrev sD (l:List Ins):AV:=.sl 5 (l.map dF)
abbrev w3 (l:List Int):Obj:=.row 1 (l.map Q0) 3
abbrev w5 (l:List Int):Obj:=.row 1 (l.map (lb .u8)) 5
abbrev w9 (l:List ByteArray):Obj:=.row 1 (l.map fE) 9
abbrev ll (l:List Me):Obj:=.row 5 (l.map X7) 27
abbrev ln (l:List V):Obj:=.row 2 (l.map eV) 29
abbrev lp (l:List Ins):Obj:=.row 5 (l.map dF) 55
abbrev lq (l:List Cl):Obj:=.row 4 (l.map gB) 81
abbrev lr (l:List Ob):Obj:=.row 2 (l.map ig) 92
abbrev kk (l:List M9):Obj:=.row 2 (l.map kq) 184
section
open Go.ChangeShapes Go.WideShapes Go.ChangeAt Go.RowKit Go.Deep
def lC (a:Ins):Prop:=cf a.op/\cf a.a/\cf a.b/\cf a.c/\lf a.name
def eI (a:Ins):Nat:=bE a.op+bE a.a+bE a.b+bE a.c+ei a.name+1
def uv (a:Ins):1<=eI a:=by unfold eI;omega
def kn (a:Me):Prop:=lf a.name/\cf a.args/\cf a.aJ/\cf a.aO/\(di lC) a.code
def df (a:Me):Nat:=ei a.name+bE a.args+bE a.aJ+bE a.aO+(bI eI) a.code+1
def vZ (a:Me):1<=df a:=by unfold df;omega
def ki (a:Cl):Prop:=lf a.name/\cf a.aH/\cf a.aC/\(di kn) a.aB
def du (a:Cl):Nat:=ei a.name+bE a.aH+bE a.aC+(bI df) a.aB+1
def vv (a:Cl):1<=du a:=by unfold du;omega
def lg (a:V):Prop:=cf a.k/\cf a.n
def eO (a:V):Nat:=bE a.k+bE a.n+1
def wI (a:V):1<=eO a:=by unfold eO;omega
def kj (a:Ob):Prop:=cf a.cls/\(di lg) a.aC
def dr (a:Ob):Nat:=bE a.cls+(bI eO) a.aC+1
def va (a:Ob):1<=dr a:=by unfold dr;omega
def km (a:Wd):Prop:=(di ki) a.a7/\(di kj) a.heap/\cf a.aN
def fx (a:Wd):Nat:=(bI du) a.a7+(bI dr) a.heap+bE a.aN+1
end
end Go.Proofs.YtibjcppjfkamhaaGreatDoor
namespace Go.Proofs
open Go.Shelf
def Tryz.cD : Go.Shelf.Ren := ⟨fun | 171 => 50 | 243 => 82 | 246 => 111 | 283 => 147 | 284 => 148 | 285 => 149 | 286 => 150 | 129 => 144 | 317 => 184 | 318 => 185 | 319 => 186 | 320 => 187 | 337 => 212 | 338 => 213 | n => n, fun | 3 => 3 | 9 => 9 | 2 => 2 | 4 => 4 | 171 => 230 | 0 => 0 | 53 => 227 | 37 => 43 | 5 => 5 | 173 => 232 | 212 => 273 | 51 => 225 | 20 => 20 | 213 => 274 | 46 => 179 | 232 => 316 | 233 => 317 | n => n, fun | 17 => 0 | 18 => 4 | 19 => 5 | n => n⟩
theorem Tryz.eP : Go.Proofs.LaysM.n171 Tryz.prog Tryz.cD := {
  mixed := by kernel_rfl
  f129 := Tryz.func144.trans (congrArg some (by kernel_rfl))
  f171 := Tryz.func50.trans (congrArg some (by kernel_rfl))
  f243 := Tryz.func82.trans (congrArg some (by kernel_rfl))
  f246 := Tryz.func111.trans (congrArg some (by kernel_rfl))
  f283 := Tryz.func147.trans (congrArg some (by kernel_rfl))
  f284 := Tryz.func148.trans (congrArg some (by kernel_rfl))
  f285 := Tryz.func149.trans (congrArg some (by kernel_rfl))
  f286 := Tryz.func150.trans (congrArg some (by kernel_rfl))
  f317 := Tryz.func184.trans (congrArg some (by kernel_rfl))
  f318 := Tryz.func185.trans (congrArg some (by kernel_rfl))
  f319 := Tryz.func186.trans (congrArg some (by kernel_rfl))
  f320 := Tryz.func187.trans (congrArg some (by kernel_rfl))
  f337 := Tryz.func212.trans (congrArg some (by kernel_rfl))
  f338 := Tryz.func213.trans (congrArg some (by kernel_rfl))
  t0 := Tryz.underlying0
  a0 := Tryz.isAgg0
  z0 := Tryz.sizeOf0
  v0 := Tryz.zeroValue0
  t2 := Tryz.underlying2
  a2 := Tryz.isAgg2
  z2 := Tryz.sizeOf2
  v2 := Tryz.zeroValue2
  t3 := Tryz.underlying3
  a3 := Tryz.isAgg3
  z3 := Tryz.sizeOf3
  v3 := Tryz.zeroValue3
  t4 := Tryz.underlying4
  a4 := Tryz.isAgg4
  z4 := Tryz.sizeOf4
  v4 := Tryz.zeroValue4
  t5 := Tryz.underlying5
  a5 := Tryz.isAgg5
  z5 := Tryz.sizeOf5
  v5 := Tryz.zeroValue5
  t9 := Tryz.underlying9
  a9 := Tryz.isAgg9
  z9 := Tryz.sizeOf9
  v9 := Tryz.zeroValue9
  t20 := Tryz.underlying20
  a20 := Tryz.isAgg20
  z20 := Tryz.sizeOf20
  v20 := Tryz.zeroValue20
  t37 := Tryz.underlying43
  a37 := Tryz.isAgg43
  z37 := Tryz.sizeOf43
  v37 := Tryz.zeroValue43
  t46 := Tryz.underlying179
  a46 := Tryz.isAgg179
  z46 := Tryz.sizeOf179
  v46 := Tryz.zeroValue179
  t51 := Tryz.underlying225
  a51 := Tryz.isAgg225
  z51 := Tryz.sizeOf225
  v51 := Tryz.zeroValue225
  t53 := Tryz.underlying227
  a53 := Tryz.isAgg227
  z53 := Tryz.sizeOf227
  v53 := Tryz.zeroValue227
  t171 := Tryz.underlying230
  a171 := Tryz.isAgg230
  z171 := Tryz.sizeOf230
  v171 := Tryz.zeroValue230
  t173 := Tryz.underlying232
  a173 := Tryz.isAgg232
  z173 := Tryz.sizeOf232
  v173 := Tryz.zeroValue232
  t212 := Tryz.underlying273
  a212 := Tryz.isAgg273
  z212 := Tryz.sizeOf273
  v212 := Tryz.zeroValue273
  t213 := Tryz.underlying274
  a213 := Tryz.isAgg274
  z213 := Tryz.sizeOf274
  t232 := Tryz.underlying316
  a232 := Tryz.isAgg316
  z232 := Tryz.sizeOf316
  v232 := Tryz.zeroValue316
  t233 := Tryz.underlying317
  a233 := Tryz.isAgg317
  z233 := Tryz.sizeOf317
  v233 := Tryz.zeroValue317
  g17 := by kernel_rfl
  g18 := by kernel_rfl
  g19 := by kernel_rfl
  i0 := by kernel_rfl
  i2 := by kernel_rfl
  i3 := by kernel_rfl
  i4 := by kernel_rfl
  i5 := by kernel_rfl
  i9 := by kernel_rfl
  i20 := by kernel_rfl
  i37 := by kernel_rfl
  i46 := by kernel_rfl
  i51 := by kernel_rfl
  i53 := by kernel_rfl
  i171 := by kernel_rfl
  i173 := by kernel_rfl
  i212 := by kernel_rfl
  i232 := by kernel_rfl
  i233 := by kernel_rfl
  m17 := by kernel_rfl
  m18 := by kernel_rfl
  m19 := by kernel_rfl }
open Go.RowKit Go.Sort Go.Lib in
theorem Tryz.strconv_Itoa (n : Int) (h0 : -9223372036854775808 ≤ n) (h1 : n ≤ 9223372036854775807) (w : World) (htab : Lib.TabIs Tryz.prog w "internal/strconv.uint64pow10" .u64 Lib.pow10Tab) :
    Calls Tryz.prog 50 #[.int .i64 n] w fun e w' => e = .returned (.string ⟨(Lib.itoa n).toArray⟩) ∧ ∃ k os, w' = grow (w.drewN k) os := Any.strconv_Itoa Tryz.eP n h0 h1 w htab
def Tryz.cC : Go.Shelf.Ren := ⟨fun | 172 => 87 | 244 => 113 | 245 => 114 | 247 => 152 | 279 => 153 | 280 => 154 | 281 => 155 | 282 => 156 | 287 => 189 | 316 => 190 | 171 => 50 | 205 => 191 | 321 => 218 | 322 => 219 | 243 => 82 | 246 => 111 | 283 => 147 | 284 => 148 | 285 => 149 | 286 => 150 | 129 => 144 | 317 => 184 | 318 => 185 | 319 => 186 | 320 => 187 | 337 => 212 | 338 => 213 | n => n, fun | 9 => 9 | 3 => 3 | 75 => 143 | 76 => 144 | 4 => 4 | 5 => 5 | 167 => 234 | 37 => 43 | 0 => 0 | 85 => 235 | 2 => 2 | 168 => 237 | 53 => 227 | 175 => 276 | 46 => 179 | 210 => 280 | 127 => 147 | 145 => 308 | 143 => 306 | 21 => 21 | 171 => 230 | 173 => 232 | 212 => 273 | 51 => 225 | 20 => 20 | 213 => 274 | 232 => 316 | 233 => 317 | 80 => 103 | n => n, fun | 15 => 1 | 16 => 2 | 17 => 0 | 18 => 4 | 19 => 5 | n => n⟩
theorem Tryz.bc : Go.Proofs.LaysC.n172 Tryz.prog Tryz.cC := {
  mixed := by kernel_rfl
  f129 := Tryz.func144.trans (congrArg some (by kernel_rfl))
  f171 := Tryz.func50.trans (congrArg some (by kernel_rfl))
  f172 := Tryz.func87.trans (congrArg some (by kernel_rfl))
  f205 := Tryz.func191.trans (congrArg some (by kernel_rfl))
  f243 := Tryz.func82.trans (congrArg some (by kernel_rfl))
  f244 := Tryz.func113.trans (congrArg some (by kernel_rfl))
  f245 := Tryz.func114.trans (congrArg some (by kernel_rfl))
  f246 := Tryz.func111.trans (congrArg some (by kernel_rfl))
  f247 := Tryz.func152.trans (congrArg some (by kernel_rfl))
  f279 := Tryz.func153.trans (congrArg some (by kernel_rfl))
  f280 := Tryz.func154.trans (congrArg some (by kernel_rfl))
  f281 := Tryz.func155.trans (congrArg some (by kernel_rfl))
  f282 := Tryz.func156.trans (congrArg some (by kernel_rfl))
  f283 := Tryz.func147.trans (congrArg some (by kernel_rfl))
  f284 := Tryz.func148.trans (congrArg some (by kernel_rfl))
  f285 := Tryz.func149.trans (congrArg some (by kernel_rfl))
  f286 := Tryz.func150.trans (congrArg some (by kernel_rfl))
  f287 := Tryz.func189.trans (congrArg some (by kernel_rfl))
  f316 := Tryz.func190.trans (congrArg some (by kernel_rfl))
  f317 := Tryz.func184.trans (congrArg some (by kernel_rfl))
  f318 := Tryz.func185.trans (congrArg some (by kernel_rfl))
  f319 := Tryz.func186.trans (congrArg some (by kernel_rfl))
  f320 := Tryz.func187.trans (congrArg some (by kernel_rfl))
  f321 := Tryz.func218.trans (congrArg some (by kernel_rfl))
  f322 := Tryz.func219.trans (congrArg some (by kernel_rfl))
  f337 := Tryz.func212.trans (congrArg some (by kernel_rfl))
  f338 := Tryz.func213.trans (congrArg some (by kernel_rfl))
  t0 := Tryz.underlying0
  a0 := Tryz.isAgg0
  z0 := Tryz.sizeOf0
  v0 := Tryz.zeroValue0
  t2 := Tryz.underlying2
  a2 := Tryz.isAgg2
  z2 := Tryz.sizeOf2
  v2 := Tryz.zeroValue2
  t3 := Tryz.underlying3
  a3 := Tryz.isAgg3
  z3 := Tryz.sizeOf3
  v3 := Tryz.zeroValue3
  t4 := Tryz.underlying4
  a4 := Tryz.isAgg4
  z4 := Tryz.sizeOf4
  v4 := Tryz.zeroValue4
  t5 := Tryz.underlying5
  a5 := Tryz.isAgg5
  z5 := Tryz.sizeOf5
  v5 := Tryz.zeroValue5
  t9 := Tryz.underlying9
  a9 := Tryz.isAgg9
  z9 := Tryz.sizeOf9
  v9 := Tryz.zeroValue9
  t20 := Tryz.underlying20
  a20 := Tryz.isAgg20
  z20 := Tryz.sizeOf20
  v20 := Tryz.zeroValue20
  t21 := Tryz.underlying21
  a21 := Tryz.isAgg21
  z21 := Tryz.sizeOf21
  v21 := Tryz.zeroValue21
  t37 := Tryz.underlying43
  a37 := Tryz.isAgg43
  z37 := Tryz.sizeOf43
  v37 := Tryz.zeroValue43
  t46 := Tryz.underlying179
  a46 := Tryz.isAgg179
  z46 := Tryz.sizeOf179
  v46 := Tryz.zeroValue179
  t51 := Tryz.underlying225
  a51 := Tryz.isAgg225
  z51 := Tryz.sizeOf225
  v51 := Tryz.zeroValue225
  t53 := Tryz.underlying227
  a53 := Tryz.isAgg227
  z53 := Tryz.sizeOf227
  v53 := Tryz.zeroValue227
  t75 := Tryz.underlying143
  a75 := Tryz.isAgg143
  z75 := Tryz.sizeOf143
  v75 := Tryz.zeroValue143
  t76 := Tryz.underlying144
  a76 := Tryz.isAgg144
  z76 := Tryz.sizeOf144
  v76 := Tryz.zeroValue144
  t85 := Tryz.underlying235
  a85 := Tryz.isAgg235
  z85 := Tryz.sizeOf235
  v85 := Tryz.zeroValue235
  t127 := Tryz.underlying147
  a127 := Tryz.isAgg147
  z127 := Tryz.sizeOf147
  v127 := Tryz.zeroValue147
  t143 := Tryz.underlying306
  a143 := Tryz.isAgg306
  z143 := Tryz.sizeOf306
  v143 := Tryz.zeroValue306
  t145 := Tryz.underlying308
  a145 := Tryz.isAgg308
  z145 := Tryz.sizeOf308
  v145 := Tryz.zeroValue308
  t167 := Tryz.underlying234
  a167 := Tryz.isAgg234
  z167 := Tryz.sizeOf234
  v167 := Tryz.zeroValue234
  t168 := Tryz.underlying237
  a168 := Tryz.isAgg237
  z168 := Tryz.sizeOf237
  v168 := Tryz.zeroValue237
  t171 := Tryz.underlying230
  a171 := Tryz.isAgg230
  z171 := Tryz.sizeOf230
  v171 := Tryz.zeroValue230
  t173 := Tryz.underlying232
  a173 := Tryz.isAgg232
  z173 := Tryz.sizeOf232
  v173 := Tryz.zeroValue232
  t175 := Tryz.underlying276
  a175 := Tryz.isAgg276
  z175 := Tryz.sizeOf276
  v175 := Tryz.zeroValue276
  t210 := Tryz.underlying280
  a210 := Tryz.isAgg280
  z210 := Tryz.sizeOf280
  v210 := Tryz.zeroValue280
  t212 := Tryz.underlying273
  a212 := Tryz.isAgg273
  z212 := Tryz.sizeOf273
  v212 := Tryz.zeroValue273
  t213 := Tryz.underlying274
  a213 := Tryz.isAgg274
  z213 := Tryz.sizeOf274
  t232 := Tryz.underlying316
  a232 := Tryz.isAgg316
  z232 := Tryz.sizeOf316
  v232 := Tryz.zeroValue316
  t233 := Tryz.underlying317
  a233 := Tryz.isAgg317
  z233 := Tryz.sizeOf317
  v233 := Tryz.zeroValue317
  g15 := by kernel_rfl
  g16 := by kernel_rfl
  g17 := by kernel_rfl
  g18 := by kernel_rfl
  g19 := by kernel_rfl
  t80 := Tryz.underlying103
  a80 := Tryz.isAgg103
  z80 := Tryz.sizeOf103
  v80 := Tryz.zeroValue103
  i0 := by kernel_rfl
  i2 := by kernel_rfl
  i3 := by kernel_rfl
  i4 := by kernel_rfl
  i5 := by kernel_rfl
  i9 := by kernel_rfl
  i20 := by kernel_rfl
  i21 := by kernel_rfl
  i37 := by kernel_rfl
  i46 := by kernel_rfl
  i51 := by kernel_rfl
  i53 := by kernel_rfl
  i75 := by kernel_rfl
  i76 := by kernel_rfl
  i80 := by kernel_rfl
  i85 := by kernel_rfl
  i127 := by kernel_rfl
  i143 := by kernel_rfl
  i145 := by kernel_rfl
  i167 := by kernel_rfl
  i168 := by kernel_rfl
  i171 := by kernel_rfl
  i173 := by kernel_rfl
  i175 := by kernel_rfl
  i210 := by kernel_rfl
  i212 := by kernel_rfl
  i232 := by kernel_rfl
  i233 := by kernel_rfl
  m15 := by kernel_rfl
  m16 := by kernel_rfl
  m17 := by kernel_rfl
  m18 := by kernel_rfl
  m19 := by kernel_rfl
  c0 := by kernel_rfl
  c2 := by kernel_rfl
  c3 := by kernel_rfl
  c4 := by kernel_rfl
  c5 := by kernel_rfl
  c9 := by kernel_rfl
  c20 := by kernel_rfl
  c21 := by kernel_rfl
  c37 := by kernel_rfl
  c46 := by kernel_rfl
  c51 := by kernel_rfl
  c53 := by kernel_rfl
  c75 := by kernel_rfl
  c76 := by kernel_rfl
  c80 := by kernel_rfl
  c85 := by kernel_rfl
  c127 := by kernel_rfl
  c143 := by kernel_rfl
  c145 := by kernel_rfl
  c167 := by kernel_rfl
  c168 := by kernel_rfl
  c171 := by kernel_rfl
  c173 := by kernel_rfl
  c175 := by kernel_rfl
  c210 := by kernel_rfl
  c212 := by kernel_rfl
  c213 := by kernel_rfl
  c232 := by kernel_rfl
  c233 := by kernel_rfl }
open Go.RowKit in
theorem Tryz.strconv_Atoi_ok (s : ByteArray) (hmax : s.size ≤ 9223372036854775806) (v : Int) (h : Lib.atoiAll s.data.toList = .ok v) (w : World) :
    Calls Tryz.prog 87 #[.string s] w fun e w' => e = .returned (.tuple #[.int .i64 v, .nilIface]) ∧ (w' = w ∨ ∃ t, w' = Lib.bytesWorld w 5 t) := Any.strconv_Atoi_ok Tryz.bc s hmax v h w
open Go.RowKit in
theorem Tryz.strconv_Atoi_syntax (s : ByteArray) (hlim : s.size ≤ 281474976710656) (h : Lib.atoiAll s.data.toList = Lib.NumEnd.syntax) (ev : Value) (w : World) (hv : w.cell? ⟨1, 0, none⟩ = some ev) (hev : ev = .nilIface ∨ ∃ te pe, ev = .iface te pe) :
    Calls Tryz.prog 87 #[.string s] w fun e w' => ∃ N, e = .returned (.tuple #[.int .i64 (0), .iface 237 (.pointer (some ⟨N, 0, none⟩))]) ∧ w.heap.size ≤ N ∧ w'.heap[N]? = some (.cells #[.string ⟨#[65, 116, 111, 105]⟩, .string s, ev] 280 (0, 0)) ∧ Below w.heap.size w w' := Any.strconv_Atoi_syntax Tryz.bc s hlim h ev w hv hev
open Go.RowKit in
theorem Tryz.strconv_Atoi_range (s : ByteArray) (hlim : s.size ≤ 281474976710656) (h : Lib.atoiAll s.data.toList = .range) (ev : Value) (w : World) (hv : w.cell? ⟨2, 0, none⟩ = some ev) (hev : ev = .nilIface ∨ ∃ te pe, ev = .iface te pe) :
    Calls Tryz.prog 87 #[.string s] w fun e w' => ∃ N, e = .returned (.tuple #[.int .i64 (Lib.atoiSat s.data.toList), .iface 237 (.pointer (some ⟨N, 0, none⟩))]) ∧ w.heap.size ≤ N ∧ w'.heap[N]? = some (.cells #[.string ⟨#[65, 116, 111, 105]⟩, .string s, ev] 280 (0, 0)) ∧ Below w.heap.size w w' := Any.strconv_Atoi_range Tryz.bc s hlim h ev w hv hev
def Tryz.cZ : Go.Shelf.Ren := ⟨fun | 145 => 112 | 220 => 151 | 219 => 188 | 217 => 214 | 225 => 215 | 224 => 216 | 267 => 217 | 266 => 233 | 314 => 234 | n => n, fun | 9 => 9 | 4 => 4 | 59 => 190 | 3 => 3 | 5 => 5 | 46 => 179 | 146 => 318 | 51 => 225 | n => n, fun | 1 => 3 | n => n⟩
theorem Tryz.fZ : Go.Proofs.Lays.n145 Tryz.prog Tryz.cZ := {
  mixed := by kernel_rfl
  f145 := Tryz.func112.trans (congrArg some (by kernel_rfl))
  f217 := Tryz.func214.trans (congrArg some (by kernel_rfl))
  f219 := Tryz.func188.trans (congrArg some (by kernel_rfl))
  f220 := Tryz.func151.trans (congrArg some (by kernel_rfl))
  f224 := Tryz.func216.trans (congrArg some (by kernel_rfl))
  f225 := Tryz.func215.trans (congrArg some (by kernel_rfl))
  f266 := Tryz.func233.trans (congrArg some (by kernel_rfl))
  f267 := Tryz.func217.trans (congrArg some (by kernel_rfl))
  f314 := Tryz.func234.trans (congrArg some (by kernel_rfl))
  t3 := Tryz.underlying3
  a3 := Tryz.isAgg3
  z3 := Tryz.sizeOf3
  v3 := Tryz.zeroValue3
  t4 := Tryz.underlying4
  a4 := Tryz.isAgg4
  z4 := Tryz.sizeOf4
  v4 := Tryz.zeroValue4
  t5 := Tryz.underlying5
  a5 := Tryz.isAgg5
  z5 := Tryz.sizeOf5
  v5 := Tryz.zeroValue5
  t9 := Tryz.underlying9
  a9 := Tryz.isAgg9
  z9 := Tryz.sizeOf9
  v9 := Tryz.zeroValue9
  t46 := Tryz.underlying179
  a46 := Tryz.isAgg179
  z46 := Tryz.sizeOf179
  v46 := Tryz.zeroValue179
  t51 := Tryz.underlying225
  a51 := Tryz.isAgg225
  z51 := Tryz.sizeOf225
  v51 := Tryz.zeroValue225
  t59 := Tryz.underlying190
  a59 := Tryz.isAgg190
  z59 := Tryz.sizeOf190
  v59 := Tryz.zeroValue190
  t146 := Tryz.underlying318
  a146 := Tryz.isAgg318
  z146 := Tryz.sizeOf318
  v146 := Tryz.zeroValue318
  g1 := by kernel_rfl }
open Go.RowKit Go.Lib in
theorem Tryz.strings_Cut (s sep : ByteArray) (m : Int) (w : World) (hs : s.size < 4294967281) (hm : w.cell? ⟨3, 0, none⟩ = some (.int .i64 m)) :
    Calls Tryz.prog 112 #[.string s, .string sep] w fun e w' => e = .returned (.tuple #[.string ⟨(Lib.cut s.data.toList sep.data.toList).1.toArray⟩, .string ⟨(Lib.cut s.data.toList sep.data.toList).2.1.toArray⟩, .bool (Lib.cut s.data.toList sep.data.toList).2.2]) ∧ ∃ n, w' = w.drewN n := Any.strings_Cut Tryz.fZ s sep m w hs hm
end Go.Proofs
namespace Go.Proofs.YtibjcppjfkamhaaGreatDoor
open Go.RowKit Go.Proofs.Tryz
open _root_.And renaming intro->A5
open _root_.Bool renaming and_eq_true->A7,not_true->AI
open _root_.ByteArray renaming empty->AE
open _root_.List renaming getElem?_eq_getElem->A8,getElem?_eq_some_iff->AF,replicate->AG,all_eq_true->AH,mem_cons->AJ,append_assoc->AK,mem_map->AL,mem_of_getElem?->AO,length_cons->AP,map_cons->AQ,length_map->AR,getElem?_set->AS,mem_append->AT,getElem?_eq_none->AW,ext_getElem?->AY,getElem?_map->Aa,getElem?_drop->Ac
open _root_.Nat renaming beq->A4,le_refl->AA,eq_of_beq_eq_true->AB,ble->AD,blt->AM,le_of_ble_eq_true->AU
open _root_.Option renaming bind_some->A0,map_eq_some_iff->AZ
open _root_.Or renaming inl->A9
def nU : List ByteArray:=[⟨#[42]⟩,⟨#[43]⟩,⟨#[45]⟩,⟨#[60]⟩,⟨#[61]⟩]
def M6 : List Me:=[⟨⟨#[42]⟩,1,0,3,[]⟩,⟨⟨#[43]⟩,1,0,1,[]⟩,⟨⟨#[45]⟩,1,0,2,[]⟩,⟨⟨#[60]⟩,1,0,4,[]⟩,⟨⟨#[61]⟩,1,0,5,[]⟩]
def O5 : Wd:=⟨[⟨⟨#[79,98,106,101,99,116]⟩,-1,0,[]⟩,⟨⟨#[78,105,108]⟩,0,0,[]⟩,⟨⟨#[66,111,111,108]⟩,0,0,[]⟩,⟨⟨#[73,110,116]⟩,0,0,M6⟩],[],0⟩
def lz (N:Nat):Option Wd:=some O5
def mz (N:Nat):Option Wd:=some O5
def strconv_Itoa (N:Nat) (n:Int):Option ByteArray:=some ⟨(Lib.itoa n).toArray⟩
def strconv_Atoi (N:Nat) (s:ByteArray):Option (Int×Bool):=bif decide (s.size<=281474976710656) then some (match Lib.atoiAll s.data.toList with
 |.ok v=>(v,true)
 |.range=>(Lib.atoiSat s.data.toList,false)
 |_=>(0,false)) else none
def strings_Cut (N:Nat) (s sep:ByteArray):Option (ByteArray×ByteArray×Bool):=bif decide (s.size<4294967281) then some (⟨(Lib.cut s.data.toList sep.data.toList).1.toArray⟩,⟨(Lib.cut s.data.toList sep.data.toList).2.1.toArray⟩,(Lib.cut s.data.toList sep.data.toList).2.2) else none
structure fA (w:World):Prop where
 tab : Lib.TabIs prog w "internal/strconv.uint64pow10" .u64 Lib.pow10Tab
 xy:∃ev,w.cell? ⟨1,0,none⟩=some ev/\(ev=.nilIface\/∃te pe,ev=.iface te pe)
 bC:∃ev,w.cell? ⟨2,0,none⟩=some ev/\(ev=.nilIface\/∃te pe,ev=.iface te pe)
 mx:∃m,w.cell? ⟨3,0,none⟩=some (.int .i64 m)
def fg : List Nat:=[0,1,2,3]
def GL : Obj:=.js fg fA
theorem GL.at {c:Ctx} {w:World} {id:Nat} (h:bm c w id GL):fA w:=by
 obtain ⟨_,f,⟨t,⟨s,n,o⟩,⟨r,k,l⟩,⟨m,j⟩⟩,e⟩:=h;have cell:∀b∈fg,∀v,f.cell? ⟨b,0,none⟩=some v->w.cell? ⟨b,0,none⟩=some v:=fun b d v i=>(World.cell?_of_block (w:=f) (a:=⟨b,0,none⟩) (e b d)).trans i;refine ⟨?_,⟨s,cell _ (by simp [fg]) s n,o⟩,⟨r,cell _ (by simp [fg]) r k,l⟩,⟨m,cell _ (by simp [fg]) _ j⟩⟩;have g : prog.globalNamed "internal/strconv.uint64pow10" = some 0 := o7;unfold Lib.TabIs World.var? at t ⊢;simp only [g,A0] at t ⊢;rw [e _ (by simp [fg])];exact t
theorem aF.bF {c:Ctx} {w w':World} {need:Os} (h:Below w.heap.size w w') (a:∀b,c.Φ b->b<w.heap.size):aF c w c w' need [] [] :=
 ⟨h.os,h.tape,h.output,h.size,fun _ h=>h,fun _ h=>.inl h,fun b d _=>h.block b d,fun _ _=>⟨rfl,rfl⟩,⟨fun _ _ h=>(by cases h),fun _ _ _ h=>(by cases h),fun _ _ _ _ _ _ h=>(by cases h),fun b d=>Nat.lt_of_lt_of_le (a b d) h.size⟩,fun _ _ _ h=>(by cases h)⟩
def lL {c:Ctx} {w:World} {args:Array Value} {a:AV} (h:l8 c w args.toList [a]):∃v,args=#[v]/\Rd c w v a:=by
 obtain⟨l⟩:=args;have h:l8 c w l [a]:=h;cases h with|cons b t=>cases t;exact⟨_,rfl,b⟩
def xo {c:Ctx} {w:World} {args:Array Value} {a b:AV} (h:l8 c w args.toList [a,b]):∃u v,args=#[u,v]/\Rd c w u a/\Rd c w v b:=by
 obtain⟨l⟩:=args;have h:l8 c w l [a,b]:=h;cases h with|cons d t=>cases t with|cons k t=>cases t;exact⟨_,_,rfl,d,k⟩
def uZ (n:Int) (a:D8 n):(Lib.itoa n).length<=21:=by
 unfold D8 at a;exact Lib.itoa_length_le n a.1 a.2
def kB (N:Nat) (n:Int) (r:ByteArray) (h:strconv_Itoa N n=some r):Spec prog 50 [(2000,GL)] [.int n] (.str r) [] []:=by
 obtain rfl:=Option.some.inj h;refine⟨o7,fun _ h=>(by cases h),fun c w args aD f=>?_⟩;obtain⟨v,rfl,g⟩:=lL f;obtain⟨rfl,a⟩:=g.aR;refine(Tryz.strconv_Itoa n a.1 a.2 w (GL.at (aD.rep 2000 GL rfl)).tab).mono ?_;rintro e w' ⟨rfl,k,os,rfl⟩;refine⟨_,c,rfl,aF.bF ⟨rfl,rfl,rfl,by simp[Go.Sort.grow],fun b d=>?_⟩ aD.aX,.fz (.str ?_)⟩
 ·show(w.heap++os)[b]?=_;rw[Array.getElem?_append_left d]
 ·have:=uZ n a;show(Lib.itoa n).toArray.size<=_;simp only[List.size_toArray,maxLen];omega
def bytesWorld_below (w:World) (e:TypeId) (s:ByteArray):Below w.heap.size w (Lib.bytesWorld w e s):=⟨rfl,rfl,rfl,by rw[Lib.bytesWorld_size];omega,fun b a=>Lib.bytesWorld_at_old w e s b a⟩
def strconv_Atoi_ok (N:Nat) (s:ByteArray) (r:Int×Bool) (h:strconv_Atoi N s=some r):Spec prog 87 [(2000,GL)] [.str s] (.aS [.int r.1,.br r.2]) [] []:=by
 unfold strconv_Atoi at h;obtain⟨j,h⟩:=mh h;have i:=of_decide_eq_true j;have h:=Option.some.inj h;refine⟨o7,fun _ h=>(by cases h),fun c w args aD k=>?_⟩;obtain⟨v,rfl,l⟩:=lL k;obtain⟨rfl,n⟩:=l.aq;have G:=GL.at (aD.rep 2000 GL rfl);cases a:Lib.atoiAll s.data.toList with
 |ok x =>
  rw[a] at h;subst h;refine(Tryz.strconv_Atoi_ok s d9 x a w).mono ?_;rintro e w' ⟨rfl,m⟩;have d:=Lib.atoiAll_bounds a;refine⟨_,c,rfl,aF.bF ?_ aD.aX,.fz (Rf.aS (us:=[_,_]) (.cons (.int ⟨d9,d9⟩) (.cons .cB .nil)))⟩;rcases m with rfl|⟨t,rfl⟩
  ·exact Below.refl _ _
  ·exact bytesWorld_below w _ t
 |range =>
  rw[a] at h;subst h;obtain⟨ev,f,g⟩:=G.bC;refine(Tryz.strconv_Atoi_range s i a ev w f g).mono ?_;rintro e w' ⟨M,rfl,_,_,d⟩;have b:D8 (Lib.atoiSat s.data.toList):=by unfold Lib.atoiSat D8;split<;>omega
  exact⟨_,c,rfl,aF.bF d aD.aX,.fz (Rf.aS (us:=[_,_]) (.cons (.int b) (.cons (.cY _ _) .nil)))⟩
 |_ =>
  rw[a] at h;subst h;obtain⟨ev,f,g⟩:=G.xy;refine(Tryz.strconv_Atoi_syntax s i a ev w f g).mono ?_;rintro e w' ⟨M,rfl,_,_,d⟩;exact⟨_,c,rfl,aF.bF d aD.aX,.fz (Rf.aS (us:=[_,_]) (.cons (.int ⟨G7,G7⟩) (.cons (.cY _ _) .nil)))⟩
def wH (s sep:List UInt8):(Lib.cut s sep).1.length<=s.length/\(Lib.cut s sep).2.1.length<=s.length:=by
 unfold Lib.cut;split<;>simp<;>omega
def tU (N:Nat) (s sep:ByteArray) (r:ByteArray×ByteArray×Bool) (h:strings_Cut N s sep=some r):Spec prog 112 [(2000,GL)] [.str s,.str sep] (.aS [.str r.1,.str r.2.1,.bool r.2.2]) [] []:=by
 unfold strings_Cut at h;obtain⟨a,h⟩:=mh h;have b:=of_decide_eq_true a;obtain rfl:=Option.some.inj h;refine⟨o7,fun _ h=>(by cases h),fun c w args aD f=>?_⟩;obtain⟨u,v,rfl,i,j⟩:=xo f;obtain⟨rfl,o⟩:=i.aq;obtain⟨rfl,_⟩:=j.aq;obtain⟨m,d⟩:=(GL.at (aD.rep 2000 GL rfl)).mx;refine(Tryz.strings_Cut s sep m w b d).mono ?_;rintro e w' ⟨rfl,k,rfl⟩;obtain⟨l,n⟩:=wH s.data.toList sep.data.toList;have g:s.data.toList.length=s.size:=by rw[Array.length_toList];rfl
 refine⟨_,c,rfl,aF.bF ⟨rfl,rfl,rfl,AA _,fun _ _=>rfl⟩ aD.aX,.fz (Rf.aS (us:=[_,_,_]) (.cons (.str ?_) (.cons (.str ?_) (.cons (.bool _) .nil))))⟩
 ·show(Lib.cut s.data.toList sep.data.toList).1.toArray.size<=_;rw[List.size_toArray];omega
 ·show(Lib.cut s.data.toList sep.data.toList).2.1.toArray.size<=_;rw[List.size_toArray];omega
def pW : ∃j,prog.info? 97=some j/\j.size=2:=AZ.1 (show(prog.info? 97).map (·.size)=some 2 by kernel_rfl)
def vg : liesAt prog prog.depth 99 (2 / prog.cellsOf 99) 0 97 1=true:=o7
set_option maxHeartbeats 1000000 in
set_option maxRecDepth 100000 in
def tW (b:Nat) (w:World) (c:w.cell? ⟨b,0,none⟩=some (.pointer (some ⟨b,0,none⟩))) :
  Calls prog 110 #[.pointer (some ⟨b,0,none⟩)] w fun e w'=>e=.returned (.tuple #[])/\w'=w:=by
 obtain⟨j,a,_⟩:=pW
 go_enter func110,ntmps110
 go_wp2
 rw[Lib.run_neq_ptr_same w _ underlying95 a]
 go_wp2
 go_end0
 exact⟨rfl,rfl⟩
set_option maxHeartbeats 1000000 in
set_option maxRecDepth 100000 in
def tL (b:Nat) (w:World) (g:w.cell? ⟨b,0,none⟩=some (.pointer none)) (a:w.shape? b=some (99,2)) (f:w.frozen? ⟨b,0,none⟩=false) :
  Calls prog 110 #[.pointer (some ⟨b,0,none⟩)] w fun e w'=>e=.returned (.tuple #[])/\w'=w.setCell ⟨b,0,none⟩ (.pointer (some ⟨b,0,none⟩)):=by
 obtain⟨j,d,c⟩:=pW
 go_enter func110,ntmps110
 go_wp2
 rw[Lib.run_to_unsafe w ⟨b,0,none⟩ underlying95 underlying228 d (by rw[c];decide) a (Nat.zero_lt_succ 1)];simp only[Result.andThen];rw[Oper.upon_value]
 go_wp2
 rw[run_callFunc_extern func146 o7 o7 o7 (e:=Extern.AbiNoEscape.same) o7];rw[Lib.run_noEscape];simp only[Result.andThen];rw[Oper.upon_value]
 go_wp2
 rw[Lib.run_from_unsafe w ⟨b,0,none⟩ underlying228 underlying95 d a vg];simp only[Result.andThen];rw[Oper.upon_value]
 go_wp2
 go_end0
 exact⟨rfl,rfl⟩
def qP (id j:Nat):Spec prog 110 [(id,.box [.np id,.aG j] 99)] [.ptr id 0] (.aS []) [(id,.box [.np id,.aG j] 99)] []:=by
 refine⟨o7,fun _ h=>(by cases h),fun c w args aD u=>?_⟩;obtain⟨v,rfl,y⟩:=lL u;obtain rfl:=y.bR;obtain⟨us,a,x⟩:=aD.rep id _ (j3 _ _ _);have s:=(Array.getElem?_eq_some_iff.1 a).1;cases x with|cons n t=>cases t with|cons o t=>cases t with|nil =>
 rename_i p q;have b:w.cell? ⟨c.μ id,0,none⟩=some p:=by rw[Lib.cell_of_heap a];rfl
 have key:∀w':World,w'.heap[c.μ id]?=some (.cells [.pointer (some ⟨c.μ id,0,none⟩),q].toArray 99)->(∀k,k≠c.μ id->w'.heap[k]?=w.heap[k]?)->w'.heap.size=w.heap.size->w'.os=w.os->w'.tape=w.tape->w'.output=w.output ->
   ∃v c',Ending.returned (Value.tuple #[])=.returned v/\aF c w c' w' [(id,.box [.np id,.aG j] 99)] [(id,.box [.np id,.aG j] 99)] []/\Rd c' w' v (.aS []):=fun w' d f g i l m =>
  ⟨_,c,rfl,aF.write (us':=[_,q]) aD d (.cons (.iv rfl) (.cons o .nil)) f g i l m,.aS .nil⟩
 rcases n.sB with rfl|rfl
 ·refine(tL (c.μ id) w b (by simp[World.shape?,a]) (Lib.frozen_of_heap a 0)).mono ?_;rintro e w' ⟨rfl,rfl⟩;refine key _ ?_ (fun k r=>Below.heap_setCell w _ _ k r) ?_ rfl rfl rfl
  ·simp[World.setCell,Array.getElem?_modify,a]
  ·simp[World.setCell]
 ·refine(tW (c.μ id) w b).mono ?_;rintro e w' ⟨rfl,rfl⟩;exact key _ a (fun _ _=>rfl) rfl rfl rfl rfl
theorem qN {P:Program} (w:World):∀(l:List Int) (a:Addr) (b:ByteArray),(∀j x,l[j]?=some x->w.cell? (a.add j)=some (.int .u8 x))->(loadBytes a b l.length).run P w=.ok ⟨b.data++(l.map fun n=>UInt8.ofNat n.toNat).toArray⟩ w
 |[],a,b,_=>by simp[loadBytes]
 |x::l,a,b,h=>by
  have d:w.cell? a=some (.int .u8 x):=by simpa[Addr.add] using h 0 x rfl
  have ih:=qN (P:=P) w l (a.add 1) (b.push (UInt8.ofNat x.toNat)) (fun j y f=>by
   have:=h (j+1) y (by simpa using f);have e:(a.add 1).add j=a.add (j+1):=by
    unfold Addr.add;by_cases c:j=0
    ·subst c;simp
    ·simp[c];omega
   rw[e];exact this)
  simp only[AP,loadBytes,Sem.run_bind,run_load,d,Result.andThen];rw[show x.toNat.toUInt8=UInt8.ofNat x.toNat from rfl,ih];congr 1;apply ByteArray.ext;simp[ByteArray.push]
def sV {P:Program} {e:TypeId} (a:P.cellsOf e=1) (count off n:Nat) (b:off+n<=count):liesAt P P.depth e count off e n=true:=by
 have hd:P.depth=(2*(P.types.size+Made.depth)+1)+1:=rfl;rw[hd];simp only[liesAt,Bool.or_eq_true];left;rw[hd];simp[rowAt,a,b,sameLayout,Nat.mod_one]
def sF {P:Program} (w:World) (k q r e:TypeId) (z:P.underlying k=some (.pointer e)) (p:P.cellsOf e=1) (g x cells:Nat) (o:w.shape? g=some (e,cells)) (l:List Int) (t:l.length≠0) (v:x+l.length<=cells) (u:l.length<=9223372036854775807)
  (a:∀j y,l[j]?=some y->w.cell? ((⟨g,x,none⟩:Addr).add j)=some (.int .u8 y)) :
  (Builtin.unsafeString_ #[k,q] r #[.pointer (some ⟨g,x,none⟩),.int .i64 l.length]).run P w=.ok (.string (strOfNums l)) (w.freeze ⟨g,x,none⟩ l.length):=by
 have f:=qN (P:=P) w l ⟨g,x,none⟩ .empty a;have b:=sV (P:=P) p (cells / P.cellsOf e) x l.length (by rw[p];simpa using v);have c:¬(9223372036854775807:Int)<(l.length:Int):=d9;have d:Builtin.unsafeString_ #[k,q] r #[.pointer (some ⟨g,x,none⟩),.int .i64 l.length] =
   (do
    let n <-asInt (.int .i64 l.length)
    if n < 0 then runtimePanic (.error "unsafe.String: len out of range")
    if n > IntKind.i64.max then unsupported (.unsafePointer "String: a length above the largest int")
    if n=0 then pure (.string .empty)
    else if<-variablesAt ⟨g,x,none⟩ (<-elemOf k) n.toNat then do
     let s <-loadBytes ⟨g,x,none⟩ .empty n.toNat
     freeze ⟨g,x,none⟩ n.toNat
     pure (.string s)
    else unsupported (.unsafePointer "String: not so many bytes at ptr")) := rfl
 rw[d];have h:IntKind.i64.max=9223372036854775807:=rfl;have i:¬(l.length:Int)<0:=d9;have e0:(⟨ByteArray.empty.data++(l.map fun n=>UInt8.ofNat n.toNat).toArray⟩:ByteArray)=strOfNums l:=by
  have m:ByteArray.empty.data=#[]:=rfl;rw[m];simp[strOfNums]
 rw[e0] at f;simp[asInt,asIntOf,h,c,i,t,variablesAt,o,elemOf,run_underlying z,b,f]
set_option maxHeartbeats 1000000 in
set_option maxRecDepth 100000 in
def sj (b g x cap:Nat) (p:Value) (a:Array Value) (l:List Int) (w:World) (d:w.heap[b]?=some (.cells #[p,.slice (some ⟨g,x,none⟩) l.length cap] 99)) (i:l.length≠0) (h:l.length<=cap) (o:l.length<=9223372036854775807)
  (n:w.heap[g]?=some (.cells a 5)) (q:x+l.length<=a.size) (c:∀j y,l[j]?=some y->w.cell? ((⟨g,x,none⟩:Addr).add j)=some (.int .u8 y)) :
  Calls prog 48 #[.pointer (some ⟨b,0,none⟩)] w fun e w'=>e=.returned (.string (strOfNums l))/\w'=w.drew.freeze ⟨g,x,none⟩ l.length:=by
 have r:w.drew.cell? ⟨b,1,none⟩=some (.slice (some ⟨g,x,none⟩) l.length cap):=by
  have:w.drew.heap[b]?=some (.cells #[p,.slice (some ⟨g,x,none⟩) l.length cap] 99 (0,0)):=d;rw[Lib.cell_of_heap this];rfl
 have k:(Builtin.unsafeSliceData_ #[43] 147 #[.slice (some ⟨g,x,none⟩) l.length cap]).run prog w.drew=.ok (.pointer (some ⟨g,x,none⟩)) w.drew :=
  Lib.run_unsafeSliceData_row _ _ _ _ _ _ d9
 have m:(Builtin.unsafeString_ #[147,3] 9 #[.pointer (some ⟨g,x,none⟩),.int .i64 l.length]).run prog w.drew=.ok (.string (strOfNums l)) (w.drew.freeze ⟨g,x,none⟩ l.length) :=
  sF w.drew 147 3 9 5 underlying147 o7 g x a.size (by have f:w.drew.heap[g]?=some (.cells a 5 (0,0)):=n;simp[World.shape?,f]) l i q o c
 have mixed:prog.follows .mixedOrders=true:=o7
 go_enter func48,ntmps48
 go_wp2
 go_region_o
 all_goals (go_wp2;go_ret;exact⟨rfl,rfl⟩)
def sq (l:List Int) (id j:Nat) (d:(!l.isEmpty)=true) (a:A4 id j=false:=by rfl):Spec prog 48 [(id,.box [.np id,.aG j] 99),(j,.row 1 (l.map fun n=>[AV.ik .u8 n]) 5)] [.ptr id 0] (.str (strOfNums l)) [(id,.aI),(j,.aI)] []:=by
 have a:=Q7 a;have U:l.length≠0:=by cases l<;>simp_all
 refine⟨o7,fun _ h=>(by cases h),fun c w args aD X=>?_⟩;obtain⟨v,rfl,D⟩:=lL X;obtain rfl:=D.bR;have P:lk [(id,Obj.box [.np id,.aG j] 99),(j,.row 1 (l.map fun n=>[AV.ik .u8 n]) 5)] j=some (.row 1 (l.map fun n=>[AV.ik .u8 n]) 5):=by rw[G5 _ _ a,j3]
 obtain⟨us,N,Y⟩:=aD.rep id _ (j3 _ _ _);obtain⟨css,Q,R,q3⟩:=aD.rep j _ P;rw[AR] at R;cases Y with|cons Z t=>cases t with|cons K t=>cases t with|nil =>
 rename_i p q;obtain⟨A,n,cap,rfl,C,e3,S⟩:=K.aj;have T:∀i y,l[i]?=some y->css[i]?=some [Value.int .u8 y]:=fun i y E=>by
  have hi:=(AF.1 E).1;have O:css[i]?=some css[i]:=A8 d9;have:=q3 i css[i] [AV.ik .u8 y] O (by simp[E]);rw[O];generalize css[i]=u at this;cases this with|cons h t=>cases t with|nil=>cases h with|ik=>rfl
 rcases Q.b9 with⟨_,hn⟩|⟨g,x,pp,L,F,D,V,a1,a2,a3,hx,a4⟩
 ·omega
 ·have hxp:=hx d9;rw[C] at D;injection D with v1 v2 v3
  subst v1 v2 v3;have f:∀i y,l[i]?=some y->w.cell? ((⟨g,x,none⟩:Addr).add i)=some (.int .u8 y):=fun i y E=>by
   obtain⟨g',x',M,z,W,H⟩:=Q.cells (T i y E);rw[C] at z;injection z with B _ _
   injection B with B
   injection B with B w2 _
   subst B w2;have:=H 0 _ rfl;rw[X9];simpa using this
  rw[R] at N C;refine(sj (c.μ id) g x cap p F l w N U d9 (by simp only[maxLen] at S;omega) V d9 f).mono ?_;rintro e w' ⟨rfl,rfl⟩;have I:aK c j (.row 1 (l.map fun n=>[AV.ik .u8 n]) 5) g:=by show(c.hd j).ownBlock=some g;rw[C];rfl
  have s:∀m,(w.drew.freeze ⟨g,x,none⟩ m).heap.size=w.heap.size:=fun m=>by unfold World.freeze;split<;>first|rfl|simp
  refine⟨_,c,rfl,⟨?_,?_,?_,by rw[s];exact AA _,fun _ h=>h,fun _ h=>.inl h,fun b k J=>?_,fun _ _=>⟨rfl,rfl⟩,⟨fun i o d=>?_,fun i o b d r=>?_,fun i i' o o' b _ d _ r=>?_,fun b k=>by rw[s];exact aD.aX b k⟩,fun i o b d r=>?_⟩,.fz (.str ?_)⟩
  ·unfold World.freeze;split<;>rfl
  ·unfold World.freeze;split<;>rfl
  ·unfold World.freeze;split<;>rfl
  ·have G:b≠g:=fun e=>J ⟨j,_,P,by rw[G5 _ _ a,j3];rfl,e▸I⟩;unfold World.freeze;split
   ·rfl
   ·simp only[Array.getElem?_modify];rw[Ag (fun e=>G e.symm)];rfl
  ·rcases cR d with⟨rfl,rfl⟩|⟨_,rfl,rfl⟩<;>trivial
  ·rcases cR d with⟨rfl,rfl⟩|⟨_,rfl,rfl⟩<;>exact r.elim
  ·rcases cR d with⟨rfl,rfl⟩|⟨_,rfl,rfl⟩<;>exact r.elim
  ·rcases cR d with⟨rfl,rfl⟩|⟨_,rfl,rfl⟩<;>exact r.elim
  ·rw[strOfNums_size];omega
section
open Go.ChangeShapes Go.WideShapes Go.ChangeAt Go.RowKit Go.Deep
theorem y9.u8 {P:Program} {t:TypeId} (a:P.underlying t=some (.int .u8)):y9 P t 1 (fun n:Int=>[AV.ik .u8 n]) cf bE:=⟨fun h=>by
 obtain⟨n,rfl,rfl,b⟩:=DataW.trod_int a h;have d:IntKind.u8.min<=n/\n<=IntKind.u8.max:=by simpa[Lit.wf] using b
 have e1:IntKind.u8.min=0:=rfl;have c:IntKind.u8.max=255:=rfl;exact⟨n,.cons (.ik _ n) .nil,rfl,by simp[Value.oneCell'],⟨d9,d9⟩,AA _⟩⟩
theorem fA.lt {W:World} (h:fA W):∀b∈fg,b<W.heap.size:=by
 have c : prog.globalNamed "internal/strconv.uint64pow10" = some 0 := o7;obtain ⟨t,⟨s,f,_⟩,⟨r,e,_⟩,⟨m,d⟩⟩:=h;have g:=t.cell c 0 G7;intro b a;simp only [fg,AJ,List.not_mem_nil,or_false] at a;rcases a with rfl|rfl|rfl|rfl
 ·exact jJ g
 ·exact jJ f
 ·exact jJ e
 ·exact jJ d
theorem Spec.oi {P:Program} {f:Nat} {ins:List AV} (hS:Spec P f [(2000,GL)] ins (.bool true) [(2000,GL)] []) {W:World} (i:fA W) {args:Array Value} (h:l8 (jY W) W args.toList ins) :
  Calls P f args W fun e g=>e=.returned (.bool true)/\Below W.heap.size W g:=by
 have one:∀(id:Nat) (o:Obj),lk [(2000,GL)] id=some o->o=GL:=fun id o h=>by
  simp only[lk] at h;cases a:A4 2000 id<;>rw[a] at h
  ·cases h
  ·exact(Option.some.inj h).symm
 refine(hS.2.2 (jY W) W args ⟨fun id o h=>?_,fun id o b h c=>?_,fun id m o n b _ h _ c=>?_,fun b a=>a⟩ h).mono ?_
 ·obtain rfl:=one id o h;exact⟨fun b a=>i.lt b a,W,i,fun _ _=>rfl⟩
 ·obtain rfl:=one id o h;exact c.elim
 ·obtain rfl:=one id o h;exact c.elim
 rintro e g ⟨v,c',rfl,d,l⟩;exact⟨by rw[l.ai],d.bV,d.tape,d.output,d.size,fun k j=>d.aP k j fun⟨id,o,h,_,c⟩=>by
  obtain rfl:=one id o h;exact c.elim⟩
def star : "*" ++ "errors.errorString" = "*errors.errorString" := G7
def rS (u : TypeId) (h : prog.typeName? 3 u = some "*errors.errorString") : u = 306 :=
 typeName_ptr_named (nm := "errors.errorString") (by rw [star]; kernel_rfl) o7 G7 u (by rw [star]; exact h)
theorem fA.gv {W : World} {x y : String × DataW Unit} (h : laidMetH prog [x, y, ("internal/strconv.uint64pow10", Rows.laid_internal_strconv_uint64pow10), ("strconv.ErrRange", Rows.laid_strconv_ErrRange), ("strconv.ErrSyntax", Rows.laid_strconv_ErrSyntax)] W)
  (c:x.2.handleName?.isNone=true) (d:y.2.handleName?.isNone=true) (b:W.ShapedOpen prog):fA W:=by
 rw [MakeChecks.laidMetH_plain _ _ _ (by simp only [List.all_cons,c,d,Bool.true_and]; kernel_rfl)] at h;have a : laidMet prog (("internal/strconv.uint64pow10", Lib.tabData .u64 Lib.pow10Tab) :: [("strconv.ErrRange", Rows.laid_strconv_ErrRange), ("strconv.ErrSyntax", Rows.laid_strconv_ErrSyntax)]) W := h.tail.tail;obtain ⟨i,k,e,_⟩:=laid_sentinel (g:=2) (ti:=143) (tp:=306) (te:=308) (ts:=9) h.tail.tail.tail o7 o7 underlying143 rS underlying306 underlying308 rfl rfl underlying9 o7 o7;obtain ⟨j,l,f,_⟩:=laid_sentinel (g:=1) (ti:=143) (tp:=306) (te:=308) (ts:=9) h.tail.tail.tail.tail o7 o7 underlying143 rS underlying306 underlying308 rfl rfl underlying9 o7 o7;refine ⟨Lib.tabIs_of_head (g := 0) o7 o7 underlying273 underlying227 o7 o7 a, ⟨_, by simpa using World.var?_cell (show prog.globalNamed "strconv.ErrSyntax" = some 1 by kernel_rfl) f 0, .inr ⟨_, _, rfl⟩⟩, ⟨_, by simpa using World.var?_cell (show prog.globalNamed "strconv.ErrRange" = some 2 by kernel_rfl) e 0, .inr ⟨_, _, rfl⟩⟩, ?_⟩;exact cell_of_shapedOpen_int (zero:=#[.int .i64 0]) (t:=3) b (of_decide_eq_true o7) o7 rfl o7 o7 underlying3
end
section
open Go.ChangeShapes Go.WideShapes Go.ChangeAt Go.RowKit Go.Deep
set_option maxRecDepth 100000 in
def wv : y9 prog 55 5 dF lC eI:=⟨fun {H d w g a fuel p x} h=>by
  obtain⟨q,n,_,E,f,j,e⟩:=DataW.trod_struct underlying55 h;have C:p.length=5:=f.trans o7;have D:q.length=5:=j;have c:prog.cellsOf 3=1:=o7;have i:prog.cellsOf 9=1:=o7
  match p,C,q,D with
  |[k,l,m,c3,o],_,[V,W,X,Y,Z],_ =>
    have f0:DataW.trod d prog w 0 g a n 3 [k]=some V:=(by simpa[c] using e 0 _ rfl);obtain⟨r,Q,l0,L,F,b0⟩:=(y9.int underlying3).out f0;have f1:DataW.trod d prog w 0 g a n 3 [l]=some W:=by simpa[c] using e 1 _ rfl
    obtain⟨s,R,l1,M,G,b1⟩:=(y9.int underlying3).out f1;have z:DataW.trod d prog w 0 g a n 3 [m]=some X:=by simpa[c] using e 2 _ rfl
    obtain⟨t,S,l2,N,I,b2⟩:=(y9.int underlying3).out z;have A:DataW.trod d prog w 0 g a n 3 [c3]=some Y:=by simpa[c] using e 3 _ rfl
    obtain⟨v,T,l3,O,J,b3⟩:=(y9.int underlying3).out A;have B:DataW.trod d prog w 0 g a n 9 [o]=some Z:=by simpa[i] using e 4 _ rfl
    obtain⟨y,U,l4,P,K,b4⟩:=(y9.str underlying9).out B;refine⟨⟨r,s,t,v,y⟩,(Q.append (R.append (S.append (T.append U)))),rfl,fun u b=>?_,⟨F,G,I,J,K⟩,?_⟩
    · have b:u∈[k]++[l]++[m]++[c3]++[o]:=b
      simp only[AT] at b;rcases b with(((b|b)|b)|b)|b
      · exact L u b
      · exact M u b
      · exact N u b
      · exact O u b
      · exact P u b
    · subst E
      simp only[AQ,List.map_nil,Rows.uptoBulk,Rows.uptoBulkAll,eI];omega⟩
def wN : y9 prog 25 1 (fun l:(List Ins)=>[AV.sl 5 (l.map dF)]) (di lC) (bI eI):=y9.slice underlying25 o7 G7 wv
set_option maxRecDepth 100000 in
def wW : y9 prog 27 5 X7 kn df:=⟨fun {H e w i a fuel q x} h=>by
  obtain⟨r,n,_,F,g,k,f⟩:=DataW.trod_struct underlying27 h;have D:q.length=5:=g.trans o7;have E:r.length=5:=k;have c:prog.cellsOf 3=1:=o7;have j:prog.cellsOf 9=1:=o7;have d:prog.cellsOf 25=1:=o7
  match q,D,r,E with
  |[l,m,o,c3,p],_,[W,X,Y,Z,y4],_ =>
    have f0:DataW.trod e prog w 0 i a n 9 [l]=some W:=(by simpa[j] using f 0 _ rfl);obtain⟨s,R,l0,M,G,b0⟩:=(y9.str underlying9).out f0;have f1:DataW.trod e prog w 0 i a n 3 [m]=some X:=by simpa[c] using f 1 _ rfl
    obtain⟨t,S,l1,N,I,b1⟩:=(y9.int underlying3).out f1;have A:DataW.trod e prog w 0 i a n 3 [o]=some Y:=by simpa[c] using f 2 _ rfl
    obtain⟨v,T,l2,O,J,b2⟩:=(y9.int underlying3).out A;have B:DataW.trod e prog w 0 i a n 3 [c3]=some Z:=by simpa[c] using f 3 _ rfl
    obtain⟨y,U,l3,P,K,b3⟩:=(y9.int underlying3).out B;have C:DataW.trod e prog w 0 i a n 25 [p]=some y4:=by simpa[d] using f 4 _ rfl
    obtain⟨z,V,l4,Q,L,b4⟩:=wN.out C;refine⟨⟨s,t,v,y,z⟩,(R.append (S.append (T.append (U.append V)))),rfl,fun u b=>?_,⟨G,I,J,K,L⟩,?_⟩
    · have b:u∈[l]++[m]++[o]++[c3]++[p]:=b
      simp only[AT] at b;rcases b with(((b|b)|b)|b)|b
      · exact M u b
      · exact N u b
      · exact O u b
      · exact P u b
      · exact Q u b
    · subst F
      simp only[AQ,List.map_nil,Rows.uptoBulk,Rows.uptoBulkAll,df];omega⟩
def wa : y9 prog 79 1 (fun l:(List Me)=>[AV.sl 5 (l.map X7)]) (di kn) (bI df):=y9.slice underlying79 o7 G7 wW
set_option maxRecDepth 100000 in
def wO : y9 prog 81 4 gB ki du:=⟨fun {H f w i a fuel p x} h=>by
  obtain⟨q,n,_,C,e,k,g⟩:=DataW.trod_struct underlying81 h;have A:p.length=4:=e.trans o7;have B:q.length=4:=k;have c:prog.cellsOf 3=1:=o7;have j:prog.cellsOf 9=1:=o7;have d:prog.cellsOf 79=1:=o7
  match p,A,q,B with
  |[l,m,o,c3],_,[Q,R,S,T],_ =>
    have f0:DataW.trod f prog w 0 i a n 9 [l]=some Q:=(by simpa[j] using g 0 _ rfl);obtain⟨r,M,Y,I,D,U⟩:=(y9.str underlying9).out f0;have f1:DataW.trod f prog w 0 i a n 3 [m]=some R:=by simpa[c] using g 1 _ rfl
    obtain⟨s,N,Z,J,E,V⟩:=(y9.int underlying3).out f1;have y:DataW.trod f prog w 0 i a n 3 [o]=some S:=by simpa[c] using g 2 _ rfl
    obtain⟨t,O,l2,K,F,W⟩:=(y9.int underlying3).out y;have z:DataW.trod f prog w 0 i a n 79 [c3]=some T:=by simpa[d] using g 3 _ rfl
    obtain⟨v,P,l3,L,G,X⟩:=wa.out z;refine⟨⟨r,s,t,v⟩,(M.append (N.append (O.append P))),rfl,fun u b=>?_,⟨D,E,F,G⟩,?_⟩
    · have b:u∈[l]++[m]++[o]++[c3]:=b
      simp only[AT] at b;rcases b with((b|b)|b)|b
      · exact I u b
      · exact J u b
      · exact K u b
      · exact L u b
    · subst C
      simp only[AQ,List.map_nil,Rows.uptoBulk,Rows.uptoBulkAll,du];omega⟩
def we : y9 prog 37 1 (fun l:(List Cl)=>[AV.sl 4 (l.map gB)]) (di ki) (bI du):=y9.slice underlying37 o7 G7 wO
set_option maxRecDepth 100000 in
def wX : y9 prog 29 2 eV lg eO:=⟨fun {H j w l a fuel i x} h=>by
  obtain⟨m,n,_,s,d,e,k⟩:=DataW.trod_struct underlying29 h;have q:i.length=2:=d.trans o7;have r:m.length=2:=e;have c:prog.cellsOf 3=1:=o7
  match i,q,m,r with
  |[f,g],_,[C,D],_ =>
    have f0:DataW.trod j prog w 0 l a n 3 [f]=some C:=(by simpa[c] using k 0 _ rfl);obtain⟨o,A,G,y,t,E⟩:=(y9.int underlying3).out f0;have f1:DataW.trod j prog w 0 l a n 3 [g]=some D:=by simpa[c] using k 1 _ rfl
    obtain⟨p,B,I,z,v,F⟩:=(y9.int underlying3).out f1;refine⟨⟨o,p⟩,(A.append B),rfl,fun u b=>?_,⟨t,v⟩,?_⟩
    · have b:u∈[f]++[g]:=b
      simp only[AT] at b;rcases b with b|b
      · exact y u b
      · exact z u b
    · subst s
      simp only[AQ,List.map_nil,Rows.uptoBulk,Rows.uptoBulkAll,eO];omega⟩
def wL : y9 prog 30 1 (fun l:(List V)=>[AV.sl 2 (l.map eV)]) (di lg) (bI eO):=y9.slice underlying30 o7 G7 wX
set_option maxRecDepth 100000 in
def wy : y9 prog 92 2 ig kj dr:=⟨fun {H k w m a fuel j x} h=>by
  obtain⟨o,n,_,t,d,f,l⟩:=DataW.trod_struct underlying92 h;have r:j.length=2:=d.trans o7;have s:o.length=2:=f;have e:prog.cellsOf 3=1:=o7;have c:prog.cellsOf 30=1:=o7
  match j,r,o,s with
  |[g,i],_,[D,E],_ =>
    have f0:DataW.trod k prog w 0 m a n 3 [g]=some D:=(by simpa[e] using l 0 _ rfl);obtain⟨p,B,I,z,v,F⟩:=(y9.int underlying3).out f0;have f1:DataW.trod k prog w 0 m a n 30 [i]=some E:=by simpa[c] using l 1 _ rfl
    obtain⟨q,C,J,A,y,G⟩:=wL.out f1;refine⟨⟨p,q⟩,(B.append C),rfl,fun u b=>?_,⟨v,y⟩,?_⟩
    · have b:u∈[g]++[i]:=b
      simp only[AT] at b;rcases b with b|b
      · exact z u b
      · exact A u b
    · subst t
      simp only[AQ,List.map_nil,Rows.uptoBulk,Rows.uptoBulkAll,dr];omega⟩
def wm : y9 prog 38 1 (fun l:(List Ob)=>[AV.sl 2 (l.map ig)]) (di kj) (bI dr):=y9.slice underlying38 o7 G7 wy
set_option maxRecDepth 100000 in
def wi : y9 prog 40 3 ba km fx:=⟨fun {H g w k a fuel p x} h=>by
  obtain⟨q,n,_,A,e,j,i⟩:=DataW.trod_struct underlying40 h;have y:p.length=3:=e.trans o7;have z:q.length=3:=j;have f:prog.cellsOf 3=1:=o7;have c:prog.cellsOf 37=1:=o7;have d:prog.cellsOf 38=1:=o7
  match p,y,q,z with
  |[l,m,o],_,[L,M,N],_ =>
    have f0:DataW.trod g prog w 0 k a n 37 [l]=some L:=(by simpa[c] using i 0 _ rfl);obtain⟨r,I,R,E,B,O⟩:=we.out f0;have f1:DataW.trod g prog w 0 k a n 38 [m]=some M:=by simpa[d] using i 1 _ rfl
    obtain⟨s,J,S,F,C,P⟩:=wm.out f1;have v:DataW.trod g prog w 0 k a n 3 [o]=some N:=by simpa[f] using i 2 _ rfl
    obtain⟨t,K,l2,G,D,Q⟩:=(y9.int underlying3).out v;refine⟨⟨r,s,t⟩,(I.append (J.append K)),rfl,fun u b=>?_,⟨B,C,D⟩,?_⟩
    · have b:u∈[l]++[m]++[o]:=b
      simp only[AT] at b;rcases b with(b|b)|b
      · exact E u b
      · exact F u b
      · exact G u b
    · subst A
      simp only[AQ,List.map_nil,Rows.uptoBulk,Rows.uptoBulkAll,fx];omega⟩
def wA : y9 prog 43 1 (fun l:(List Int)=>[AV.sl 1 (l.map (lb .u8))]) (di cf) (bI bE):=y9.slice underlying43 o7 G7 (y9.u8 underlying5)
end
end Go.Proofs.YtibjcppjfkamhaaGreatDoor
