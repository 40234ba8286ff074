import Derived.Orders
import Derived.Still
import Derived.Test.YtibjcppjfkamhaaDoorProg
import Derived.KernelRfl
import Derived.Test.YtibjcppjfkamhaaDoorRows
import Derived.Deep.Slices
import Derived.JoinedCond
import Derived.Shelf.Strings.Builder1
import Derived.Shelf.Small.Bits
import Derived.Shelf.Strings.BuilderF
import Derived.Shelf.Strings.BuilderK
import Derived.Shelf.Strconv.Atoi
import Derived.Shelf.Strconv.Itoa0
import Derived.Shelf.Strconv.Itoa1
import Derived.Shelf.LaysM
import Derived.Shelf.Strconv.Itoa2
import Derived.Shelf.Strconv.Itoa3
import Derived.Shelf.Strconv.AtoiErrFast
import Derived.Shelf.Strconv.ParseIntEmpty
import Derived.Shelf.Strconv.AtoiFail
import Derived.Shelf.Strconv.Clone
import Derived.Shelf.Strconv.SyntaxError
import Derived.Shelf.LaysC
import Derived.Shelf.Strconv.ToError
import Derived.Shelf.Strconv.AtoiErr
import Derived.Shelf.Strconv.Lower
import Derived.Shelf.Strconv.ParseUint10
import Derived.Shelf.Strconv.ParseUint10Empty
import Derived.Shelf.Strconv.ParseUint10Any
import Derived.Shelf.Strconv.ParseInt10
import Derived.Shelf.Strconv.AtoiLong
import Derived.Shelf.Strconv.AtoiInnerAll
import Derived.Shelf.Strconv.RangeError
import Derived.Shelf.Strconv.ToErrorRange
import Derived.Shelf.Strconv.AtoiAll
import Derived.Shelf.Strconv.ErrVarAll
import Derived.Shelf.Strconv.ParseUintEmpty
import Derived.Shelf.Strconv.ParseUint10b64
import Derived.Shelf.Strconv.ParseUint10b32
import Derived.Shelf.Strconv.ParseUint10b16
import Derived.Shelf.Strconv.ParseUint10b8
import Derived.Shelf.Strconv.ParseUint10At
import Derived.Shelf.Strconv.ParseInt10At32
import Derived.Shelf.Strconv.ParseInt10At16
import Derived.Shelf.Strings.Search1
import Derived.Shelf.Strings.Search2
import Derived.Shelf.Strings.Cut
import Derived.Shelf.Strings.Shaped
import Derived.Shelf.Strings.BuilderCap
import Derived.Lib.ItoaNum
import Derived.Lib.AtoiAll
import Derived.Lib.IndexMore
import Derived.Lib.ItoaLen
import Derived.Lib.Builder
import Derived.Lib.UnsafeStr
import Derived.Lib.Walk
import Derived.Laws.Externs
import Derived.Shelf.RegionOpenPlain
import Derived.Lib.AtoiAllCases
import Derived.Stop.LaidErr
import Derived.Shelf.Vars
import Derived.MakeChecks
import Derived.Test.YtibjcppjfkamhaaDoorA
set_option linter.unusedVariables false
set_option linter.defProp false
set_option linter.unusedSimpArgs false
namespace Go.Proofs.YtibjcppjfkamhaaDoor
open Go.RowKit Go.Proofs.Tryd
open _root_.And renaming intro->A5
open _root_.Bool renaming and_eq_true->A7,not_true->AL
open _root_.ByteArray renaming empty->AK
open _root_.List renaming getElem?_eq_getElem->A8,getElem?_eq_some_iff->AB,all_eq_true->AD,mem_cons->AF,append_assoc->AG,mem_map->AI,replicate->AJ,getElem?_set->AM,length_map->AN,map_cons->AO,mem_of_getElem?->AP,mem_append->AS,getElem?_eq_none->AT,ext_getElem?->AW,length_cons->AY,getElem?_map->AZ,getElem?_drop->Aa
open _root_.Nat renaming beq->A4,eq_of_beq_eq_true->A9,le_refl->AA,ble->AE,blt->AH,le_of_ble_eq_true->AQ
open _root_.Option renaming bind_some->A0,map_eq_some_iff->AX
def top : Nat:=1000
def eG : Os->Os->Prop
 |[],_=>True
 |(k,o)::r,os=>lk os k=some o/\eG r os
theorem iK {os:Os}:∀{need:Os},eG need os->∀id o,lk need id=some o->lk os id=some o
 |(k,x)::r,h,id,o,hl=>by
  rw[j5] at hl;split at hl
  ·rename_i e;subst e;cases hl;exact h.1
  ·exact iK h.2 id o hl
def cY : AV->Bool
 |.int _=>true
 |.ik _ _=>true
 |.bool _=>true
 |.str _=>true
 |.any=>true
 |.aU _=>true
 |.ba _=>true
 |_=>false
def kA : AV->Bool
 |.aS l=>l.all cY
 |.agg l=>l.all cY
 |a=>cY a
def jo {c c':Ctx} {w w':World} {v:Value} {a:AV} (h:cY a=true) (b:Rd c w v a):Rd c' w' v a:=by
 cases a<;>first|cases h|skip
 ·exact Rd.bR v
 ·obtain⟨rfl,h⟩:=b.aP;exact .fz (.int h)
 ·rw[b.ec];exact .fz (.ik _ _)
 ·rw[b.ai];exact .fz (.bool _)
 ·obtain⟨rfl,h⟩:=b.ao;exact .fz (.str h)
 ·rcases b.fw with⟨rfl,rfl⟩|⟨t,p,rfl,rfl⟩
  ·exact .fz .bl
  ·exact .fz (.cK t p)
 ·rw[b.fr];exact .fz (.aU _)
theorem jm {c c':Ctx} {w w':World}:∀{us:List Value} {a_:List AV},a_.all cY=true->l6 c w us a_->l6 c' w' us a_
 |_,_,_,.nil=>.nil
 |_,_,h,.cons x t=>by
  simp only[List.all_cons,A7] at h;exact .cons (jo h.1 x) (jm h.2 t)
def tf {c c':Ctx} {w w':World} {v:Value} {a:AV} (h:kA a=true) (b:Rd c w v a):Rd c' w' v a:=by
 unfold kA at h;split at h
 ·obtain⟨us,rfl,d⟩:=b.cf;exact .aS (jm h d)
 ·obtain⟨us,rfl,d⟩:=b.bI;exact .agg (jm h d)
 ·exact jo h b
def kE : Obj->Prop
 |.aH=>True
 |.row _ ls _=>∀c∈ls,c.all cY=true
 |.deep _ _ b l _ _=>∀c∈l,∀(off:Nat) (a:AV),c[off]?=some a->match lk b off with
  |none=>cY a=true
  |some _=>∃isz ls,a=.sl isz ls/\∀d∈ls,d.all cY=true
 |_=>False
def gj : Os->Prop
 |[]=>True
 |p::r=>kE p.2/\gj r
theorem gj.at : ∀{l:Os},gj l->∀{id:Nat} {o:Obj},lk l id=some o->kE o
 |(k,x)::r,h,id,o,hl=>by
  rw[j5] at hl;split at hl
  ·cases hl;exact h.1
  ·exact gj.at h.2 hl
def k7 : AV->Bool
 |.aS l=>l.all fun a=>match a with|.aF _=>true|.agg b=>b.all cY|a=>cY a
 |.aF _=>true
 |.agg b=>b.all cY
 |a=>cY a
def ow {Φ b:Nat->Prop} {w w':World} {v:Value} {a:AV} (h:cY a=true) (c:Rf Φ w v a):Rf b w' v a:=by
 cases c<;>first|cases h|skip
 ·exact .any _
 ·exact .int (by assumption)
 ·exact .ik _ _
 ·exact .bool _
 ·exact .str (by assumption)
 ·exact .bl
 ·exact .cK _ _
 ·exact .aU _
theorem lG {Φ a:Nat->Prop} {w w':World}:∀{us:List Value} {a_:List AV},a_.all cY=true->o8 Φ w us a_->o8 a w' us a_
 |_,_,_,.nil=>.nil
 |_,_,h,.cons x t=>by
  simp only[List.all_cons,A7] at h;exact .cons (ow h.1 x) (lG h.2 t)
theorem kE.rep {c c':Ctx} {w:World} {id:Nat} {o:Obj} (r:kE o) (h:X4 c w id o) (q:c'.hd=c.hd) (I:c'.μ=c.μ):X4 c' w id o:=by
 cases o with
 |aH=>trivial
 |row sz ls e =>
  obtain⟨css,s,f,t⟩:=h;exact⟨css,by rw[q];exact s,f,fun i us b n d=>lG (r b (AP d)) (t i us b n d)⟩
 |deep sz e v l J sh =>
  obtain⟨css,s,f,t,E⟩:=h;refine⟨css,by rw[q];exact s,⟨f.len,fun i us b n d=>⟨(f.cell i us b n d).1,fun off u a g j m=>?_⟩,fun i us b off isz ie u n d g j m=>?_,fun i off x us u g j m=>by rw[q];exact f.hole i off x us u g j m,f.apart⟩,by rw[q];exact t,by rw[q];exact E⟩
  ·have:=r b (AP d) off a j;rw[m] at this;exact ow this ((f.cell i us b n d).2 off u a g j m)
  ·obtain⟨ls,A,css',F,G,H⟩:=f.inner i us b off isz ie u n d g j m;have:=r b (AP d) off _ A;rw[g] at this;obtain⟨z,D,e1,B⟩:=this;cases e1;exact⟨ls,A,css',F,G,fun k us' p C y=>lG (B p (AP y)) (H k us' p C y)⟩
 |_=>exact r.elim
def ss {c c':Ctx} {w:World} {v:Value} {a:AV} (b:k7 a=true) (h:Rd c w v a) (j:c'.hd=c.hd):Rd c' w v a:=by
 have aF:∀{v:Value} {id:Nat},Rd c w v (.aF id)->Rd c' w v (.aF id):=fun {v id} h=>by
  obtain⟨A,n,cap,e1,f,g,i⟩:=h.aj;rw[e1];exact .aF (by rw[j];exact f) g i
 have agg:∀{v:Value} {d:List AV},d.all cY=true->Rd c w v (.agg d)->Rd c' w v (.agg d):=fun {v d} b h=>by
  obtain⟨us,rfl,e⟩:=h.bI;exact .agg (jm b e)
 unfold k7 at b;split at b
 ·rename_i l;obtain⟨us,rfl,e⟩:=h.cf;refine .aS ?_;clear h
  induction l generalizing us with
  |nil=>cases e;exact .nil
  |cons a l ih =>
   cases e with|cons h t =>
   simp only[List.all_cons,A7] at b;refine .cons ?_ (ih b.2 _ t);cases a<;>first|exact aF h|exact agg b.1 h|exact jo b.1 h
 ·exact aF h
 ·exact agg b h
 ·exact jo b h
structure dN (P:Program) (f:Nat) (ins:List AV) (os:Os) (K:Kt):Prop where
 out:(∃(ins0 ins':List AV) (g need upd:Os) (news:List Nat) (av:AV),Spec P f need ins' av upd news/\dP os ins ins0 g/\cn ins0 ins'/\eG need os/\(need.all fun p=>(lk g p.1).isNone)=true/\(need.all fun p=>eP news p.2.ids)=true /\
  K av ((g++need).map (·.1)) news (upd++C8 g)) \/
 (∃(ins0 ins':List AV) (g:Os) (av:AV),Spec P f [] ins' av [] []/\eB os ins ins0 g/\cn ins0 ins'/\kA av=true/\K av (g.map (·.1)) [] []) \/
 (∃(ins0 ins':List AV) (g upd:Os) (news:List Nat) (av:AV),Spec P f [] ins' av upd news/\eB os ins ins0 g/\cn ins0 ins'/\k7 av=true/\gj upd/\K av (g.map (·.1)) news upd)
section
variable {P:Program} {tab:E5} {et:R7} {o:Oper} {ev:Ev} {os:Os} {K:Kt}
theorem dN.fz {f:Nat} {ins a:List AV} {need upd:Os} {news:List Nat} {av:AV} (h:Spec P f need a av upd news) (b:cn (J5 os ins).1 a) (e:eG need os) (hd:(need.all fun p=>(lk (J5 os ins).2 p.1).isNone)=true)
  (d:(need.all fun p=>eP news p.2.ids)=true) (c:K av (((J5 os ins).2++need).map (·.1)) news (upd++C8 (J5 os ins).2)):dN P f ins os K :=
 ⟨.inl ⟨_,a,_,need,upd,news,av,h,rF ins,b,e,hd,d,c⟩⟩
theorem dN.a_ {f:Nat} {ins a:List AV} {need upd:Os} {news:List Nat} {av:AV} (h:Spec P f need a av upd news) (b:cn ins a) (g:eG need os)
  (e:(need.all fun p=>eP news p.2.ids)=true) (d:K av (need.map (·.1)) news upd):dN P f ins os K :=
 ⟨.inl ⟨ins,a,[],need,upd,news,av,h,⟨fun _ _ h=>(by cases h),fun _ _ h=>(by cases h),fun c w us _ h=>l6.mono (c:=c) (c':=c.fz []) (fun _ _=>rfl) (fun _ h=>Or.inl h) (fun _ _=>⟨rfl,rfl⟩) h⟩,b,g,AD.2 fun _ _=>rfl,e,by simpa[C8] using d⟩⟩
def ka {c:Go.Call} {f:Operand} {g:Nat} {d:List Value} {e:Operand->Value} {w:World} (l:o.op=.call c) (j:c.callee=.value f) (a:ax P g=true) (e1:e f=.func (.func g) #[] d.toArray) :
  (execOp e o).run P w=.ok (.enter g (c.args.toList.map e++d).toArray) w:=by
 unfold ax at a;split at a
 ·rename_i fn i;simp only[A7,Bool.not_eq_true',beq_eq_false_iff_ne,ne_eq] at a;have b:fn.body.isNone=false:=by cases m:fn.body<;>simp_all
  have k:c.args.map e++d.toArray=(c.args.toList.map e++d).toArray:=by
   apply Array.toList_inj.1;simp
  simp[execOp,l,resolve,j,e1,Deferred.ofValue,invoke,callFunc,i,a.2,k];intro h;rw[h] at b;cases b
 ·cases a
def uI {c:Go.Call} {f:Operand} {g:Nat} {d:List AV} (D:o.op=.call c) (y:c.callee=.value f) (N:ev f=.fn g d) {l k:List AV} {gz:Os} {av:AV} (a:Spec P g [] k av [] [])
  (J:eB os (c.args.toList.map ev++d) l gz) (B:cn l k) (z:kA av=true) (L:K av (gz.map (·.1)) [] []):G9 P o ev os K:=by
 intro _;obtain⟨p,C,a⟩:=a;refine⟨av,gz,[],[],fun q w H aA I=>?_,J.sub,fun id A=>(by cases A),L⟩;have rf:Rd q w (H f) (.fn g d):=by
  have:=I f (by simp[D,Op.operands,Go.Call.operands,y])
  rwa [N] at this
 obtain⟨s,e1,t⟩:=rf.hC;have n:l6 q w (c.args.toList.map H++s) (c.args.toList.map ev++d):=(ia fun x O=>I x (by simp[D,Op.operands,Go.Call.operands,y];exact .inr (by simpa using O))).append t;have i:=iR B (J.run q w _ aA n);have R:=aE.freeze aA;have m:∀(id:Nat) (o:Obj),lk ([]:Os) id=some o->False:=fun id o h=>(by cases h);have G:F7 (q.fz gz) w []:=⟨fun id o h=>(m id o h).elim,fun id o b h=>(m id o h).elim,fun id F o Q b _ h=>(m id o h).elim,R.aA.aX⟩;have j:=a (q.fz gz) w (c.args.toList.map H++s).toArray G (by simpa using i);rw[ka D y p e1];refine j.mono fun e w' ⟨v,c',M,r,E⟩=>⟨v,M,q,⟨r.bQ,r.tape,r.output,r.size,fun _ h=>h,fun _ h=>.inl h,fun b u _=>r.aK b u fun⟨id,o,h,_⟩=>m id o h,fun _ _=>⟨rfl,rfl⟩,
  ⟨fun id o h=>(m id o h).elim,fun id o b h=>(m id o h).elim,fun id F o Q b _ h=>(m id o h).elim,fun b u=>Nat.lt_of_lt_of_le (aA.aX b u) r.size⟩,fun id o b h=>(m id o h).elim⟩,tf z E⟩
def tg {c:Go.Call} {f:Operand} {g:Nat} {d:List AV} (O:o.op=.call c) (G:c.callee=.value f) (r:ev f=.fn g d) {n m:List AV} {gz upd:Os} {news:List Nat} {av:AV} (a:Spec P g [] m av upd news)
  (U:eB os (c.args.toList.map ev++d) n gz) (M:cn n m) (J:k7 av=true) (L:gj upd) (W:K av (gz.map (·.1)) news upd):G9 P o ev os K:=by
 intro _;obtain⟨q,t,a⟩:=a;refine⟨av,gz,upd,news,fun y w S aA T=>?_,U.sub,t,W⟩;have rf:Rd y w (S f) (.fn g d):=by
  have:=T f (by simp[O,Op.operands,Go.Call.operands,G])
  rwa [r] at this
 obtain⟨z,e1,B⟩:=rf.hC;have p:l6 y w (c.args.toList.map S++z) (c.args.toList.map ev++d):=(ia fun x Z=>T x (by simp[O,Op.operands,Go.Call.operands,G];exact .inr (by simpa using Z))).append B;have k:=iR M (U.run y w _ aA p);have p1:=aE.freeze aA;have D:∀(id:Nat) (o:Obj),lk ([]:Os) id=some o->False:=fun id o h=>(by cases h);have R:F7 (y.fz gz) w []:=⟨fun id o h=>(D id o h).elim,fun id o b h=>(D id o h).elim,fun id u o E b _ h=>(D id o h).elim,p1.aA.aX⟩;have l:=a (y.fz gz) w (c.args.toList.map S++z).toArray R (by simpa using k);rw[ka O G q e1];refine l.mono fun e w' ⟨v,c',X,j,Q⟩=>⟨v,X,{ c' with Φ:=y.Φ },⟨j.bQ,j.tape,j.output,j.size,fun _ h=>h,fun _ h=>.inl h,fun b A _=>j.aK b A fun⟨id,o,h,_⟩=>D id o h,fun i Y=>j.ctx i Y,
  ⟨fun id o h=>(L.at h).rep (j.aA.rep id o h) rfl rfl,fun id o b h r=>?_,fun id u o E b N h V r=>?_,fun b A=>Nat.lt_of_lt_of_le (aA.aX b A) j.size⟩,fun id o b h r=>?_⟩,ss J Q rfl⟩
 ·have s:aI c' id o b:=by cases o<;>exact r
  have:=j.aA.lt id o b h s;exact⟨this.1,fun A=>this.2 (j.aX b (.inl A))⟩
 ·have H:aI c' id o b:=by cases o<;>exact r
  intro I;have C:aI c' u E b:=by cases E<;>exact I
  exact j.aA.sep id u o E b N h V H C
 ·have s:aI c' id o b:=by cases o<;>exact r
  rcases j.ab id o b h s with F|⟨i,x,F,_⟩
  ·exact .inl F
  ·exact(D i x F).elim
def tu {c:Go.Call} {f:Operand} {g:Nat} {caps:List AV} (ho:o.op=.call c) (hc:c.callee=.value f) (hf:ev f=.fn g caps) (h:dN P g (c.args.toList.map ev++caps) os K):G9 P o ev os K:=by
 rcases h.out with⟨ins0,ins',gz,need,upd,news,av,hspec,hz,hle,hs,hd,hfr,hK⟩|⟨ins0,ins',gz,av,hspec,hz,hle,hfl,hK⟩|⟨ins0,ins',gz,upd,news,av,hspec,hz,hle,hfl,hfu,hK⟩
 case inr.inl=>exact uI ho hc hf hspec hz hle hfl hK
 case inr.inr=>exact tg ho hc hf hspec hz hle hfl hfu hK
 intro _;obtain⟨hcall,hnews,hspec⟩:=hspec;have hsub:=iK hs;obtain⟨s1,s2,s3⟩:=iF hz.sub hsub;have hnone:∀id x,lk need id=some x->lk gz id=none:=fun id x h=>by
  have:=AD.1 hd _ (K3 h);simpa using this
 refine⟨av,gz++need,upd++C8 gz,news,fun cx w ρ aA hr=>?_,s1,fun id hid=>?_,hK⟩
 ·have rf:Rd cx w (ρ f) (.fn g caps):=by
   have:=hr f (by simp[ho,Op.operands,Go.Call.operands,hc])
   rwa [hf] at this
  obtain⟨cus,e1,hcus⟩:=rf.hC;have hargs:l6 cx w (c.args.toList.map ρ++cus) (c.args.toList.map ev++caps):=(ia fun x hx=>hr x (by simp[ho,Op.operands,Go.Call.operands,hc];exact .inr (by simpa using hx))).append hcus;have hargs':=iR hle (hz.run cx w _ (aA.sub s3) hargs);have p1:=(aE.freeze (aA.sub s3)).cz s3;have ok1:F7 (cx.fz gz) w need:=by
   have hfrm:=aA.frame (fun _ _ h=>h) p1 (fun _ h=>(by cases h)) (fun _ _ _ _ _ h=>(by cases h));refine hfrm.sub fun id x hl=>?_;have hg:lk (C8 gz) id=none:=by
    have:=iE gz id;rw[hnone id x hl] at this;cases hq:lk (C8 gz) id with
    |none=>rfl
    |some y=>rw[hq] at this;cases this
   rw[y7,hg];simpa using s2 id x hl
  have hcalls:=hspec (cx.fz gz) w (c.args.toList.map ρ++cus).toArray ok1 (by simpa using hargs');rw[ka ho hc hcall e1];refine hcalls.mono fun e w' ⟨v,c',he,hp,hrd⟩=>⟨v,he,c',?_,hrd⟩;have:=aE.trans aA p1 hp (fun _ h=>(by cases h)) hnews (fun id x hl=>by
   have hg:lk (C8 gz) id=none:=by
    have:=iE gz id;rw[hnone id x hl] at this;cases hq:lk (C8 gz) id with
    |none=>rfl
    |some y=>rw[hq] at this;cases this
   rw[y7,hg];simpa using s2 id x hl) (fun _ _ _ _ _ h=>(by cases h)) (fun id x hl hu y hy=>by
   rw[y7] at hl;cases hg:lk (C8 gz) id with
   |some z =>
    rw[hg] at hl;simp at hl;subst hl;rw[eu hg];simp[Obj.ids]
   |none =>
    rw[hg] at hl;simp at hl;rw[y7] at hl;cases hgz:lk gz id with
    |some z =>
     rw[hgz] at hl;simp at hl;subst hl;rw[hz.ids id z hgz];simp
    |none =>
     rw[hgz] at hl;simp at hl;exact gP (AD.1 hfr _ (K3 hl)) y hy)
  simpa using this
 ·rw[y7];have:=hnews id hid;cases hu:lk upd id with
  |none=>rw[hu] at this;cases this
  |some x=>rfl
def gy (os:Os):AV->Bool
 |.aF id=>match lk os id with
  |some (.deep _ _ _ _ _ _)=>true
  |_=>false
 |.ep id _ _ _=>match lk os id with
  |some (.deep _ _ _ _ _ _)=>true
  |_=>false
 |_=>false
def vL (tab:E5) (t:TypeId):Bool:=match lk tab t with
 |some ti=>match lk tab ti.elem with
  |some te=>A4 te.kind 1 && A4 te.len 1
  |none=>false
 |none=>false
def eR {b:Bool} {X Y Z:Prop} (h:bif b then X else Y) (a:b=true->X->Z) (c:b=false->Y->Z):Z:=by
 cases b
 ·exact c rfl h
 ·exact a rfl h
def px (tab:E5) (t:TypeId):Bool:=match lk tab t with
 |some ti=>A4 ti.kind 2
 |none=>false
def qH (tab:E5) (t:TypeId) (x:AV):Bool :=
 match lk tab t with
 |some ti=>match x with
  |.str _=>A4 ti.kind 4
  |.mp _=>A4 ti.kind 8
  |_=>A4 ti.kind 2
 |none=>false
def mb (P:Program) (tab:E5) (d:Nat) (c:Go.Call) (ev:Ev) (os:Os) (K:Kt):Prop :=
 match c.callee with
 |.builtin b=>match b,c.args.toList,c.argTypes.toList with
  |.len,[x],[t]=>bif gy os (ev x) then(match px tab t with
    |true=>mh os (ev x) K
    |false=>False) else match qH tab t (ev x) with
   |true=>mw os (ev x) K
   |false=>False
  |.append,[x,y],[t,e]=>bif gy os (ev x) then lF tab os d t e (ev x) (ev y) K else bif ui (ev y) then lI tab os d t e (ev x) (ev y) K else lZ tab os d t e (ev x) (ev y) K
  |.min,[x,y],_=>lT (ev x) (ev y) K
  |.max,[x,y],_=>lQ (ev x) (ev y) K
  |_,_,_=>False
 |.value f=>match ev f with
  |.fn g a=>dN P g (c.args.toList.map ev++a) os K
  |_=>False
 |.invoke _ _=>False
def tT (n:D6 P tab) (d:Nat) {c:Go.Call} (e:o.op=.call c) (h:mb P tab d c ev os K):G9 P o ev os K:=by
 unfold mb at h;obtain⟨callee,args,argTypes⟩:=c;split at h
 ·rename_i b w;simp only at w;subst w;split at h
  ·rename_i x t i u;have a:args=#[x]:=by simpa using congrArg List.toArray i
   have k:argTypes=#[t]:=(by simpa using congrArg List.toArray u);subst a k;refine eR h (fun _ h=>?_) fun _ h=>?_
   ·split at h
    ·rename_i q;unfold px at q;split at q
     ·rename_i ti l;exact u0 n l (A9 q) e h
     ·cases q
    ·exact h.elim
   split at h
   ·rename_i j;refine uz n e ?_ h;unfold qH at j;split at j
    ·rename_i ti l;rw[l];split at j
     ·rename_i s m;rw[m];exact A9 j
     ·rename_i s m;rw[m];exact A9 j
     ·rename_i r p;have:=A9 j;cases m:ev x<;>first|exact this|exact absurd m (r _)|exact absurd m (p _)
    ·cases j
   ·exact h.elim
  ·rename_i x y t B i u;have a:args=#[x,y]:=by simpa using congrArg List.toArray i
   have k:argTypes=#[t,B]:=(by simpa using congrArg List.toArray u);subst a k;exact eR h (fun _ h=>qs n d e h) fun _ h=>eR h (fun _ h=>qz n d e h) fun _ h=>rT n d e h
  ·rename_i x y i;have a:args=#[x,y]:=by simpa using congrArg List.toArray i
   subst a;exact uv e h
  ·rename_i x y i;have a:args=#[x,y]:=by simpa using congrArg List.toArray i
   subst a;exact uf e h
  ·exact h.elim
 ·rename_i f z;split at h
  ·rename_i g v A;exact tu e z A h
  ·exact h.elim
 ·exact h.elim
def dZ (P:Program) (tab:E5) (et:R7) (d:Nat) (op:Op) (ev:Ev) (os:Os) (K:Kt):Prop :=
 match op with
 |.move x=>K (ev x) [] [] []
 |.assign x=>K (ev x) [] [] []
 |.pick c a b=>ma ev c a b K
 |.alloc t=>mP tab d t K
 |.box t x=>mr d t (ev x) K
 |.build t e=>mF tab ev t e K
 |.buildSlice t n e=>bif vL tab t then(lz tab os ev d t n e K\/jT tab os ev d t n e K) else jT tab os ev d t n e K
 |.load t x=>bif gy os (ev x) then mR tab os t (ev x) K else mZ tab os t (ev x) (n9 os K)
 |.store t x y=>bif gy os (ev x) then lg tab os t (ev x) (ev y) K else lb tab os t (ev x) (ev y) K
 |.nilCheck x=>lS (ev x) K
 |.binOp op t x y _=>bif nD y then mo tab op t (ev x) (ev y) K else lV tab et op t (ev x) (ev y) (fun av=>K av [] [] [])
 |.unOp op _ x=>n5 op (ev x) K
 |.convert s t x=>mi tab s t (ev x) K
 |.makeFunc fn f c=>mS ev fn f c K
 |.makeSlice t x y=>mc tab d t (ev x) (ev y) K
 |.slice t x h g none=>bif gy os (ev x) then lY tab os d t (ev x) (J2 ev h) (J2 ev g) K else mO tab os d t (ev x) (J2 ev h) (J2 ev g) K
 |.fieldAddr s x f=>ky tab s (ev x) f K
 |.field s x f=>mE tab s (ev x) f K
 |.indexAddr t x i=>bif gy os (ev x) then ko tab os t (ev x) (ev i) K else lA tab os t (ev x) (ev i) K
 |.index t x i=>mL tab t (ev x) (ev i) K
 |.extract x i=>lL (ev x) i K
 |.makeMap _ none=>oc d K
 |.lookup t x k false=>mD tab os t (ev x) (ev k) K
 |.mapUpdate t x k v=>ku tab os t (ev x) (ev k) (ev v) K
 |.call c=>mb P tab d c ev os K
 |_=>False
def bD (hT:D6 P tab) (hE:U3 P et) (d:Nat) (h:dZ P tab et d o.op ev os K):G9 P o ev os K:=by
 cases ho:o.op<;>rw[ho] at h<;>simp only[dZ] at h
 case move x=>exact pX (.inl ho) h
 case assign x=>exact pX (.inr ho) h
 case pick c a b=>exact uY ho h
 case alloc t=>exact tV hT d ho h
 case box t x=>exact uh d ho h
 case build t ps=>exact tO hT ho h
 case buildSlice t n ps=>exact eR h (fun _ h=>h.elim (fun h=>rR hT d ho h) fun h=>nf hT d ho h) fun _ h=>nf hT d ho h
 case load t x=>exact eR h (fun _ h=>ra hT ho h) fun _ h=>(tq hT ho h).res
 case store t x y=>exact eR h (fun _ h=>rD hT ho h) fun _ h=>rG hT ho h
 case nilCheck x=>exact vF ho h
 case binOp op t x y ty=>exact eR h (fun hy h=>ug hT ho hy h) fun _ h=>uo hT hE ho h
 case unOp op t x=>exact vY ho h
 case convert s t x=>exact uC hT ho h
 case makeFunc fn f c=>exact ub ho h
 case makeSlice t x y=>exact uK hT d ho h
 case slice t x lo hi mx=>cases mx with
  |none=>exact eR h (fun _ h=>r8 hT d ho h) fun _ h=>tL hT d ho h
  |some m=>exact h.elim
 case fieldAddr s x f=>exact sX hT ho h
 case field s x f=>exact tZ hT ho h
 case indexAddr t x i=>exact eR h (fun _ h=>sN hT ho h) fun _ h=>sT hT ho h
 case index t x i=>exact tQ hT ho h
 case extract x i=>exact qq ho h
 case makeMap t r=>cases r with
  |none=>exact qv d ho h
  |some r=>exact h.elim
 case lookup t x k b=>cases b with
  |false=>exact rC hT ho h
  |true=>exact h.elim
 case mapUpdate t x k v=>exact sW hT ho h
 case call c=>exact tT hT d ho h
end
def p6 {p:Prop} [Decidable p] {X Y:Prop} (a:p->X) (b:¬p->Y):de (decide p) X Y:=by
 by_cases h:p
 ·rw[Ak h];exact a h
 ·rw[Aj h];exact b h
def y8 (a:List Nat) (ts:Ts):Bool:=match a with
 |[]=>true
 |_=>ts.all fun p=>eP a p.2.ids
def y9 (a:List Nat) (b os:Os):Bool:=match a with
 |[]=>true
 |_=>a.all (fun i=>AH i top) && os.all fun p=>(lk b p.1).isSome || eP a p.2.ids
def ck (n:Nat):Option Tmp->Bool
 |none=>true
 |some d=>AH d n
def V6 : Option Tmp->AV->Ts->Ts
 |none,_,ts=>ts
 |some d,av,ts=>(d,av)::ts
def force (a:AV) (K:AV->Prop):Prop :=
 match a with
 |.any=>K .any
 |.int n=>K (.int n)
 |.ik k n=>K (.ik k n)
 |.bool b=>K (.bool b)
 |.str s=>K (.str s)
 |.sl sz ls=>K (.sl sz ls)
 |.ptr id off=>K (.ptr id off)
 |.fp d=>K (.fp d)
 |.aF id=>K (.aF id)
 |.bZ id n=>K (.bZ id n)
 |.br id n sz=>K (.br id n sz)
 |.ep id i sz off=>K (.ep id i sz off)
 |.fn f d=>K (.fn f d)
 |.agg d=>K (.agg d)
 |.aS d=>K (.aS d)
 |.aC=>K .aC
 |.cW b=>K (.cW b)
 |.aO=>K .aO
 |.aG=>K .aG
 |.mp id=>K (.mp id)
 |.bF id=>K (.bF id)
 |.np id=>K (.np id)
 |.ba b=>K (.ba b)
 |.aU v=>K (.aU v)
def force_eq (a:AV) (K:AV->Prop):force a K↔K a:=by cases a<;>exact Iff.rfl
def dS : Os->Os->(Os->Prop)->Prop
 |[],os,K=>K os
 |(k,o)::r,os,K=>dS r os fun x=>K ((k,o)::x)
theorem e6 : ∀(a os:Os) (K:Os->Prop),dS a os K↔K (a++os)
 |[],_,_=>Iff.rfl
 |(k,o)::r,os,K=>by rw[dS,e6 r os];rfl
def dA : Ts->(Ts->Prop)->Prop
 |[],K=>K []
 |(k,a)::r,K=>dA r fun x=>K ((k,a)::x)
theorem gS : ∀(ts:Ts) (K:Ts->Prop),dA ts K↔K ts
 |[],_=>Iff.rfl
 |(k,a)::r,K=>by rw[dA,gS r]
def gg (ops:List Oper) (ts:Ts) (j:Nat):Option Bool :=
 match ops[j]? with
 |some o=>match o.dst with
  |some d=>match lk ts d with
   |some (.bool b)=>some b
   |_=>none
  |none=>none
 |none=>none
def gd (ops:List Oper) (ts:Ts) (j:Nat):Bool :=
 match ops[j]? with
 |some o=>match o.dst with
  |some d=>match lk ts d with
   |some (.aS [])=>true
   |_=>false
  |none=>false
 |none=>false
def eA (ops:List Oper) (o:Oper) (ts:Ts) (X Y:Prop):Prop :=
 match o.guard with
 |none=>X
 |some (j,true)=>match gd ops ts j with
  |true=>Y
  |false=>match gg ops ts j with
   |some b=>de b X Y
   |none=>False
 |some (j,false)=>match gd ops ts j with
  |true=>Y
  |false=>match gg ops ts j with
   |some b=>de b Y X
   |none=>False
def fC (P:Program) (tab:E5) (et:R7) (n:Nat) (ops:List Oper):List Oper->Ts->Os->(Ts->Os->Prop)->Prop
 |[],ts,os,K=>K ts os
 |o::rest,ts,os,K=>match o.dst with
  |some d=>match AH d n with
   |true=>eA ops o ts
    (dZ P tab et d o.op (Y5 ts) os fun av _ a b=>match y8 a ts && y9 a b os with
     |true=>force av fun av=>dS b os fun os=>fC P tab et n ops rest ((d,av)::ts) os K
     |false=>False)
    (fC P tab et n ops rest ((d,.aS [])::ts) os K)
   |false=>False
  |none=>eA ops o ts
   (dZ P tab et 0 o.op (Y5 ts) os fun av _ a b=>match y8 a ts && y9 a b os with
    |true=>dS b os fun os=>fC P tab et n ops rest ts os K
    |false=>False)
   (fC P tab et n ops rest ts os K)
section
variable {P:Program} {tab:E5} {et:R7} {Γ:H9}
theorem cr.put {c c':Ctx} {w w':World} {ts:Ts} {a:Act} {need upd:Os} {news:List Nat} {v:Value} {av:AV} {dst:Option Tmp} (h:cr c w ts a) (k:F7 c w need) (l:aE c w c' w' need upd news) (j:∀t x,lk ts t=some x->∀id∈news,id ∉ x.ids)
  (m:Rd c' w' v av) (hd:ck a.tmps.size dst=true):cr c' w' (V6 dst av ts) (a.put dst v):=by
 cases dst with
 |none =>
  intro t x e;obtain⟨u,f,g⟩:=h t x e;exact⟨u,f,g.post l k (j t x e)⟩
 |some d =>
  intro t x e;have i:d<a.tmps.size:=AQ hd;simp only[V6,j5] at e;by_cases b:d=t
  ·rw[Ag b] at e;cases e;subst b;exact⟨v,by simp[Act.put,i],m⟩
  ·rw[Af b] at e;obtain⟨u,f,g⟩:=h t x e;exact⟨u,by simp[Act.put,Array.getElem?_setIfInBounds_ne b,f],g.post l k (j t x e)⟩
def iD {b:List Nat} {ts:Ts} (h:y8 b ts=true):∀t x,lk ts t=some x->∀id∈b,id ∉ x.ids:=by
 intro t x d id a;unfold y8 at h;split at h
 ·cases a
 ·exact gP (AD.1 h _ (K3 d)) id a
def Z6 {b:List Nat} {d os:Os} (h:y9 b d os=true):(∀id o,lk os id=some o->lk d id=none->∀x∈b,x ∉ o.ids)/\∀x∈b,x<top:=by
 unfold y9 at h;split at h
 ·exact⟨fun _ _ _ _ _ h=>(by cases h),fun _ h=>(by cases h)⟩
 ·simp only[A7] at h;refine⟨fun id o e f x a=>?_,fun x a=>?_⟩
  ·have:=AD.1 h.2 _ (K3 e);simp only[f,Option.isSome_none,Bool.false_or] at this;exact gP this x a
  ·exact AQ (AD.1 h.1 x a)
def kY (Γ:H9) (c:Ctx):Prop:=∀id,top<=id->c.μ id=Γ.c.μ id/\c.hd id=Γ.c.hd id
structure qG (Γ:H9) (ts:Ts) (os:Os) (c:Ctx) (a:Act) (w:World):Prop where
 rel:vr Γ ts os c a w
 same:kY Γ c
def l9 (Γ:H9) (ts:Ts) (os:Os) (a:Act) (w:World):Prop:=∃c,qG Γ ts os c a w
theorem bE.inst {r:Result Next} {R:Value->World->Prop} (h:bE P r R):∃v w,R v w:=by
 unfold bE at h;split at h
 ·exact⟨_,_,h⟩
 ·exact⟨_,_,h⟩
 ·obtain⟨e,w',b,⟨v,_,a⟩,_⟩:=h [];exact⟨v,w',a⟩
 ·exact h.elim
def kx {c:Ctx} {w:World} {ops:List Oper} {ts:Ts} {a:Act} {j:Nat} {b:Bool} (h:cr c w ts a) (e:gg ops ts j=some b):yielded ops.toArray a.tmps j=some b:=by
 unfold gg at e;split at e
 ·rename_i o k;split at e
  ·rename_i d hd;split at e
   ·rename_i l i;cases e;obtain⟨v,f,g⟩:=h d _ i;rw[g.ai] at f;unfold yielded;simp[k,hd,f]
   ·cases e
  ·cases e
 ·cases e
def kv {c:Ctx} {w:World} {ops:List Oper} {ts:Ts} {a:Act} {j:Nat} (h:cr c w ts a) (b:gd ops ts j=true):yielded ops.toArray a.tmps j=none:=by
 unfold gd at b;split at b
 ·rename_i o i;split at b
  ·rename_i d hd;split at b
   ·rename_i g;obtain⟨v,e,f⟩:=h d _ g;obtain⟨us,rfl,_⟩:=f.cf;unfold yielded;simp[i,hd,e]
   ·cases b
  ·cases b
 ·cases b
def oG {c:Ctx} {w:World} {ops:List Oper} {o:Oper} {ts:Ts} {a:Act} {X Y:Prop} (h:cr c w ts a) (d:eA ops o ts X Y):(Region.wanted o (yielded ops.toArray a.tmps)=true/\X)\/(Region.wanted o (yielded ops.toArray a.tmps)=false/\Y):=by
 unfold eA at d;unfold Region.wanted;split at d
 ·rename_i e;rw[e];exact .inl ⟨rfl,d⟩
 ·rename_i j e;rw[e];split at d
  ·rename_i g;have:=kv h g;exact .inr ⟨by simp[this],d⟩
  split at d
  ·rename_i b f;have:=kx h f;cases b
   ·exact .inr ⟨by simp[this],d⟩
   ·exact .inl ⟨by simp[this],d⟩
  ·exact d.elim
 ·rename_i j e;rw[e];split at d
  ·rename_i g;have:=kv h g;exact .inr ⟨by simp[this],d⟩
  split at d
  ·rename_i b f;have:=kx h f;cases b
   ·exact .inl ⟨by simp[this],d⟩
   ·exact .inr ⟨by simp[this],d⟩
  ·exact d.elim
def iP (a:Act) (dst:Option Tmp) (v:Value):(a.put dst v).tmps.size=a.tmps.size:=by cases dst<;>simp[Act.put]
def put_defers (a:Act) (dst:Option Tmp) (v:Value):(a.put dst v).defers=a.defers:=by cases dst<;>simp[Act.put]
def pH {o:Oper} {ts:Ts} {os:Os} {a:Act} {w:World} {K:Kt} (h:G9 P o (Y5 ts) os K) (G:l9 Γ ts os a w)
  {u:Act->World->Prop} {Q:Exit->Act->World->Prop} (E:∀av rd l p,K av rd l p->(∀v w' c',y8 l ts=true->y9 l p os=true->ck Γ.n o.dst=true->qG Γ (V6 o.dst av ts) (p++os) c' (a.put o.dst v) w'->u (a.put o.dst v) w')/\y8 l ts=true/\y9 l p os=true/\ck Γ.n o.dst=true) :
  o.wp P a w u Q:=by
 obtain⟨c,⟨hd,C,k,aA,i⟩,f⟩:=G;have g:∀x∈o.op.operands.toList,Rd c w (a.eval x) (Y5 ts x):=fun x _=>gZ k x;obtain⟨av,need,upd,news,j,b,d,q⟩:=h ⟨c,w,a.eval,aA,g⟩;obtain⟨e,f1,y,f3⟩:=E _ _ _ _ q;have r:=j c w a.eval (aA.sub b) g;unfold Oper.wp;refine r.upon fun v w' ⟨c',m,H⟩=>?_;obtain⟨z,D⟩:=Z6 y;refine e v w' c' f1 y f3 ⟨⟨by rw[put_defers];exact hd,by rw[iP];exact C,k.put (aA.sub b) m (iD f1) H (by rw[C];exact f3),aA.frame b m d z,i.post aA b m d z⟩,fun id s=>?_⟩;have t:id ∉ news:=fun F=>by have:=D id F;omega
 have A:=m.ctx id t;have B:=f id s;exact⟨A.1.trans B.1,A.2.trans B.2⟩
def iS {o:Oper} {ts:Ts} {os:Os} {a:Act} {w:World} (j:l9 Γ ts os a w) (hd:ck Γ.n o.dst=true):l9 Γ (V6 o.dst (.aS []) ts) os (a.put o.dst undef) w:=by
 obtain⟨c,⟨e,d,f,b,g⟩,i⟩:=j;exact⟨c,⟨by rw[put_defers];exact e,by rw[iP];exact d,f.put (need:=[]) (upd:=[]) (news:=[]) (b.sub fun _ _ h=>by cases h) (aE.refl b.aX) (fun _ _ _ _ h=>by cases h) (Rd.aS (us:=[]) .nil) (by rw[d];exact hd),b,g⟩,i⟩
theorem iL (m:D6 P tab) (j:U3 P et) {ops:List Oper} {Q:Exit->Act->World->Prop} {l2:List Oper}:∀(l:List Oper) (ts:Ts) (os:Os) (K:Ts->Os->Prop) (a:Act) (w:World),fC P tab et Γ.n ops l ts os K->l9 Γ ts os a w ->
  (∀s r u w',K s r->l9 Γ s r u w'->wpList P ops.toArray Q l2 u w')->wpList P ops.toArray Q (l++l2) a w
 |[],ts,os,K,a,w,h,t,k=>k ts os a w h t
 |o::rest,ts,os,K,a,w,h,t,k=>by
  obtain⟨c,b⟩:=t;have f:l9 Γ ts os a w:=⟨c,b⟩;rw[List.cons_append];unfold wpList;unfold fC at h;split at h
  ·rename_i d hd;split at h
   ·rename_i q;rcases oG b.rel.ts h with⟨i,h⟩|⟨i,h⟩
    ·rw[Ag i];refine .inl (pH (bD m j _ h) f fun av rd x y e=>?_);split at e
     ·rename_i g;simp only[A7] at g;rw[force_eq,e6] at e;refine⟨fun v w' c' _ _ _ p=>iL m j rest _ _ K _ _ e ⟨c',by rw[hd] at p⊢;exact p⟩ k,g.1,g.2,by rw[hd];exact q⟩
     ·exact e.elim
    ·rw[Af (by rw[i];simp)];have:=iS (o:=o) f (by rw[hd];exact q);exact iL m j rest _ _ K _ _ h (by rw[hd] at this⊢;exact this) k
   ·exact h.elim
  ·rename_i hd;rcases oG b.rel.ts h with⟨i,h⟩|⟨i,h⟩
   ·rw[Ag i];refine .inl (pH (bD m j _ h) f fun av rd x y e=>?_);split at e
    ·rename_i g;simp only[A7] at g;rw[e6] at e;refine⟨fun v w' c' _ _ _ p=>iL m j rest _ _ K _ _ e ⟨c',by rw[hd] at p⊢;exact p⟩ k,g.1,g.2,by rw[hd];rfl⟩
    ·exact e.elim
   ·rw[Af (by rw[i];simp)];have:=iS (o:=o) f (by rw[hd];rfl);exact iL m j rest _ _ K _ _ h (by rw[hd] at this⊢;exact this) k
def sr (j:D6 P tab) (g:U3 P et) {ops:List Oper} {Q:Exit->Act->World->Prop} (l:List Oper) (ts:Ts) (os:Os) (K:Ts->Os->Prop) (a:Act) (w:World) (h:fC P tab et Γ.n ops l ts os K) (m:l9 Γ ts os a w)
  (i:∀d b e w',K d b->l9 Γ d b e w'->Q .normal e w'):wpList P ops.toArray Q l a w:=by
 have:=iL j g (l2:=[]) l ts os K a w h m fun d b e w' k f=>i d b e w' k f
 rwa [List.append_nil] at this
inductive Ex : Type where
 |normal
 |exit (id:Nat)
 |ret
def fI : Exit->Ex->Prop
 |.normal,.normal=>True
 |.exit i,.exit j=>i=j
 |.ret,.ret=>True
 |_,_=>False
abbrev Qt := Ex->Ts->Os->Prop
structure j4 (P:Program) (Γ:H9) (c:Code) (ts:Ts) (os:Os) (Q:Qt):Prop where
 run:∀a w,l9 Γ ts os a w->c.wp P (fun e a' w'=>∃ex ts' os',fI e ex/\Q ex ts' os'/\l9 Γ ts' os' a' w') a w
def cX (P:Program) (tab:E5) (et:R7) (Γ:H9) (n:Nat):Code->Ts->Os->Qt->Prop
 |.skip,ts,os,Q=>Q .normal ts os
 |.seq x y,ts,os,Q=>cX P tab et Γ n x ts os fun e d a=>match e with
  |.normal=>j4 P Γ y d a Q
  |.exit id=>Q (.exit id) d a
  |.ret=>Q .ret d a
 |.cond c x y,ts,os,Q=>match Y5 ts c with
  |.bool b=>de b (j4 P Γ x ts os Q) (j4 P Γ y ts os Q)
  |_=>False
 |.block id c,ts,os,Q=>cX P tab et Γ n c ts os fun e d a=>match e with
  |.normal=>Q .normal d a
  |.exit f=>match A4 f id with
   |true=>Q .normal d a
   |false=>Q (.exit f) d a
  |.ret=>Q .ret d a
 |.loop c,ts,os,Q=>j4 P Γ (.loop c) ts os Q
 |.region id ops false,ts,os,Q=>dA ts fun ts=>fC P tab et n ops.toList ops.toList ts os (Q .normal)
 |.region id ops true,ts,os,Q=>j4 P Γ (.region id ops true) ts os Q
 |.exit id,ts,os,Q=>Q (.exit id) ts os
 |.ret,ts,os,Q=>Q .ret ts os
 |_,_,_,_=>False
theorem j4.mono {c:Code} {ts:Ts} {os:Os} {Q f:Qt} (h:j4 P Γ c ts os Q) (k:∀e ts os,Q e ts os->f e ts os):j4 P Γ c ts os f :=
 ⟨fun a w l=>wp_mono (h.run a w l) fun e m w' ⟨ex,d,b,g,i,j⟩=>⟨ex,d,b,g,k _ _ _ i,j⟩⟩
theorem mY (u:D6 P tab) (t:U3 P et):∀(c:Code) (ts:Ts) (os:Os) (Q:Qt),cX P tab et Γ Γ.n c ts os Q->j4 P Γ c ts os Q
 |.skip,ts,os,Q,h=>⟨fun a w k=>wp_skip ⟨.normal,ts,os,trivial,h,k⟩⟩
 |.seq x y,ts,os,Q,h=>by
  refine⟨fun a w k=>wp_seq (wp_mono ((mY u t x ts os _ h).run a w k) fun e r w' ⟨ex,f,d,o,g,m⟩=>?_)⟩;cases e<;>cases ex<;>simp only[fI] at o<;>first|exact o.elim|skip
  ·exact g.run r w' m
  ·subst o;exact⟨.exit _,f,d,rfl,g,m⟩
  ·exact⟨.ret,f,d,trivial,g,m⟩
 |.cond c x y,ts,os,Q,h=>by
  unfold cX at h;split at h
  ·rename_i b q;refine⟨fun a w k=>?_⟩;obtain⟨A,l⟩:=k;have p:=gZ l.rel.ts c;rw[q] at p;cases b
   ·exact wp_cond_false p.ai (h.run a w ⟨A,l⟩)
   ·exact wp_cond_true p.ai (h.run a w ⟨A,l⟩)
  ·exact h.elim
 |.block id c,ts,os,Q,h=>by
  refine⟨fun a w k=>wp_block (wp_mono ((mY u t c ts os _ h).run a w k) fun e r w' ⟨ex,f,d,o,g,m⟩=>?_)⟩
  match e,ex,o,g with
  |.normal,.normal,_,g=>exact⟨.normal,f,d,trivial,g,m⟩
  |.exit i,.exit j,o,g =>
   have s:i=j:=o;subst s;simp only at g;split at g
   ·rename_i q;have B:=A9 q;simp only[Exit.inBlock,Ag B];exact⟨.normal,f,d,trivial,g,m⟩
   ·rename_i q;have v:¬i=id:=fun e=>by rw[e] at q;simp at q
    simp only[Exit.inBlock,Af v];exact⟨.exit i,f,d,rfl,g,m⟩
  |.ret,.ret,_,g=>exact⟨.ret,f,d,trivial,g,m⟩
 |.loop c,ts,os,Q,h=>h
 |.region id ops false,ts,os,Q,h=>⟨fun a w k=>wp_region_list (by
   have:=sr u t (Q:=fun e r w'=>∃ex f d,fI e ex/\Q ex f d/\l9 Γ f d r w') ops.toList ts os (Q .normal) a w ((gS ts _).1 h) k fun f d r w' C z=>⟨.normal,f,d,trivial,C,z⟩;simpa using this)⟩
 |.region id ops true,ts,os,Q,h=>h
 |.exit id,ts,os,Q,h=>⟨fun a w k=>wp_exit ⟨.exit id,ts,os,rfl,h,k⟩⟩
 |.ret,ts,os,Q,h=>⟨fun a w k=>wp_ret ⟨.ret,ts,os,trivial,h,k⟩⟩
 |.rangeFunc _ _ _ _,_,_,_,h=>h.elim
 |.scope _,_,_,_,h=>h.elim
 |.label _,_,_,_,h=>h.elim
 |.goto _,_,_,_,h=>h.elim
 |.refuse _,_,_,_,h=>h.elim
end
section
mutual
def AV.ar (ρ:Nat->Nat):AV->AV
 |.ptr id off=>.ptr (ρ id) off
 |.aF id=>.aF (ρ id)
 |.bZ id n=>.bZ (ρ id) n
 |.br id n sz=>.br (ρ id) n sz
 |.ep id i sz off=>.ep (ρ id) i sz off
 |.mp id=>.mp (ρ id)
 |.bF id=>.bF (ρ id)
 |.np id=>.np (ρ id)
 |.fn f b=>.fn f (AV.bX ρ b)
 |.agg b=>.agg (AV.bX ρ b)
 |.aS b=>.aS (AV.bX ρ b)
 |a=>a
def AV.bX (ρ:Nat->Nat):List AV->List AV
 |[]=>[]
 |a::l=>a.ar ρ::AV.bX ρ l
end
def Ctx.b9 (c:Ctx) (ρ:Nat->Nat):Ctx:={ c with μ:=fun i=>c.μ (ρ i),hd:=fun i=>c.hd (ρ i) }
section
variable {c:Ctx} {w:World} {ρ:Nat->Nat}
mutual
theorem Rd.aW : ∀(a:AV) {v:Value},Rd c w v (a.ar ρ)->Rd (c.b9 ρ) w v a
 |.ptr id off,_,h=>by rw[h.bL];exact .ptr rfl
 |.aF id,_,h=>by obtain⟨A,n,cap,e1,d,j,l⟩:=h.aj;rw[e1];exact .aF d j l
 |.bZ id n,_,h=>by obtain⟨A,m,cap,e1,d,j,l,q⟩:=h.dH;rw[e1];exact .bZ d j l q
 |.br id n sz,_,h=>by obtain⟨A,m,cap,e1,d,j,l,q⟩:=h.jM;rw[e1];exact .br d j l q
 |.ep id i sz off,_,h=>by obtain⟨g,r,m,cap,e1,d⟩:=h.fu;rw[e1];exact .ep d
 |.mp id,_,h=>by rw[h.hM];exact .mp rfl
 |.bF id,_,h=>by obtain⟨A,n,cap,vs,e1,d,j,l⟩:=h.eg;rw[e1];exact .bF d j l
 |.np id,_,h=>by
  rcases h.qQ with e|e
  ·rw[e];exact .hO
  ·rw[e];exact .hP rfl
 |.ba b,_,h=>by cases h with|fz h=>exact .fz h
 |.fn f o,_,h=>by obtain⟨us,e,p⟩:=Rd.hC h;rw[e];exact .fn (l6.aW o p)
 |.agg o,_,h=>by obtain⟨us,e,p⟩:=Rd.bI h;rw[e];exact .agg (l6.aW o p)
 |.aS o,_,h=>by obtain⟨us,e,p⟩:=Rd.cf h;rw[e];exact .aS (l6.aW o p)
 |.any,_,_=>Rd.bR _
 |.int n,_,h=>by cases h with|fz h=>exact .fz h
 |.ik k n,_,h=>by cases h with|fz h=>exact .fz h
 |.bool b,_,h=>by cases h with|fz h=>exact .fz h
 |.str s,_,h=>by cases h with|fz h=>exact .fz h
 |.sl sz ls,_,h=>by cases h with|fz h=>exact .fz h
 |.fp o,_,h=>by cases h with|fz h=>exact .fz h
 |.aC,_,h=>by cases h with|fz h=>exact .fz h
 |.cW b,_,h=>by cases h with|fz h=>exact .fz h
 |.aO,_,h=>by cases h with|fz h=>exact .fz h
 |.aG,_,h=>by cases h with|fz h=>exact .fz h
 |.aU v,_,h=>by cases h with|fz h=>exact .fz h
theorem l6.aW : ∀(a_:List AV) {vs:List Value},l6 c w vs (AV.bX ρ a_)->l6 (c.b9 ρ) w vs a_
 |[],_,h=>by cases h;exact .nil
 |a::l,_,h=>by cases h with|cons h t=>exact .cons (Rd.aW a h) (l6.aW l t)
end
end
def Obj.ar (ρ:Nat->Nat):Obj->Obj
 |.box b e=>.box (AV.bX ρ b) e
 |.eqv j v=>.eqv (ρ j) v
 |.aw sz ls e i off x=>.aw sz ls e i off (ρ x)
 |.deep sz e a l d sh=>.deep sz e a l (d.map fun p=>(p.1,p.2.1,ρ p.2.2)) (ρ sh)
 |o=>o
def lC {ρ:Nat->Nat} {f:List (Nat×Nat×Nat)} {i off:Nat}:Q4 (f.map fun p=>(p.1,p.2.1,ρ p.2.2)) i off↔Q4 f i off:=by
 constructor
 ·rintro⟨x,d⟩;obtain⟨⟨a,b,y⟩,g,e⟩:=AI.1 d;cases e;exact⟨y,g⟩
 ·rintro⟨x,d⟩;exact⟨ρ x,AI.2 ⟨_,d,rfl⟩⟩
def iZ {ρ:Nat->Nat} {css:List (List Value)} {f:List (Nat×Nat×TypeId)} {g:List (Nat×Nat×Nat)} {i off:Nat} {v:Value}:Q0 css f (g.map fun p=>(p.1,p.2.1,ρ p.2.2)) i off v↔Q0 css f g i off v :=
 ⟨fun⟨us,p,a,b,d,e⟩=>⟨us,p,a,b,d,fun h=>e (lC.2 h)⟩,fun⟨us,p,a,b,d,e⟩=>⟨us,p,a,b,d,fun h=>e (lC.1 h)⟩⟩
theorem il.aW {c:Ctx} {w:World} {ρ:Nat->Nat} {id sz e sh:Nat} {a:List (Nat×Nat×TypeId)} {l:List (List AV)} {m:List (Nat×Nat×Nat)} (h:il c.Φ c.hd w (ρ id) sz e a l (m.map fun p=>(p.1,p.2.1,ρ p.2.2)) (ρ sh)) :
  il (c.b9 ρ).Φ (c.b9 ρ).hd w id sz e a l m sh:=by
 obtain⟨css,r,g,s,t⟩:=h;refine⟨css,r,⟨g.len,g.cell,fun i us q off isz ie u d f k n o=>g.inner i us q off isz ie u d f k n fun h=>o (lC.1 h),fun i off x us u d f k=>g.hole i off (ρ x) us u (AI.2 ⟨_,d,rfl⟩) f k,fun i off v y j z b d f=>g.apart i off v y j z b (iZ.2 d) (iZ.2 f)⟩,
  fun v=>(s v).trans ⟨fun⟨i,off,h⟩=>⟨i,off,iZ.1 h⟩,fun⟨i,off,h⟩=>⟨i,off,iZ.2 h⟩⟩,fun i off v b d=>t i off v b (iZ.2 d)⟩
theorem X4.aW {c:Ctx} {w:World} {ρ:Nat->Nat} {id:Nat} {o:Obj} (h:X4 c w (ρ id) (o.ar ρ)):X4 (c.b9 ρ) w id o:=by
 cases o with
 |aH=>trivial
 |jG g G=>exact h
 |box f e=>obtain⟨us,a,b⟩:=h;exact⟨us,a,l6.aW f b⟩
 |au l=>exact h
 |deep sz e d l k sh=>exact il.aW h
 |row sz ls e=>exact h
 |pins sz l e=>exact h
 |nest sz e isz ie l=>exact h
 |aw sz ls e i off x=>obtain⟨v,a,b⟩:=h;exact⟨v,Rd.aW (.aF x) a,b⟩
 |eqv j v=>exact h
def U5 {c:Ctx} {ρ:Nat->Nat} {id:Nat} {o:Obj} {b:Nat}:aI (c.b9 ρ) id o b↔aI c (ρ id) (o.ar ρ) b:=by cases o<;>exact Iff.rfl
def rn (l:List (Nat×Nat)) (i:Nat):Nat:=match lk l i with
 |some j=>j
 |none=>i
def ju (l:List (Nat×Nat)):Bool:=l.all fun p=>AH p.1 top
def k5 {l:List (Nat×Nat)} (h:ju l=true) {i:Nat} (b:top<=i):rn l i=i:=by
 unfold rn;split
 ·rename_i j a;have:=AQ (AD.1 h _ (K3 a));simp only at this;omega
 ·rfl
def j2 (ρ:Nat->Nat) (os:Os):Bool:=os.all fun p=>os.all fun q=>A4 p.1 q.1 || !Nat.beq (ρ p.1) (ρ q.1)
def rJ {ρ:Nat->Nat} {os:Os} (h:j2 ρ os=true) {i j:Nat} {o g:Obj} (d:lk os i=some o) (f:lk os j=some g) (b:i≠j):ρ i≠ρ j:=by
 have a:=AD.1 (AD.1 h _ (K3 d)) _ (K3 f);simp only[Bool.or_eq_true,Bool.not_eq_true'] at a;rcases a with a|a
 ·exact absurd (A9 a) b
 ·intro e;rw[e] at a;simp at a
def pz : Option AV->AV->Prop
 |some a,b=>hJ a b
 |none,b=>b=.any
def jy (ρ:Nat->Nat) (ts:Ts):Ts->Prop
 |[]=>True
 |(t,a)::r=>pz (lk ts t) (a.ar ρ)/\jy ρ ts r
def gm (ρ:Nat->Nat) (os:Os):Os->Prop
 |[]=>True
 |(id,o)::r=>lk os (ρ id)=some (o.ar ρ)/\gm ρ os r
theorem ji {ρ:Nat->Nat} {os:Os}:∀{a:Os},gm ρ os a->∀id o,lk a id=some o->lk os (ρ id)=some (o.ar ρ)
 |(k,x)::r,h,id,o,hl=>by
  rw[j5] at hl;split at hl
  ·rename_i e;subst e;cases hl;exact h.1
  ·exact ji h.2 id o hl
theorem F7.aW {c:Ctx} {w:World} {os a:Os} {ρ:Nat->Nat} (h:F7 c w os) (e:gm ρ os a) (l:j2 ρ a=true):F7 (c.b9 ρ) w a:=by
 have e:=ji e;exact⟨fun id o d=>(h.rep _ _ (e id o d)).aW,fun id o b d g=>h.lt _ _ b (e id o d) (U5.1 g),fun id k o m b j d f g i=>h.sep _ _ _ _ b (rJ l d f j) (e id o d) (e k m f) (U5.1 g) (U5.1 i),h.aX⟩
section
variable {P:Program} {tab:E5} {et:R7} {Γ:H9}
structure X5 (ts:Ts) (os:Os) (ts2:Ts) (os2:Os) (rl:List (Nat×Nat)):Prop where
 t:jy (rn rl) ts ts2
 o:gm (rn rl) os os2
 inj:j2 (rn rl) os2=true
 top:ju rl=true
theorem oS {ts:Ts} {ρ:Nat->Nat}:∀{a:Ts},jy ρ ts a->∀t x,lk a t=some x->pz (lk ts t) (x.ar ρ)
 |(k,y)::r,h,t,x,hl=>by
  rw[j5] at hl;split at hl
  ·rename_i e;subst e;cases hl;exact h.1
  ·exact oS h.2 t x hl
theorem cr.aW {c:Ctx} {w:World} {ts d:Ts} {a:Act} {ρ:Nat->Nat} (h:cr c w ts a) (m:∀t x,lk d t=some x->t<a.tmps.size) (n:jy ρ ts d):cr (c.b9 ρ) w d a:=by
 intro t x j;have e:=oS n t x j;have i:=m t x j;cases g:lk ts t with
 |some b =>
  rw[g] at e;obtain⟨v,k,l⟩:=h t b g;exact⟨v,k,Rd.aW x (mU e l)⟩
 |none =>
  rw[g] at e;refine⟨a.tmps[t],by simp[i],Rd.aW x ?_⟩;have f:x.ar ρ=.any:=e;rw[f];exact Rd.bR _
theorem X5.rel {ts:Ts} {os:Os} {f:Ts} {g:Os} {l:List (Nat×Nat)} (h:X5 ts os f g l) (v:(f.all fun p=>AH p.1 Γ.n)=true) {a:Act} {w:World} (y:l9 Γ ts os a w):l9 Γ f g a w:=by
 obtain⟨c,⟨m,k,q,r,d⟩,s⟩:=y;have j:=ji h.o;refine⟨c.b9 (rn l),⟨m,k,q.aW (fun t x i=>by rw[k];exact AQ (AD.1 v _ (K3 i))) h.t,r.aW h.o h.inj,⟨d.bQ,d.tape,d.output,d.size,d.aX,d.aV,d.aK,fun id o b i u=>d.ab _ _ b (j id o i) (U5.1 u)⟩⟩,fun id e=>?_⟩;have:=s id e;rw[<-k5 h.top e] at this;simpa[Ctx.b9,k5 h.top e] using this
theorem j4.sub {c:Code} {ts b:Ts} {os d:Os} {Q:Qt} (i:List (Nat×Nat)) (h:X5 ts os b d i) (f:(b.all fun p=>AH p.1 Γ.n)=true) (e:j4 P Γ c b d Q):j4 P Γ c ts os Q :=
 ⟨fun a w g=>e.run a w (h.rel f g)⟩
def exists_least {p:Nat->Prop} (h:∃n,p n):∃n,p n/\∀m,p m->n<=m:=by
 obtain⟨n,f⟩:=h
 induction n using Nat.strongRecOn with
 |_ n ih =>
  by_cases a:∃m,m<n/\p m
  ·obtain⟨m,b,d⟩:=a;exact ih m b d
  ·exact⟨n,f,fun m e=>by
    rcases Nat.lt_or_ge m n with h|h
    ·exact absurd ⟨m,h,e⟩ a
    ·exact h⟩
theorem j4.loop {ι:Type} (St:ι->Ts) (g:ι->Os) (m:ι->Nat) {c:Code} {ts:Ts} {os:Os} {Q:Qt} (t:ι) (B:List (Nat×Nat)) (G:X5 ts os (St t) (g t) B) (D:∀i,((St i).all fun p=>AH p.1 Γ.n)=true)
  (M:∀i,j4 P Γ c (St i) (g i) fun e f d=>match e with
   |.normal=>∃j E,m j<m i/\X5 f d (St j) (g j) E
   |.exit id=>Q (.exit id) f d
   |.ret=>Q .ret f d):j4 P Γ (.loop c) ts os Q:=by
 refine⟨fun a w q=>?_⟩;let I:Act->World->Prop:=fun a w=>∃i,l9 Γ (St i) (g i) a w;have v:I a w:=⟨t,G.rel (D t) q⟩;have l:∀a w,∃n,I a w->(∃i,m i=n/\l9 Γ (St i) (g i) a w)/\∀i,l9 Γ (St i) (g i) a w->n<=m i:=by
  intro a w;by_cases s:I a w
  ·obtain⟨i,J⟩:=s;obtain⟨n,⟨j,C,u⟩,H⟩:=exists_least (p:=fun n=>∃i,m i=n/\l9 Γ (St i) (g i) a w) ⟨m i,i,rfl,J⟩;exact⟨n,fun _=>⟨⟨j,C,u⟩,fun k K=>H (m k) ⟨k,rfl,K⟩⟩⟩
  ·exact⟨0,fun h=>absurd h s⟩
 refine wp_loop I (fun a w=>Classical.choose (l a w)) v fun a w s=>?_;obtain⟨⟨i,C,u⟩,_⟩:=Classical.choose_spec (l a w) s;refine wp_mono ((M i).run a w u) fun e F w' ⟨ex,f,d,A,o,b⟩=>?_
 match e,ex,A,o with
 |.normal,.normal,_,o =>
  obtain⟨j,E,L,r⟩:=o;have z:=r.rel (D j) b;refine⟨⟨j,z⟩,?_⟩;have:=(Classical.choose_spec (l F w') ⟨j,z⟩).2 j z;omega
 |.exit x,.exit y,A,o=>exact⟨.exit y,f,d,A,o,b⟩
 |.ret,.ret,_,o=>exact⟨.ret,f,d,trivial,o,b⟩
theorem j4.bH {c:Code} {ts:Ts} {os:Os} {Q:Qt} (t:Nat) {a:AV} (g:lk ts t=some a) (h:bH [a]->j4 P Γ c ts os Q):j4 P Γ c ts os Q:=by
 refine⟨fun x w f=>?_⟩;have e:=f;obtain⟨i,b,_⟩:=e;obtain⟨v,_,d⟩:=b.ts t a g;refine(h ?_).run x w f;cases d with
 |fz d=>exact(o8.cons d .nil).bH
 |_=>trivial
end
end
section
variable {P:Program} {tab:E5} {et:R7} {Γ:H9}
theorem l9.ghost {ts:Ts} {os need upd:Os} {news:List Nat} {a:Act} {w:World} (ex:Ts) (J:l9 Γ ts os a w) (e:eG need os) (p:y8 news ts=true) (q:y9 news upd os=true) (f:(news.all fun i=>(lk upd i).isSome)=true)
  (I:∀c,F7 c w need->∃c',aE c w c' w need upd news/\∀t x,lk ex t=some x->∃y,lk ts t=some y/\∀v,Rd c w v y->Rd c' w v x):l9 Γ (ex++ts) (upd++os) a w:=by
 obtain⟨c,⟨D,E,B,l,F⟩,G⟩:=J;have m:=iK e;have k:∀id∈news,(lk upd id).isSome=true:=fun id h=>by simpa using AD.1 f id h
 obtain⟨c',b,o⟩:=I c (l.sub m);obtain⟨A,C⟩:=Z6 q;refine⟨c',⟨D,E,fun t x d=>?_,l.frame m b k A,F.post l m b k A⟩,fun id r=>?_⟩
 ·rw[y7] at d;cases n:lk ex t with
  |some y =>
   rw[n] at d;simp at d;subst d;obtain⟨z,K,u⟩:=o t y n;obtain⟨v,g,j⟩:=B t z K;exact⟨v,g,u v j⟩
  |none =>
   rw[n] at d;simp at d;obtain⟨v,g,j⟩:=B t x d;exact⟨v,g,j.post b (l.sub m) (iD p t x d)⟩
 ·have s:id ∉ news:=fun H=>by have:=C id H;omega
  have g:=b.ctx id s;have j:=G id r;exact⟨g.1.trans j.1,g.2.trans j.2⟩
def lK {t0 t:Nat} {x y:AV} (h:lk [(t0,x)] t=some y):t=t0/\y=x:=by
 rw[j5] at h;split at h
 ·rename_i e;cases h;exact⟨e.symm,rfl⟩
 ·cases h
theorem l9.bV {ts:Ts} {os:Os} (t id sz e:Nat) (d:lk ts t=some .aC) (k:y8 [id] ts=true) (l:y9 [id] [(id,.row sz [] e)] os=true) {a:Act} {w:World} (u:l9 Γ ts os a w):l9 Γ ((t,.aF id)::ts) ((id,.row sz [] e)::os) a w:=by
 refine l9.ghost (need:=[]) (upd:=[(id,.row sz [] e)]) (news:=[id]) [(t,.aF id)] u trivial k l (by simp[j3]) fun c aA=>⟨c.aB id (.slice none 0 0),?_,fun E x z=>?_⟩
 ·have m:(c.aB id (.slice none 0 0)).hd id=.slice none 0 0:=by simp[Ctx.aB]
  have f:∀b,¬aI (c.aB id (.slice none 0 0)) id (.row sz [] e) b:=fun b p=>by
   have g:((c.aB id (.slice none 0 0)).hd id).ownBlock=some b:=p;rw[m] at g;cases g
  refine⟨rfl,rfl,rfl,AA _,fun _ h=>h,fun _ h=>.inl h,fun _ _ _=>rfl,fun i q=>⟨rfl,by have:i≠id:=(by simpa using q);simp[Ctx.aB,this]⟩,⟨fun i o d=>?_,fun i o b d j=>?_,fun i C o D b s d r j=>?_,aA.aX⟩,fun i o b d j=>?_⟩<;>rw[j5] at d<;>split at d<;>first|(rename_i e1;subst e1;cases d)|cases d
  ·exact⟨[],by rw[m];exact⟨.inl ⟨rfl,rfl⟩,o7,o7⟩,rfl,fun i us B h=>by simp at h⟩
  ·exact absurd j (f b)
  ·exact absurd j (f b)
  ·exact absurd j (f b)
 ·obtain⟨rfl,rfl⟩:=lK z;exact⟨_,d,fun v y=>by rw[y.ah];exact .aF (n:=0) (cap:=0) (A:=none) (by simp[Ctx.aB]) (AA _) (by simp[maxLen])⟩
theorem j4.bV {c:Code} {ts:Ts} {os:Os} {Q:Qt} (t id sz e:Nat) (f:lk ts t=some .aC) (b:y8 [id] ts=true) (d:y9 [id] [(id,.row sz [] e)] os=true) (h:j4 P Γ c ((t,.aF id)::ts) ((id,.row sz [] e)::os) Q):j4 P Γ c ts os Q :=
 ⟨fun a w g=>h.run a w (l9.bV t id sz e f b d g)⟩
theorem j4.freeze {c:Code} {ts:Ts} {os:Os} {Q:Qt} (t id:Nat) {sz e:Nat} {ls:List (List AV)} (d:lk ts t=some (.aF id)) (b:lk os id=some (.row sz ls e)) (h:j4 P Γ c ((t,.sl sz ls)::ts) ((id,.aH)::os) Q):j4 P Γ c ts os Q:=by
 refine⟨fun a w f=>h.run a w (l9.ghost (need:=[(id,.row sz ls e)]) (upd:=[(id,.aH)]) (news:=[]) [(t,.sl sz ls)] f ⟨b,trivial⟩ rfl rfl rfl fun c aA=>⟨c.fz [(id,.row sz ls e)],aE.freeze aA,fun j x i=>?_⟩)⟩;obtain⟨rfl,rfl⟩:=lK i;exact⟨_,d,fun v g=>k4 aA (j3 _ _ _) g⟩
def entry : Nat->List AV->Ts
 |_,[]=>[]
 |k,a::l=>(k,a)::entry (k+1) l
theorem pP : ∀(l:List AV) (k t:Nat) (x:AV),lk (entry k l) t=some x->k<=t/\l[t-k]?=some x
 |[],k,t,x,h=>by cases h
 |a::l,k,t,x,h=>by
  unfold entry at h;rw[j5] at h;split at h
  ·rename_i e;subst e;cases h;exact⟨AA _,o7⟩
  ·obtain⟨d,b⟩:=pP l (k+1) t x h;refine⟨d9,?_⟩;rw[show t-k=(t-(k+1))+1 by omega];simpa using b
def jz : List AV->Ts
 |[]=>[]
 |[a]=>[(0,a)]
 |[a,b]=>[(0,a),(1,b)]
 |[a,b,c]=>[(0,a),(1,b),(2,c)]
 |[a,b,c,d]=>[(0,a),(1,b),(2,c),(3,d)]
 |[a,b,c,d,e]=>[(0,a),(1,b),(2,c),(3,d),(4,e)]
 |[a,b,c,d,e,f]=>[(0,a),(1,b),(2,c),(3,d),(4,e),(5,f)]
 |[a,b,c,d,e,f,g]=>[(0,a),(1,b),(2,c),(3,d),(4,e),(5,f),(6,g)]
 |[a,b,c,d,e,f,g,h]=>[(0,a),(1,b),(2,c),(3,d),(4,e),(5,f),(6,g),(7,h)]
 |l=>entry 0 l
def rU (l:List AV):jz l=entry 0 l:=by
 unfold jz;split<;>rfl
def fl (tab:E5) (ts:Ts) (os:Os):List ResultVar->Option (List AV)
 |[]=>some []
 |.tmp t::r=>match lk ts t,fl tab ts os r with
  |some a,some l=>some (a::l)
  |_,_=>none
 |.cell t ty::r=>match lk ts t,lk tab ty,fl tab ts os r with
  |some (.ptr id off),some ti,some l=>match lk os id with
   |some (.box b _)=>match eQ ti b off with
    |some a=>some (a::l)
    |none=>none
   |_=>none
  |_,_,_=>none
def nC : List AV->AV
 |[a]=>a
 |l=>.aS l
theorem lv (o:D6 P tab) {c:Ctx} {w:World} {ts:Ts} {os:Os} {a:Act} (d:cr c w ts a) (aA:F7 c w os):∀(l:List ResultVar) (r:List AV),fl tab ts os l=some r ->
  ∃vs:List Value,(l.mapM (fun x=>match x with
     |ResultVar.tmp t=>pure (a.tmps.getD t undef)
     |ResultVar.cell D t=>do loadVar t (<-asAddr (a.tmps.getD D undef)):ResultVar->Sem Value)).run P w=.ok vs w/\l6 c w vs r
 |[],r,h=>by cases h;exact⟨[],o7,.nil⟩
 |.tmp t::l,r,h=>by
  unfold fl at h;split at h
  ·rename_i x C B f;cases h;obtain⟨vs,i,k⟩:=lv o d aA l C f;obtain⟨v,g,m⟩:=d t x B;refine⟨v::vs,?_,.cons m k⟩;have q:a.tmps.getD t undef=v:=by simp[Array.getD_eq_getD_getElem?,g]
   rw[List.mapM_cons];simp only[Sem.run_bind,Sem.run_pure,Result.andThen_ok,i,q]
  ·cases h
 |.cell t ty::l,r,h=>by
  unfold fl at h;split at h
  ·rename_i id off ti C B A f;split at h
   ·rename_i J e s;split at h
    ·rename_i x z;cases h;obtain⟨vs,i,k⟩:=lv o d aA l C f;obtain⟨v,g,m⟩:=d t _ B;obtain⟨us,E,F⟩:=aA.rep id _ s;obtain⟨y,n,G⟩:=gQ (b:=c.μ id) (p:=0) (o ty ti A) z F (fun j u I=>by
      unfold World.cell?;simp only[Nat.zero_add,E];simpa using I)
     rw[Nat.zero_add] at n;refine⟨y::vs,?_,.cons G k⟩;rw[m.bL] at g;simp only[Instr.loadAt,Instr.sureAddr,pure_bind] at n;have q:a.tmps.getD t undef=.pointer (some ⟨c.μ id,off,none⟩):=by simp[Array.getD_eq_getD_getElem?,g]
     rw[List.mapM_cons];have H:∀x:Addr,asAddr (.pointer (some x))=pure x:=fun _=>rfl;simp only[Sem.run_bind,Sem.run_pure,Result.andThen_ok,q,H,n,i]
    ·cases h
   ·cases h
  ·cases h
def kN : List Value->Value
 |[v]=>v
 |l=>.tuple l.toArray
def uG {c:Ctx} {w:World}:∀{vs:List Value} {r:List AV},l6 c w vs r->Rd c w (kN vs) (nC r)
 |_,_,.nil=>.aS .nil
 |_,_,.cons h .nil=>h
 |_,_,.cons h (.cons k t)=>.aS (.cons h (.cons k t))
def si {fn:Func} {tmps:Array Value} {w:World} {vs:List Value} (h:(fn.results.toList.mapM (fun x=>match x with
     |ResultVar.tmp t=>pure (tmps.getD t undef)
     |ResultVar.cell b t=>do loadVar t (<-asAddr (tmps.getD b undef)):ResultVar->Sem Value)).run P w=.ok vs w):(results fn tmps).run P w=.ok (kN vs) w:=by
 unfold results;rw[Array.mapM_eq_mapM_toList];simp only[Sem.run_bind,Sem.run_map,Sem.run_pure];refine Eq.trans (congrArg (fun r:Result (List Value)=>(r.andThen fun a w'=>Result.ok a.toArray w').andThen fun a w'=>Result.ok (if h:a.size=1 then a[0] else Value.tuple a) w') h) ?_;simp only[Result.andThen_ok];congr 1;cases vs with
 |nil=>rfl
 |cons v vs=>cases vs with
  |nil=>rfl
  |cons u vs=>rfl
structure Fin (tab:E5) (rs:List ResultVar) (ts:Ts) (os:Os) (av:AV) (upd:Os) (news:List Nat) (rl:List (Nat×Nat)) (r:List AV):Prop where
 res:fl tab ts os rs=some r
 out:hJ (nC r) (av.ar (rn rl))
 obj:gm (rn rl) os upd
 inj:j2 (rn rl) upd=true
 top:ju rl=true
 mem:(upd.all fun p=>news.elem p.1 || AE Go.Proofs.YtibjcppjfkamhaaDoor.top p.1)=true
 ids:(av.ids.all fun i=>(lk upd i).isSome || AE Go.Proofs.YtibjcppjfkamhaaDoor.top i)=true
 jL:(upd.all fun p=>p.2.ids.all fun i=>(lk upd i).isSome || AE Go.Proofs.YtibjcppjfkamhaaDoor.top i)=true
def lW (tab:E5) (b:List ResultVar) (av:AV) (upd:Os) (news:List Nat):Qt:=fun e ts os =>
 match e with
 |.exit _=>False
 |.normal=>∃a r,Fin tab b ts os av upd news a r
 |.ret=>∃a r,Fin tab b ts os av upd news a r
theorem Spec.of (hT:D6 P tab) {f n:Nat} {fn:Func} {c:Code} (E:P.funcs[f]?=some fn) (D:fn.body=some c) (hn:fn.ntmps=n) (hc:ax P f=true) {need upd:Os} {ins:List AV} {av:AV} {news:List Nat}
  (g:AE ins.length n=true) (G:(need.all fun p=>AE top p.1 && (lk upd p.1).isSome)=true) (H:(news.all fun i=>(lk upd i).isSome)=true)
  (h:∀Γ:H9,Γ.n=n->j4 P Γ c (jz ins) need (lW tab fn.results.toList av upd news)):Spec P f need ins av upd news:=by
 refine⟨hc,fun id F=>by simpa using AD.1 H id F,fun J w args aA m=>calls_of_wp E D ?_⟩;have hsz:args.size=ins.length:=by simpa using m.length
 have hle:=AQ g;let Γ:H9:=⟨J,w,need,n⟩;have A:l9 Γ (entry 0 ins) need { tmps:=args++Array.replicate (fn.ntmps-args.size) undef,defers:=[] } w:=by
  refine⟨J,⟨rfl,?_,fun t x C=>?_,aA,⟨rfl,rfl,rfl,AA _,fun _ h=>h,fun _ h=>.inl h,fun _ _=>rfl,fun id o b V L=>.inr ⟨id,o,V,L⟩⟩⟩,fun _ _=>⟨rfl,rfl⟩⟩
  ·show(args++Array.replicate (fn.ntmps-args.size) undef).size=n;rw[Array.size_append,Array.size_replicate,hn];omega
  ·obtain⟨_,L⟩:=pP ins 0 t x C;rw[Nat.sub_zero] at L;obtain⟨v,W,N⟩:=m.get L;refine⟨v,?_,N⟩;have M:args[t]?=some v:=by simpa using W
   have Y:t<args.size:=(Array.getElem?_eq_some_iff.1 M).1;show(args++Array.replicate (fn.ntmps-args.size) undef)[t]?=some v;rw[Array.getElem?_append_left Y,M]
 rw[<-rU] at A;refine wp_mono ((h Γ rfl).run _ w A) fun e a' w' ⟨ex,ts',os',hm,S,I⟩=>?_;have K:(∃u r,Fin tab fn.results.toList ts' os' av upd news u r)->a'.defers=[]/\∃v,(results fn a'.tmps).run P w'=.ok v w'/\∃U c',Ending.returned v=.returned U/\aE J w c' w' need upd news/\Rd c' w' U av:=by
  rintro⟨u,r,a⟩;obtain⟨y,⟨V,L,W,N,z⟩,h6⟩:=I;obtain⟨vs,g1,g2⟩:=lv hT W N fn.results.toList r a.res;have hso:=ji a.obj;have hu:=N.aW a.obj a.inj;have O:∀id o,lk upd id=some o->id∈news\/top<=id:=fun id o g=>by
   have:=AD.1 a.mem _ (K3 g);simp only[Bool.or_eq_true] at this;exact this.imp (fun h=>by simpa using h) fun h=>AQ h
  let c':Ctx:={ Φ:=y.Φ,μ:=fun i=>if(lk upd i).isSome then y.μ (rn u i) else J.μ i,hd:=fun i=>if(lk upd i).isSome then y.hd (rn u i) else J.hd i };have s:∀i,(lk upd i).isSome=true->c'.μ i=(y.b9 (rn u)).μ i/\c'.hd i=(y.b9 (rn u)).hd i:=fun i hi=>by simp[c',Ctx.b9,hi]
  have d:∀b,Γ.aF b->w.heap.size<=b\/Touch J need upd b:=fun b D=>D.imp (fun h=>h) fun⟨id,o,q1,q2⟩=>⟨id,o,q1,by
   have:=AD.1 G _ (K3 q1);simp only[A7] at this;exact this.2,q2⟩
  have k:∀l:List Nat,(l.all fun i=>(lk upd i).isSome || AE Go.Proofs.YtibjcppjfkamhaaDoor.top i)=true->∀x∈l,c'.μ x=(y.b9 (rn u)).μ x/\c'.hd x=(y.b9 (rn u)).hd x:=fun l g x C=>by
   by_cases B:(lk upd x).isSome=true
   ·exact s x B
   ·have:=AD.1 g x C;simp only[Bool.or_eq_true] at this;have ht:=AQ (this.resolve_left B);have h7:=h6 x ht;simp only[c',Af B,Ctx.b9,k5 a.top ht];exact⟨h7.1.symm,h7.2.symm⟩
  have j:∀id o b,lk upd id=some o->(aI c' id o b↔aI (y.b9 (rn u)) id o b):=fun id o b g=>iM (s id (by rw[g];rfl)) (k _ (AD.1 a.jL _ (K3 g)));refine⟨V,kN vs,?_,kN vs,c',rfl,⟨z.bQ,z.tape,z.output,z.size,z.aX,fun b D=>?_,fun b D hnt=>z.aK b fun ho=>?_,fun id F=>?_,⟨fun id o g=>?_,fun id o b g E=>?_,fun id T o o' b Z g Q E X=>?_,N.aX⟩,fun id o b g E=>?_⟩,?_⟩
  ·exact si g1
  ·exact(z.aV b D).imp (fun h=>h) (d b)
  ·rcases d b ho with h|h
   ·exact absurd D (Nat.not_lt.2 h)
   ·exact hnt h
  ·by_cases B:(lk upd id).isSome=true
   ·obtain⟨o,ho⟩:=Option.isSome_iff_exists.1 B;rcases O id o ho with C|C
    ·exact absurd C F
    ·have:=h6 id C;rw[(s id B).1,(s id B).2];simpa[Ctx.b9,k5 a.top C] using this
   ·simp[c',B]
  ·exact(hu.rep id o g).aK (s id (by rw[g];rfl)) (fun _ _=>rfl) (fun _ h=>h) (fun _ _=>rfl) (k _ (AD.1 a.jL _ (K3 g)))
  ·exact hu.lt id o b g ((j id o b g).1 E)
  ·exact hu.sep id T o o' b Z g Q ((j id o b g).1 E) ((j T o' b Q).1 X)
  ·exact d b (z.ab _ _ b (hso id o g) (U5.1 ((j id o b g).1 E)))
  ·have q:=(mU a.out (uG g2)).aW;exact Rd.mono (c:=y.b9 (rn u)) (c':=c') (fun _ _=>rfl) (fun _ h=>h) (k _ a.ids) q
 match e,ex,hm,S with
 |.normal,.normal,_,S=>exact K S
 |.ret,.ret,_,S=>exact K S
end
def waits (o:Oper) (i:Nat):Bool:=o.after.toList.any fun e=>Region.binds .any e && A4 e.on i
def ga (ops:List Oper):Nat->Oper->Nat->Bool
 |0,o,i=>waits o i
 |n+1,o,i=>waits o i || o.after.toList.any fun e=>Region.binds .any e && (match ops[e.on]? with
  |some m=>ga ops n m i
  |none=>false)
def K6 (ops:List Oper) (o:Oper) (i:Nat):Bool:=ga ops 12 o i
def ov {o:Oper} {e:_} (b:e∈o.after.toList) (a:Region.binds .any e=true):waits o e.on=true:=by
 unfold waits;exact List.any_eq_true.2 ⟨e,b,by simp[a]⟩
def oU {ops:List Oper} {o:Oper} {i:Nat} (h:waits o i=true):K6 ops o i=true:=by unfold K6 ga;rw[h];rfl
def al (ops:List Oper) (o:Oper):List Nat :=
 (o.op.operands.toList.filterMap fun|.tmp t=>some t|_=>none) ++
 (match o.guard with
  |some (g,_)=>match ops[g]? with
   |some x=>x.dst.toList
   |none=>[]
  |none=>[])
def bc (ops:List Oper) (x y:Oper):Bool :=
 (match x.dst with
  |some d=>(al ops y).elem d || (y.dst == some d)
  |none=>false) ||
 (match y.dst with
  |some d=>(al ops x).elem d
  |none=>false)
def P6 (ops:List Oper):Bool :=
 (ops.zipIdx.all fun(o,k)=>o.after.toList.all fun e=>!Region.binds .any e || AH e.on k) &&
 (ops.zipIdx.all fun(y,k)=>ops.zipIdx.all fun(x,i)=>!Nat.blt i k || !bc ops x y || waits y i) &&
 (ops.all fun o=>match o.op with|.select _ _=>false|_=>true)
structure Y3 (ops:List Oper) (σ:List Nat):Prop where
 nodup:σ.Nodup
 lt:∀i∈σ,i<ops.length
 wait:∀pre j post,σ=pre++j::post->∀o,ops[j]?=some o->∀i,waits o i=true->i∈post
theorem Y3.cons {ops:List Oper} {d:List Nat} {k:Nat} {o:Oper} (h:Y3 ops d) (f:ops[k]?=some o) (g:k ∉ d) (l:∀i,waits o i=true->i∈d):Y3 ops (k::d):=by
 refine⟨List.nodup_cons.2 ⟨g,h.nodup⟩,fun i a=>?_,fun pre j post b x e i a=>?_⟩
 ·rcases AF.1 a with rfl|a
  ·exact(AB.1 f).1
  ·exact h.lt i a
 ·cases pre with
  |nil =>
   simp at b;obtain⟨rfl,rfl⟩:=b;rw[f] at e;cases e;exact l i a
  |cons p pre =>
   simp at b;exact h.wait pre j post b.2 x e i a
theorem Y3.dx {ops:List Oper} {k:List Nat} (h:Y3 ops k):∀(n:Nat) {pre post:List Nat} {j:Nat} (b:k=pre++j::post) {o:Oper} (d:ops[j]?=some o) {i:Nat} (a:ga ops n o i=true),i∈post
 |0,pre,post,j,b,o,d,i,a=>h.wait pre j post b o d i a
 |n+1,pre,post,j,b,o,d,i,a=>by
  unfold ga at a;rw[Bool.or_eq_true] at a;rcases a with a|a
  ·exact h.wait pre j post b o d i a
  ·obtain⟨e,q,a⟩:=List.any_eq_true.1 a;simp only[A7] at a;obtain⟨l,a⟩:=a;have p:=h.wait pre j post b o d e.on (ov q l);obtain⟨r,s,g⟩:=List.append_of_mem p;split at a
   ·rename_i m f;have:=h.dx n (pre:=pre++j::r) (post:=s) (by rw[b,g];simp) f a;rw[g];simp[this]
   ·cases a
theorem Y3.cR {ops:List Oper} {a:List Nat} (h:Y3 ops a) {pre post:List Nat} {j:Nat} (b:a=pre++j::post) {o:Oper} (d:ops[j]?=some o) {i:Nat} (e:K6 ops o i=true):i∈post :=
 h.dx _ b d e
theorem Y3.qN {ops:List Oper} {f:List Nat} (h:Y3 ops f) {o:Oper} (j:∀i,waits o i=true->i∈f) {i:Nat} (a:K6 ops o i=true):i∈f:=by
 unfold K6 ga at a;rw[Bool.or_eq_true] at a;rcases a with a|a
 ·exact j i a
 ·obtain⟨e,k,a⟩:=List.any_eq_true.1 a;simp only[A7] at a;obtain⟨l,n,g⟩:=List.append_of_mem (j e.on (ov k a.1));have b:=a.2;split at b
  ·rename_i m d;have:=h.dx _ g d b;rw[g];simp[this]
  ·cases b
def down : Nat->List Nat
 |0=>[]
 |k+1=>k::down k
def ly {k i:Nat}:i∈down k↔i<k:=by
 induction k with
 |zero=>simp[down]
 |succ k ih=>simp only[down,AF,ih];omega
theorem lH {ops:List Oper} (h:P6 ops=true):∀k,k<=ops.length->Y3 ops (down k)
 |0,_=>⟨by simp[down],by simp[down],fun pre j post d=>by simp[down] at d⟩
 |k+1,m=>by
  have ih:=lH h k d9;have l:ops[k]?=some ops[k]:=A8 d9;refine ih.cons l (by rw[ly];omega) fun i g=>?_;rw[ly];unfold P6 at h;simp only[A7] at h;have f:=AD.1 h.1.1 (ops[k],k) (by rw[List.mem_zipIdx_iff_getElem?];exact l);simp only[AD] at f;unfold waits at g;obtain⟨e,d,b⟩:=List.any_eq_true.1 g;simp only[A7] at b;have a:=f e d;rw[b.1] at a;simp only[AL,Bool.false_or] at a;have:=AQ a;have:=A9 b.2;omega
theorem Y3.first {ops:List Oper} {p:List Nat} (h:Y3 ops p) (W:Nat->Bool) {k:Nat} (D:∀i,i<k->W i=true->i∈p) (A:∀i∈p,W i=true->i<k)
  (E:∀i j o,i<j->j<k->W i=true->W j=true->ops[j]?=some o->K6 ops o i=true):p.find? W=(down k).find? W:=by
 have d:∀k,(down k).find? W=none\/∃j,(down k).find? W=some j/\j<k/\W j=true/\∀i,i<k->W i=true->i<=j:=by
  intro k
  induction k with
  |zero=>exact .inl rfl
  |succ k ih =>
   simp only[down,List.find?_cons];by_cases b:W k=true
   ·rw[b];exact .inr ⟨k,rfl,d9,b,fun i q _=>d9⟩
   ·simp only[b];rcases ih with ih|⟨j,x,y,n,z⟩
    ·exact .inl ih
    ·refine .inr ⟨j,x,d9,n,fun i q l=>?_⟩;rcases Nat.lt_or_eq_of_le (Nat.le_of_lt_succ q) with h|h
     ·exact z i h l
     ·subst h;exact absurd l b
 rcases d k with C|⟨j,x,y,n,z⟩
 ·rw[C,List.find?_eq_none];intro i q b;have r:=A i q b;have:=List.find?_eq_none.1 C i (ly.2 r);exact this b
 ·rw[x];have B:=D j y n;obtain⟨pre,post,e⟩:=List.append_of_mem B;rw[e,List.find?_append];have g:pre.find? W=none:=by
   rw[List.find?_eq_none];intro m s b;have v:m∈p:=by rw[e];simp[s]
   have t:=A m v b;have F:=z m t b;have G:m≠j:=by
    rintro rfl;have a:=h.nodup;rw[e] at a;have:=(List.nodup_append.1 a).2.2 m s m o7;exact this rfl
   have f:ops[j]?=some (ops[j]'(h.lt j B)):=A8 _;have u:=h.cR e f (E m j _ d9 y b n f);have a:=h.nodup;rw[e] at a;exact(List.nodup_append.1 a).2.2 m s m (by simp[u]) rfl
  rw[g];simp[n]
structure M7 where
 av:AV
 need:Os
 upd:Os
 news:List Nat
 deriving Inhabited
section
variable (ops:List Oper) (R:Nat->M7) (ts0:Ts) (os0:Os)
def p9 : List Nat->Ts
 |[]=>ts0
 |k::σ=>match (ops[k]?).bind (·.dst) with
  |some d=>(d,(R k).av)::p9 σ
  |none=>p9 σ
def E8 : List Nat->Os
 |[]=>os0
 |k::σ=>(R k).upd++E8 σ
def ch (t:Nat) (k:Nat):Bool:=(ops[k]?).bind (·.dst) == some t
def eM (id:Nat) (k:Nat):Bool:=(lk (R k).upd id).isSome
theorem fa (t:Nat):∀a:List Nat,lk (p9 ops R ts0 a) t=match a.find? (ch ops t) with
  |some k=>some (R k).av
  |none=>lk ts0 t
 |[]=>rfl
 |k::a=>by
  rw[List.find?_cons];unfold p9;cases hd:(ops[k]?).bind (·.dst) with
  |none =>
   have:ch ops t k=false:=by unfold ch;rw[hd];rfl
   rw[this];exact fa t a
  |some d =>
   simp only;rw[j5];by_cases h:d=t
   ·subst h;have:ch ops d k=true:=by unfold ch;rw[hd];simp
    rw[this,Ag rfl]
   ·have:ch ops t k=false:=by unfold ch;rw[hd];simpa using h
    rw[this,Af h];exact fa t a
theorem ez (id:Nat):∀a:List Nat,lk (E8 R os0 a) id=match a.find? (eM R id) with
  |some k=>lk (R k).upd id
  |none=>lk os0 id
 |[]=>rfl
 |k::a=>by
  rw[List.find?_cons];unfold E8;rw[y7];cases b:lk (R k).upd id with
  |none =>
   have:eM R id k=false:=by unfold eM;rw[b];rfl
   rw[this];simpa using ez id a
  |some x =>
   have:eM R id k=true:=by unfold eM;rw[b];rfl
   rw[this];simp[b]
end
theorem pB : ∀(n:Nat) (l:List Nat),l.Nodup->(∀i∈l,i<n)->l.length<=n
 |0,l,_,h=>by
  cases l with
  |nil=>simp
  |cons a l=>exact absurd (h a o7) d9
 |n+1,l,d,h=>by
  have ih:=pB n (l.erase n) (d.erase n) fun i b=>by
   have f:=h i (List.mem_of_mem_erase b);have g:i≠n:=fun e=>by
    subst e;exact(d.not_mem_erase b).elim
   omega
  have:l.length<=(l.erase n).length+1:=by
   rw[List.length_erase];split<;>omega
  omega
def mentions (r:M7):List Nat:=r.av.ids++r.upd.flatMap fun p=>p.2.ids
def keys (os:Os):List Nat:=os.map (·.1)
def U1 {os:Os} {id:Nat} (h:(lk os id).isSome=true):id∈keys os:=by
 obtain⟨o,a⟩:=Option.isSome_iff_exists.1 h;exact AI.2 ⟨_,K3 a,rfl⟩
structure Comm (a b:M7):Prop where
 wr:∀id∈keys a.upd,id ∉ keys b.need
 ww:∀id∈keys a.upd,id ∉ keys b.upd
 nm:∀id∈a.news,id ∉ mentions b
def Rw (a b:M7):Prop:=∀id∈keys b.upd,id ∉ keys a.need
def O9 (ops:List Oper) (o:Oper) (ts:Ts) (b:Bool):Prop :=
 match o.guard with
 |none=>b=true
 |some (j,a)=>(gd ops ts j=true/\b=false)\/∃x,gg ops ts j=some x/\(x == a)=b
structure pr (P:Program) (Γ:H9) (ops:List Oper) (o:Oper) (ts:Ts) (os:Os) (r:M7):Prop where
 guard:O9 ops o ts true
 nK:hY P o (Y5 ts) r.av r.need r.upd r.news
 need:∀id ob,lk r.need id=some ob->lk os id=some ob
 news:∀id∈r.news,(lk r.upd id).isSome=true
 nE:y8 r.news ts=true
 hF:y9 r.news r.upd os=true
structure nu (ops:List Oper) (o:Oper) (ts:Ts) (r:M7):Prop where
 guard:O9 ops o ts false
 eq:r=⟨.aS [],[],[],[]⟩
theorem O9.run {c:Ctx} {w:World} {ops:List Oper} {o:Oper} {ts:Ts} {a:Act} {b:Bool} (h:cr c w ts a) (e:O9 ops o ts b):Region.wanted o (yielded ops.toArray a.tmps)=b:=by
 unfold O9 at e;unfold Region.wanted;split at e
 ·rename_i g;rw[g,e]
 ·rename_i j d g;rw[g];rcases e with⟨f,rfl⟩|⟨x,f,i⟩
  ·have:=kv h f;simp only[this];rfl
  have:=kx h f;simp only[this];rw[<-i];cases x<;>cases d<;>rfl
structure fF (P:Program) (ops:List Oper) (R:Nat->M7) (ts0:Ts) (os0:Os) (i k:Nat):Prop where
 upd:(R i).upd=[]
 news:(R i).news=[]
 qP:∀j,i<j->j<k->∀id∈keys (R j).upd,id ∉ keys (R i).need
 nK:∃o need',ops[i]?=some o/\hY P o (Y5 (p9 ops R ts0 (down i))) (R i).av need' [] []/\(∀id ob,lk need' id=some ob->lk (E8 R os0 (down (k+1))) id=some ob)/\∀id∈keys need',id∈keys (R i).need
section
variable {P:Program} {Γ:H9} {ops:List Oper} {R:Nat->M7} {ts0:Ts} {os0:Os}
structure Lex (P:Program) (Γ:H9) (ops:List Oper) (R:Nat->M7) (ts0:Ts) (os0:Os) (n:Nat):Prop where
 fH:∀k o,k<n->ops[k]?=some o->pr P Γ ops o (p9 ops R ts0 (down k)) (E8 R os0 (down k)) (R k)\/nu ops o (p9 ops R ts0 (down k)) (R k)
 dst:∀k o,k<n->ops[k]?=some o->ck Γ.n o.dst=true
 comm:∀i k o,i<k->k<n->ops[k]?=some o->K6 ops o i=false->Comm (R i) (R k)/\(Rw (R i) (R k)\/fF P ops R ts0 os0 i k)
def ja (hd:P6 ops=true) {i k:Nat} {x y:Oper} (f:ops[i]?=some x) (g:ops[k]?=some y) (b:i<k) (e:bc ops x y=true):waits y i=true:=by
 unfold P6 at hd;simp only[A7] at hd;have d:=AD.1 hd.1.2 (y,k) (by rw[List.mem_zipIdx_iff_getElem?];exact g);have a:=AD.1 d (x,i) (by rw[List.mem_zipIdx_iff_getElem?];exact f);simp only[e,AL,Bool.or_false,Bool.or_eq_true,Bool.not_eq_true'] at a;rcases a with a|a
 ·have:AH i k=true:=Nat.ble_eq_true_of_le b;rw[this] at a;cases a
 ·exact a
def oO (hd:P6 ops=true) {m:List Nat} (l:Y3 ops m) {k:Nat} {o:Oper} (A:ops[k]?=some o) (v:k ∉ m) (F:∀i,waits o i=true->i∈m) {t:Nat} (B:t∈al ops o) :
  lk (p9 ops R ts0 m) t=lk (p9 ops R ts0 (down k)) t:=by
 have f:∀i,ch ops t i=true->∃x,ops[i]?=some x/\x.dst=some t:=fun i b=>by
  unfold ch at b;cases d:ops[i]? with
  |none=>rw[d] at b;simp at b
  |some x=>rw[d] at b;exact⟨x,rfl,by simpa using b⟩
 have D:=l.first (ch ops t) (k:=k) (fun i b a=>by
   obtain⟨x,d,g⟩:=f i a;exact F i (ja hd d A b (by unfold bc;rw[g];simp[B]))) (fun i b a=>by
   obtain⟨x,d,g⟩:=f i a;rcases Nat.lt_or_ge i k with h|h
   ·exact h
   ·have E:i≠k:=fun e=>v (e▸b);have q:=ja hd A d d9 (by
     unfold bc;rw[g];cases o.dst<;>simp[B])
    obtain⟨pre,post,u⟩:=List.append_of_mem b;have:=l.wait pre i post u x d k q;exact absurd (by rw[u];simp[this]) v) (fun i j x n H a p d=>by
   obtain⟨y,G,r⟩:=f i a;obtain⟨z,C,s⟩:=f j p;rw[d] at C;cases C;exact oU (ja hd G d n (by unfold bc;rw[r,s];simp)))
 rw[fa,fa,D]
def re {n:Nat} (u:Lex P Γ ops R ts0 os0 ops.length) {l:List Nat} (d:Y3 ops l) {k:Nat} {o:Oper} (z:ops[k]?=some o) (y:k ∉ l) (C:∀i,waits o i=true->i∈l) {id:Nat} (g:id∈keys (R k).need) (r:∀j∈l,k<j->Rw (R k) (R j)) :
  lk (E8 R os0 l) id=lk (E8 R os0 (down k)) id:=by
 have q:k<ops.length:=(AB.1 z).1;have A:=d.first (eM R id) (k:=k) (fun i f b=>by
   cases a:K6 ops o i with
   |true=>exact d.qN C a
   |false=>exact absurd g ((u.comm i k o f q z a).1.wr id (U1 b))) (fun i f b=>by
   rcases Nat.lt_or_ge i k with h|h
   ·exact h
   ·have B:i≠k:=fun e=>y (e▸f);have p:=d.lt i f;have t:ops[i]?=some ops[i]:=A8 p;cases a:K6 ops ops[i] k with
    |true =>
     obtain⟨pre,post,v⟩:=List.append_of_mem f;have:=d.cR v t a;exact absurd (by rw[v];simp[this]) y
    |false=>exact absurd g (r i f d9 id (U1 b))) (fun i j x m D b s t=>by
   cases a:K6 ops x i with
   |true=>rfl
   |false=>exact absurd (U1 s) ((u.comm i j x m d9 t a).1.ww id (U1 b)))
 rw[ez,ez,A]
def tY (p:Lex P Γ ops R ts0 os0 ops.length) {g:List Nat} (e:Y3 ops g) {k:Nat} {o:Oper} (A:ops[k]?=some o) (D:k ∉ g) (F:∀i,waits o i=true->i∈g) {m:Nat} (z:m∈g) (t:k<m) (hS:fF P ops R ts0 os0 k m) (B:¬Rw (R k) (R m)) {id:Nat} (d:id∈keys (R k).need) :
  lk (E8 R os0 g) id=lk (E8 R os0 (down (m+1))) id:=by
 have s:k<ops.length:=(AB.1 A).1;have E:=e.lt m z;have C:=e.first (eM R id) (k:=m+1) (fun i q a=>by
   rcases Nat.lt_trichotomy i k with h|h|h
   ·cases b:K6 ops o i with
    |true=>exact e.qN F b
    |false=>exact absurd d ((p.comm i k o h s A b).1.wr id (U1 a))
   ·subst h;unfold eM at a;rw[hS.upd] at a;cases a
   ·rcases Nat.lt_or_ge i m with v|v
    ·exact absurd d (hS.qP i h v id (U1 a))
    ·have:i=m:=d9;subst this;exact z) (fun i q a=>by
   rcases Nat.lt_or_ge i (m+1) with h|h
   ·exact h
   ·have f:=e.lt i q;have l:ops[i]?=some ops[i]:=A8 f;cases b:K6 ops ops[i] k with
    |true =>
     obtain⟨pre,post,y⟩:=List.append_of_mem q;have:=e.cR y l b;exact absurd (by rw[y];simp[this]) D
    |false =>
     rcases(p.comm k i _ d9 f l b).2 with n|n
     ·exact absurd d (n id (U1 a))
     ·exact absurd (fun id d=>n.qP m t d9 id d) B) (fun i j x r G a u l=>by
   cases b:K6 ops x i with
   |true=>rfl
   |false=>exact absurd (U1 u) ((p.comm i j x r d9 l b).1.ww id (U1 a)))
 rw[ez,ez,C]
def tD (hd:P6 ops=true) (u:Lex P Γ ops R ts0 os0 ops.length) {m:List Nat} (b:Y3 ops m) (d:∀i,i<ops.length->i∈m) :
  (∀t,lk (p9 ops R ts0 m) t=lk (p9 ops R ts0 (down ops.length)) t)/\∀id,lk (E8 R os0 m) id=lk (E8 R os0 (down ops.length)) id:=by
 refine⟨fun t=>?_,fun id=>?_⟩
 ·have l:∀i,ch ops t i=true->∃x,ops[i]?=some x/\x.dst=some t:=fun i a=>by
   unfold ch at a;cases h:ops[i]? with
   |none=>rw[h] at a;simp at a
   |some x=>rw[h] at a;exact⟨x,rfl,by simpa using a⟩
  have n:=b.first (ch ops t) (k:=ops.length) (fun i a _=>d i a) (fun i a _=>b.lt i a) (fun i j x e r f g h=>by
   obtain⟨y,v,p⟩:=l i f;obtain⟨z,s,q⟩:=l j g;rw[h] at s;cases s;exact oU (ja hd v h e (by unfold bc;rw[p,q];simp)))
  rw[fa,fa,n]
 ·have n:=b.first (eM R id) (k:=ops.length) (fun i a _=>d i a) (fun i a _=>b.lt i a) (fun i j x e r f g h=>by
   cases o:K6 ops x i with
   |true=>rfl
   |false=>exact absurd (U1 g) ((u.comm i j x e r h o).1.ww id (U1 f)))
  rw[ez,ez,n]
theorem l9.congr {ts g:Ts} {os f:Os} {a:Act} {w:World} (h:l9 Γ ts os a w) (q:∀t,lk g t=lk ts t) (i:∀id,lk f id=lk os id):l9 Γ g f a w:=by
 obtain⟨c,⟨j,k,l,m,d⟩,n⟩:=h;exact⟨c,⟨j,k,fun t x e=>l t x (by rw[<-q];exact e),m.sub fun id o e=>by rw[<-i];exact e,⟨d.bQ,d.tape,d.output,d.size,d.aX,d.aV,d.aK,fun id o b e p=>d.ab id o b (by rw[<-i];exact e) p⟩⟩,n⟩
end
structure V where
 k:Int
 n:Int
 deriving DecidableEq,Inhabited
structure Ln where
 cls:Int
 found:Int
 deriving DecidableEq,Inhabited
structure St where
 cls:Int
 name:ByteArray
 pos:Int
 deriving DecidableEq,Inhabited
structure Ins where
 op:Int
 a:Int
 b:Int
 c:Int
 name:ByteArray
 deriving DecidableEq,Inhabited
structure Me where
 name:ByteArray
 args:Int
 aL:Int
 aQ:Int
 code:List Ins
 deriving DecidableEq,Inhabited
structure Cl where
 name:ByteArray
 aJ:Int
 aD:Int
 a8:List Me
 deriving DecidableEq,Inhabited
structure Ob where
 cls:Int
 aD:List V
 deriving DecidableEq,Inhabited
structure Wd where
 a7:List Cl
 heap:List Ob
 aR:Int
 deriving DecidableEq,Inhabited
def bg (n:Int):List AV:=[.int n]
def gr (s:ByteArray):List AV:=[.str s]
def eV (v:V):List AV:=[.int v.k,.int v.n]
def qI (x:Ln):List AV:=[.int x.cls,.int x.found]
def qJ (s:St):List AV:=[.int s.cls,.str s.name,.int s.pos]
def dU (i:Ins):List AV:=[.int i.op,.int i.a,.int i.b,.int i.c,.str i.name]
def U8 (m:Me):List AV:=[.str m.name,.int m.args,.int m.aL,.int m.aQ,.sl 5 (m.code.map dU)]
def ft (c:Cl):List AV:=[.str c.name,.int c.aJ,.int c.aD,.sl 5 (c.a8.map U8)]
def jD (o:Ob):List AV:=[.int o.cls,.sl 2 (o.aD.map eV)]
def cE (w:Wd):List AV:=[.sl 4 (w.a7.map ft),.sl 2 (w.heap.map jD),.int w.aR]
section
variable {P:Program} {Γ:H9} {ops:List Oper} {R:Nat->M7} {ts0:Ts} {os0:Os}
def r9 {o:Oper} {i:Nat}:waits o i=true↔∃e∈o.after,Region.binds .any e=true/\e.on=i:=by
 unfold waits;rw[List.any_eq_true];constructor
 ·rintro⟨e,b,a⟩;simp only[A7] at a;exact⟨e,by simpa using b,a.1,A9 a.2⟩
 ·rintro⟨e,b,a,rfl⟩;exact⟨e,by simpa using b,by simp[a]⟩
def ng (hd:P6 ops=true) {g:List Nat} (m:Y3 ops g) {k:Nat} {o:Oper} (r:ops[k]?=some o) (q:k ∉ g) (u:∀i,waits o i=true->i∈g) {b:Bool} (h:O9 ops o (p9 ops R ts0 (down k)) b):O9 ops o (p9 ops R ts0 g) b:=by
 have e:∀t∈al ops o,lk (p9 ops R ts0 g) t=lk (p9 ops R ts0 (down k)) t:=fun t s=>oO hd m r q u s;unfold O9 at h⊢;split at h
 ·exact h
 ·rename_i j p n;rcases h with⟨c,l⟩|⟨x,c,l⟩
  ·refine .inl ⟨?_,l⟩;unfold gd at c⊢;cases f:ops[j]? with
   |none=>rw[f] at c;cases c
   |some y =>
    rw[f] at c;simp only at c⊢;cases a:y.dst with
    |none=>rw[a] at c;cases c
    |some d =>
     rw[a] at c;simp only at c⊢;rw[e d (by unfold al;rw[n];simp[f,a])];exact c
  refine .inr ⟨x,?_,l⟩;unfold gg at c⊢;cases f:ops[j]? with
  |none=>rw[f] at c;cases c
  |some y =>
   rw[f] at c;simp only at c⊢;cases a:y.dst with
   |none=>rw[a] at c;cases c
   |some d =>
    rw[a] at c;simp only at c⊢;rw[e d (by unfold al;rw[n];simp[f,a])];exact c
def tb (hd:P6 ops=true) (X:Lex P Γ ops R ts0 os0 ops.length) {q:List Nat} (l:Y3 ops q) {k:Nat} {o:Oper} (B:ops[k]?=some o) (L:k ∉ q) (hw:∀i,waits o i=true->i∈q) {a:Act} {w:World}
  (hr:l9 Γ (p9 ops R ts0 q) (E8 R os0 q) a w) {K:Act->World->Prop} {Q:Exit->Act->World->Prop} (hK:∀a' w',l9 Γ (p9 ops R ts0 (k::q)) (E8 R os0 (k::q)) a' w'->K a' w'):wpOp P ops.toArray Q k K a w:=by
 have hkl:k<ops.length:=(AB.1 B).1;have J:=X.dst k o hkl B;obtain⟨c,b⟩:=hr;have G:=b.rel.ts;unfold wpOp;have ho':ops.toArray[k]?=some o:=by simpa using B
 simp only[ho'];have ets:∀v,l9 Γ (V6 o.dst (R k).av (p9 ops R ts0 q)) ((R k).upd++E8 R os0 q) (a.put o.dst v) w->True:=fun _ _=>trivial;have tsc:p9 ops R ts0 (k::q)=V6 o.dst (R k).av (p9 ops R ts0 q):=by
  rw[p9,B];cases N:o.dst<;>simp[V6,N]
 rcases X.fH k o hkl B with D|S
 ·rw[(ng hd l B L hw D.guard).run G,Ag rfl];left;have hev:∀x∈o.op.operands.toList,Rd c w (a.eval x) (Y5 (p9 ops R ts0 (down k)) x):=fun x M=>by
   have e:Y5 (p9 ops R ts0 (down k)) x=Y5 (p9 ops R ts0 q) x:=by
    cases x with
    |tmp t =>
     unfold Y5;simp only;rw[oO hd l B L hw (by unfold al;rw[AS];left;rw[List.mem_filterMap];exact⟨.tmp t,M,rfl⟩)]
    |_=>rfl
   rw[e];exact gZ G x
  have F:∃f,hY P o (Y5 (p9 ops R ts0 (down k))) (R k).av f (R k).upd (R k).news/\∀id ob,lk f id=some ob->lk (E8 R os0 q) id=some ob:=by
   by_cases A:∀j∈q,k<j->Rw (R k) (R j)
   ·refine⟨(R k).need,D.nK,fun id ob h=>?_⟩;rw[re (n:=0) X l B L hw (U1 (by rw[h];rfl)) A];exact D.need id ob h
   ·simp only[Classical.not_forall] at A;obtain⟨m,z,hkm,hN⟩:=A;have hml:=l.lt m z;have hmo:ops[m]?=some ops[m]:=A8 hml;have hS:fF P ops R ts0 os0 k m:=by
     cases E:K6 ops ops[m] k with
     |true =>
      obtain⟨pre,post,O⟩:=List.append_of_mem z;have:=l.cR O hmo E;exact absurd (by rw[O];simp[this]) L
     |false=>exact(X.comm k m _ hkm hml hmo E).2.resolve_left hN
    obtain⟨o',f,ho2,ht,hn,hsub⟩:=hS.nK;rw[B] at ho2;cases ho2;refine⟨f,by rw[hS.upd,hS.news];exact ht,fun id ob h=>?_⟩;rw[tY X l B L hw z hkm hS hN (hsub _ (U1 (by rw[h];rfl)))];exact hn id ob h
  obtain⟨f,tri',g⟩:=F;have later:∀j∈q,¬j<k->∀x∈(R k).news,x ∉ mentions (R j):=fun j T y x M=>by
   have hne:j≠k:=fun e=>L (e▸T);have Z:=l.lt j T;have hjo:ops[j]?=some ops[j]:=A8 Z;cases E:K6 ops ops[j] k with
   |true =>
    obtain⟨pre,post,O⟩:=List.append_of_mem T;have:=l.cR O hjo E;exact absurd (by rw[O];simp[this]) L
   |false=>exact(X.comm k j _ d9 Z hjo E).1.nm x M
  have memd:∀j,j<k->∀p:Nat×AV,True:=fun _ _ _=>trivial;have V:∀j,j<k->(∃d,(ops[j]?).bind (·.dst)=some d/\(d,(R j).av)∈p9 ops R ts0 (down k))\/(ops[j]?).bind (·.dst)=none:=by
   have:∀n j,j<n->(∃d,(ops[j]?).bind (·.dst)=some d/\(d,(R j).av)∈p9 ops R ts0 (down n))\/(ops[j]?).bind (·.dst)=none:=by
    intro n
    induction n with
    |zero=>intro j h;omega
    |succ n ih =>
     intro j h;rcases Nat.lt_or_eq_of_le (Nat.le_of_lt_succ h) with h|h
     ·rcases ih j h with⟨d,W,Y⟩|W
      ·refine .inl ⟨d,W,?_⟩;simp only[down,p9];split
       ·exact List.mem_cons_of_mem _ Y
       ·exact Y
      ·exact .inr W
     ·subst h;cases N:(ops[j]?).bind (·.dst) with
      |none=>exact .inr rfl
      |some d=>refine .inl ⟨d,rfl,?_⟩;simp only[down,p9,N];simp
   exact fun j h=>this k j h
  have I:∀p∈ts0,p∈p9 ops R ts0 (down k):=by
   have:∀n,∀p∈ts0,p∈p9 ops R ts0 (down n):=by
    intro n
    induction n with
    |zero=>exact fun p h=>h
    |succ n ih =>
     intro p h;simp only[down,p9];split
     ·exact List.mem_cons_of_mem _ (ih p h)
     ·exact ih p h
   exact this k
  have U:∀j,j<k->∀p∈(R j).upd,p∈E8 R os0 (down k):=by
   have:∀n j,j<n->∀p∈(R j).upd,p∈E8 R os0 (down n):=by
    intro n
    induction n with
    |zero=>intro j h;omega
    |succ n ih =>
     intro j h p C;simp only[down,E8];rcases Nat.lt_or_eq_of_le (Nat.le_of_lt_succ h) with h|h
     ·exact List.mem_append_right _ (ih j h p C)
     ·subst h;exact List.mem_append_left _ C
   exact fun j h=>this k j h
  have H:∀p∈os0,p∈E8 R os0 (down k):=by
   have:∀n,∀p∈os0,p∈E8 R os0 (down n):=by
    intro n
    induction n with
    |zero=>exact fun p h=>h
    |succ n ih=>intro p h;simp only[down,E8];exact List.mem_append_right _ (ih p h)
   exact this k
  have nE:∀t x,lk (p9 ops R ts0 q) t=some x->∀id∈(R k).news,id ∉ x.ids:=by
   intro t x s id u;have key:∀p∈p9 ops R ts0 (down k),id ∉ p.2.ids:=fun p C=>by
    have r:=D.nE;unfold y8 at r;split at r
    ·rename_i e;rw[e] at u;cases u
    ·exact gP (AD.1 r p C) id u
   rw[fa] at s;cases r:q.find? (ch ops t) with
   |none=>rw[r] at s;exact key _ (I _ (K3 s))
   |some j =>
    rw[r] at s;simp only[Option.some.injEq] at s;subst s;have T:=List.mem_of_find?_eq_some r;by_cases y:j<k
    ·rcases V j y with⟨d,_,z⟩|hnn
     ·exact key _ z
     ·have:=List.find?_some r;unfold ch at this;rw[hnn] at this;simp at this
    ·intro z;exact later j T y id u (by unfold mentions;simp[z])
  have hF:(∀id ob,lk (E8 R os0 q) id=some ob->lk (R k).upd id=none->∀x∈(R k).news,x ∉ ob.ids)/\∀x∈(R k).news,x<top:=by
   refine⟨fun id ob s hu x M z=>?_,(Z6 D.hF).2⟩;have key:∀p∈E8 R os0 (down k),p.1=id->x ∉ p.2.ids:=fun p C O=>by
    have r:=D.hF;unfold y9 at r;split at r
    ·rename_i e;rw[e] at M;cases M
    ·simp only[A7] at r;have:=AD.1 r.2 p C;rw[O,hu] at this;simp only[Option.isSome_none,Bool.false_or] at this;exact gP this x M
   rw[ez] at s;cases r:q.find? (eM R id) with
   |none=>rw[r] at s;exact key _ (H _ (K3 s)) rfl z
   |some j =>
    rw[r] at s;simp only at s;have T:=List.mem_of_find?_eq_some r;by_cases y:j<k
    ·exact key _ (U j y _ (K3 s)) rfl z
    ·refine later j T y x M ?_;unfold mentions;rw[AS];right;rw[List.mem_flatMap];exact⟨_,K3 s,z⟩
  have hgo:=tri' c w a.eval (b.rel.aA.sub g) hev;unfold Oper.wp;refine hgo.upon fun v w' ⟨c',C,hv⟩=>hK _ _ ⟨c',?_,?_⟩
  ·have hn:=b.rel.n;refine⟨by rw[put_defers];exact b.rel.defers,by rw[iP];exact hn,?_,?_,?_⟩
   ·rw[tsc];exact G.put (b.rel.aA.sub g) C nE hv (by rw[hn];exact J)
   ·exact b.rel.aA.frame g C D.news hF.1
   ·exact b.rel.inv.post b.rel.aA g C D.news hF.1
  ·intro id u;have hno:id ∉ (R k).news:=fun z=>by have:=hF.2 id z;omega
   have W:=C.ctx id hno;have Y:=b.same id u;exact⟨W.1.trans Y.1,W.2.trans Y.2⟩
 ·rw[(ng hd l B L hw S.guard).run G,Af o7];have hs:=iS (o:=o) ⟨c,b⟩ J;refine hK _ _ ?_;rw[tsc,E8,S.eq];exact hs
def om (hd:P6 ops=true) (N:Lex P Γ ops R ts0 os0 ops.length) {Q:Exit->Act->World->Prop} (V:∀a w,l9 Γ (p9 ops R ts0 (down ops.length)) (E8 R os0 (down ops.length)) a w->Q .normal a w) :
  ∀(fuel:Nat) (b:Array Bool) (c:List Nat) (a:Act) (w:World),Y3 ops c->(∀i,i<ops.length->(b.getD i true=true↔i∈c))->b.size=ops.length->c.length+fuel=ops.length ->
   l9 Γ (p9 ops R ts0 c) (E8 R os0 c) a w->wpAny P .any ops.toArray Q fuel b a w:=by
 have x:∀(b:Array Bool) (c:List Nat),Y3 ops c->(∀i,i<ops.length->(b.getD i true=true↔i∈c))->b.size=ops.length->Region.ready .any ops.toArray b=[]->∀i,i<ops.length->i∈c:=by
  intro b c d m E q i
  induction i using Nat.strongRecOn with
  |_ i ih =>
   intro g;cases C:b.getD i true with
   |true=>exact(m i g).1 C
   |false =>
    exfalso;have O:i∈Region.ready .any ops.toArray b:=by
     rw[mem_ready];refine⟨C,ops[i],by simp[g],fun e H r=>?_⟩;have n:=hd;unfold P6 at n;simp only[A7] at n;have B:=AD.1 n.1.1 (ops[i],i) (by rw[List.mem_zipIdx_iff_getElem?];exact A8 g);simp only[AD] at B;have G:=B e (by simpa using H);rw[r] at G;simp only[AL,Bool.false_or] at G;have J:e.on<i:=AQ G;have M:=(m e.on d9).2 (ih e.on J d9);have v:e.on<b.size:=d9;simp only[Array.getD_eq_getD_getElem?,Array.getElem?_eq_getElem v,Option.getD_some] at M⊢;exact M
    rw[q] at O;cases O
 have y:∀(c:List Nat) (a:Act) (w:World),Y3 ops c->(∀i,i<ops.length->i∈c)->l9 Γ (p9 ops R ts0 c) (E8 R os0 c) a w->Q .normal a w:=fun c a w d f q=>by
  obtain⟨e1,U⟩:=tD hd N d f;exact V a w (q.congr (fun t=>(e1 t).symm) fun id=>(U id).symm)
 intro fuel
 induction fuel with
 |zero =>
  intro b c a w d m E z q;have f:∀i,i<ops.length->i∈c:=fun i g=>Classical.byContradiction fun W=>by
   have:=pB ops.length (i::c) (List.nodup_cons.2 ⟨W,d.nodup⟩) fun j u=>by
    rcases AF.1 u with rfl|u
    ·exact g
    ·exact d.lt j u
   simp at this;omega
  refine⟨?_,y c a w d f q⟩;apply List.eq_nil_iff_forall_not_mem.2;intro i g;rw[mem_ready] at g;obtain⟨F,o,D,_⟩:=g;have l:i<ops.length:=by
   have:=(Array.getElem?_eq_some_iff.1 D).1;simpa using this
  have:=(m i l).2 (f i l);rw[F] at this;cases this
 |succ fuel ih =>
  intro b c a w d m E z q;refine⟨fun L=>y c a w d (x b c d m E L) q,fun i g=>?_⟩;rw[mem_ready] at g;obtain⟨F,o,D,k⟩:=g;have l:i<ops.length:=by
   have:=(Array.getElem?_eq_some_iff.1 D).1;simpa using this
  have A:ops[i]?=some o:=by simpa using D
  have p:i ∉ c:=fun h=>by
   have:=(m i l).2 h;rw[F] at this;cases this
  have S:∀j,waits o j=true->j∈c:=fun j u=>by
   obtain⟨e,H,C,rfl⟩:=r9.1 u;have n:=k e H C;have v:e.on<b.size:=Classical.byContradiction fun I=>by
    simp only[Array.getD_eq_getD_getElem?,Array.getElem?_eq_none (Nat.le_of_not_lt I),Option.getD_none] at n;cases n
   have B:b.getD e.on true=true:=by
    simp only[Array.getD_eq_getD_getElem?,Array.getElem?_eq_getElem v,Option.getD_some] at n⊢;exact n
   exact(m e.on d9).1 B
  refine tb hd N d A p S q fun T w' K=>ih _ (i::c) T w' (d.cons A p S) (fun j u=>?_) (by simpa using E) dI K;by_cases s:i=j
  ·subst s;have:i<b.size:=d9;simp[this]
  ·rw[getD_set_ne true s];rw[m j u,AF];exact⟨.inr,fun h=>h.resolve_left fun e=>s e.symm⟩
end
def eJ (a b:List Nat):Bool:=a.all fun x=>!(b.elem x)
def eO {a b:List Nat} (h:eJ a b=true):∀x∈a,x ∉ b:=fun x d c=>by
 have:=AD.1 h x d;simp at this;exact this c
structure ct where
 k:Nat
 need:List Nat
 writes:List Nat
 news:List Nat
def kD (ops:List Oper) (o:Oper) (a:List ct) (rd:List Nat) (b:Os) (av:AV):Bool :=
 a.all fun r=>(eJ r.writes rd && eJ r.writes (keys b) && eJ (keys b) r.need && eJ r.news (av.ids++b.flatMap fun p=>p.2.ids)) || K6 ops o r.k
def dd (k:Nat) (rd c:List Nat) (b:Os) (a:List ct):List ct :=
 match rd,b with
 |[],[]=>a
 |_,_=>⟨k,rd,keys b,c⟩::a
def dV (P:Program) (tab:E5) (et:R7) (n:Nat) (ops:List Oper):Nat->List Oper->Ts->Os->List ct->(Ts->Os->Prop)->Prop
 |_,[],ts,os,_,K=>K ts os
 |k,o::rest,ts,os,log,K=>match o.dst with
  |some d=>match AH d n with
   |true=>eA ops o ts
    (dZ P tab et d o.op (Y5 ts) os fun av rd b a=>match y8 b ts && y9 b a os && kD ops o log rd a av with
     |true=>force av fun av=>dS a os fun os=>dV P tab et n ops (k+1) rest ((d,av)::ts) os (dd k rd b a log) K
     |false=>False)
    (dV P tab et n ops (k+1) rest ((d,.aS [])::ts) os log K)
   |false=>False
  |none=>eA ops o ts
   (dZ P tab et 0 o.op (Y5 ts) os fun av rd b a=>match y8 b ts && y9 b a os && kD ops o log rd a av with
    |true=>dS a os fun os=>dV P tab et n ops (k+1) rest ts os (dd k rd b a log) K
    |false=>False)
   (dV P tab et n ops (k+1) rest ts os log K)
section
variable {P:Program} {tab:E5} {et:R7} {Γ:H9} {ops:List Oper} {ts0:Ts} {os0:Os}
def jl {o:Oper} {ts:Ts} {X Y:Prop} (h:eA ops o ts X Y):(O9 ops o ts true/\X)\/(O9 ops o ts false/\Y):=by
 unfold eA at h;unfold O9;cases e:o.guard with
 |none=>rw[e] at h;exact .inl ⟨rfl,h⟩
 |some p =>
  obtain⟨j,c⟩:=p;rw[e] at h;cases c with
  |true =>
   simp only at h⊢;split at h
   ·rename_i d;exact .inr ⟨.inl (by simp[d]),h⟩
   split at h
   ·rename_i b a;cases b
    ·exact .inr ⟨.inr ⟨false,a,rfl⟩,h⟩
    ·exact .inl ⟨.inr ⟨true,a,rfl⟩,h⟩
   ·exact h.elim
  |false =>
   simp only at h⊢;split at h
   ·rename_i d;exact .inr ⟨.inl (by simp[d]),h⟩
   split at h
   ·rename_i b a;cases b
    ·exact .inl ⟨.inr ⟨false,a,rfl⟩,h⟩
    ·exact .inr ⟨.inr ⟨true,a,rfl⟩,h⟩
   ·exact h.elim
def q8 (R:Nat->M7) (k:Nat) (r:M7):Nat->M7:=fun i=>if i=k then r else R i
theorem e7 (R:Nat->M7) (k:Nat) (r:M7):∀n,n<=k->p9 ops (q8 R k r) ts0 (down n)=p9 ops R ts0 (down n)
 |0,_=>rfl
 |n+1,h=>by
  have e:q8 R k r n=R n:=by unfold q8;rw[Af d9]
  simp only[down,p9,e7 R k r n d9,e]
theorem fY (R:Nat->M7) (k:Nat) (r:M7):∀n,n<=k->E8 (q8 R k r) os0 (down n)=E8 R os0 (down n)
 |0,_=>rfl
 |n+1,h=>by
  have e:q8 R k r n=R n:=by unfold q8;rw[Af d9]
  simp only[down,E8,fY R k r n d9,e]
def fA (R:Nat->M7) (k:Nat) (a:List ct):Prop:=∀i,i<k->((R i).need=[]/\(R i).upd=[]/\(R i).news=[])\/∃r∈a,r.k=i/\r.need=keys (R i).need/\r.writes=keys (R i).upd/\r.news=(R i).news
theorem Comm.aa {a b:M7} (h:a.need=[]/\a.upd=[]/\a.news=[]):Comm a b:=by
 obtain⟨f,d,e⟩:=h;refine⟨fun id c=>?_,fun id c=>?_,fun id c=>?_⟩
 ·rw[d] at c;cases c
 ·rw[d] at c;cases c
 ·rw[e] at c;cases c
theorem Rw.aa {a b:M7} (h:a.need=[]):Rw a b:=fun id _ c=>by rw[h] at c;cases c
theorem fF.set {P:Program} {R:Nat->M7} {i k j:Nat} {r:M7} (q:i<k) (s:k<j) (h:fF P ops R ts0 os0 i k):fF P ops (q8 R j r) ts0 os0 i k:=by
 have b:∀i,i≠j->q8 R j r i=R i:=fun i h=>by unfold q8;rw[Af h]
 obtain⟨d,e,f,o,a,g,l,n,p⟩:=h;refine⟨by rw[b i d9];exact d,by rw[b i d9];exact e,fun m t c=>by rw[b m d9,b i d9];exact f m t c,o,a,g,?_,?_,by rw[b i d9];exact p⟩
 ·rw[e7 R j r i d9,b i d9];exact l
 ·rw[fY R j r (k+1) d9];exact n
theorem Lex.step {R:Nat->M7} {k:Nat} {o:Oper} {r:M7} (e:Lex P Γ ops R ts0 os0 k) (f:ops[k]?=some o)
  (hd:pr P Γ ops o (p9 ops R ts0 (down k)) (E8 R os0 (down k)) r\/nu ops o (p9 ops R ts0 (down k)) r) (c:ck Γ.n o.dst=true) (s:∀i,i<k->K6 ops o i=false->Comm (R i) r/\(Rw (R i) r\/fF P ops (q8 R k r) ts0 os0 i k)):Lex P Γ ops (q8 R k r) ts0 os0 (k+1):=by
 have d:∀i,i≠k->q8 R k r i=R i:=fun i h=>by unfold q8;rw[Af h]
 have g:q8 R k r k=r:=by unfold q8;rw[Ag rfl]
 refine⟨fun j x l a=>?_,fun j x l a=>?_,fun i j x b l a m=>?_⟩
 ·rw[e7 R k r j d9,fY R k r j d9];by_cases h:j=k
  ·subst h;rw[f] at a;cases a;rw[g];exact hd
  ·rw[d j h];exact e.fH j x d9 a
 ·by_cases h:j=k
  ·subst h;rw[f] at a;cases a;exact c
  ·exact e.dst j x d9 a
 ·rw[d i d9];by_cases h:j=k
  ·subst h;rw[f] at a;cases a;rw[g];exact s i b m
  ·rw[d j h];obtain⟨p,q⟩:=e.comm i j x b d9 a m;exact⟨p,q.imp (fun h=>h) fun h=>h.set b d9⟩
def rZ {os:Os} (h:os.map (·.1)=[]):os=[]:=by simpa using h
def qn {R:Nat->M7} {k:Nat} {b:List ct} {o:Oper} {r:M7} (a:fA R k b) (l:kD ops o b (r.need.map (·.1)) r.upd r.av=true):∀i,i<k->K6 ops o i=false->Comm (R i) r/\Rw (R i) r:=by
 intro i m n;rcases a i m with h|⟨x,p,rfl,f,g,j⟩
 ·exact⟨.aa h,.aa h.1⟩
 ·have:=AD.1 l x p;rw[n,Bool.or_false] at this;simp only[A7] at this;obtain⟨⟨⟨c,d⟩,c3⟩,e⟩:=this;rw[g] at c d;rw[f] at c3;rw[j] at e;exact⟨⟨eO c,eO d,eO e⟩,eO c3⟩
def od {R:Nat->M7} {k:Nat} {a:List ct} {r:M7} (b:fA R k a) (n:∀id∈r.news,(lk r.upd id).isSome=true):fA (q8 R k r) (k+1) (dd k (r.need.map (·.1)) r.news r.upd a):=by
 intro i o;have l:∀i,i≠k->q8 R k r i=R i:=fun i h=>by unfold q8;rw[Af h]
 have j:q8 R k r k=r:=by unfold q8;rw[Ag rfl]
 have grow:∀x∈a,x∈dd k (r.need.map (·.1)) r.news r.upd a:=fun x c=>by
  unfold dd;split
  ·exact c
  ·exact List.mem_cons_of_mem _ c
 by_cases h:i=k
 ·subst h;rw[j];unfold dd;split
  ·rename_i m g;have f:r.news=[]:=List.eq_nil_iff_forall_not_mem.2 fun id d=>by
    have:=n id d;rw[g] at this;cases this
   exact .inl ⟨rZ m,g,f⟩
  ·exact .inr ⟨_,List.mem_cons_self,rfl,rfl,rfl,rfl⟩
 ·rw[l i h];exact(b i d9).imp (fun h=>h) fun⟨x,c,e⟩=>⟨x,grow x c,e⟩
theorem mI (Z:D6 P tab) (W:U3 P et):∀(l:List Oper) (k:Nat) (R:Nat->M7) (g:List ct) (K:Ts->Os->Prop),dV P tab et Γ.n ops k l (p9 ops R ts0 (down k)) (E8 R os0 (down k)) g K->Lex P Γ ops R ts0 os0 k->fA R k g->(∀j,l[j]?=ops[k+j]?)->k+l.length=ops.length ->
  (∃a w,l9 Γ (p9 ops R ts0 (down k)) (E8 R os0 (down k)) a w)->∃u,Lex P Γ ops u ts0 os0 ops.length/\K (p9 ops u ts0 (down ops.length)) (E8 u os0 (down ops.length))
 |[],k,R,g,K,h,S,t,hl,s,M=>by
  simp at s;subst s;exact⟨R,S,h⟩
 |o::l,k,R,g,K,h,S,t,hl,s,M=>by
  have T:ops[k]?=some o:=by simpa using(hl 0).symm
  have Q:∀j,l[j]?=ops[k+1+j]?:=fun j=>by
   have:=hl (j+1);simpa[Nat.add_assoc,Nat.add_comm 1 j] using this
  have B:k+1+l.length=ops.length:=by simp at s;omega
  obtain⟨a,w,E⟩:=M;have fH:∀(d:Nat) (dst:ck Γ.n o.dst=true) (V:Kt),O9 ops o (p9 ops R ts0 (down k)) true->dZ P tab et d o.op (Y5 (p9 ops R ts0 (down k))) (E8 R os0 (down k)) V ->
    (∀av rd N L,V av rd N L->y8 N (p9 ops R ts0 (down k))=true/\y9 N L (E8 R os0 (down k))=true/\kD ops o g rd L av=true/\dV P tab et Γ.n ops (k+1) l (V6 o.dst av (p9 ops R ts0 (down k))) (L++E8 R os0 (down k)) (dd k rd N L g) K) ->
    ∃u,Lex P Γ ops u ts0 os0 ops.length/\K (p9 ops u ts0 (down ops.length)) (E8 u os0 (down ops.length)):=by
   intro d dst V A hst X;obtain⟨c,b⟩:=E;have O:∀x∈o.op.operands.toList,Rd c w (a.eval x) (Y5 (p9 ops R ts0 (down k)) x):=fun x _=>gZ b.rel.ts x;obtain⟨av,need,upd,news,F,e,f,Y⟩:=bD Z W d hst ⟨c,w,a.eval,b.rel.aA,O⟩;obtain⟨f1,f2,f3,q⟩:=X _ _ _ _ Y;let r:M7:=⟨av,need,upd,news⟩;have H:=S.step (r:=r) T (.inl ⟨A,F,e,f,f1,f2⟩) dst (fun i M hw=>(qn (r:=r) t f3 i M hw).imp (fun h=>h) .inl);have p:=od (r:=r) (R:=R) t f;have G:q8 R k r k=r:=by unfold q8;rw[Ag rfl]
   have z:p9 ops (q8 R k r) ts0 (down (k+1))=V6 o.dst av (p9 ops R ts0 (down k)):=by
    simp only[down,p9,e7 R k r k (AA _),T,G];cases I:o.dst<;>simp[V6,I,r]
   have y:E8 (q8 R k r) os0 (down (k+1))=upd++E8 R os0 (down k):=by
    simp only[down,E8,fY R k r k (AA _),G];rfl
   have hgo:=F c w a.eval (b.rel.aA.sub e) O;obtain⟨v,w',c',U,hv⟩:=hgo.inst;obtain⟨g1,g2⟩:=Z6 f2;have J:l9 Γ (V6 o.dst av (p9 ops R ts0 (down k))) (upd++E8 R os0 (down k)) (a.put o.dst v) w':=by
    refine⟨c',⟨by rw[put_defers];exact b.rel.defers,by rw[iP];exact b.rel.n,b.rel.ts.put (b.rel.aA.sub e) U (iD f1) hv (by rw[b.rel.n];exact dst),b.rel.aA.frame e U f g1,b.rel.inv.post b.rel.aA e U f g1⟩,fun id hid=>?_⟩;have hno:id ∉ news:=fun hm=>by have:=g2 id hm;omega
    have h1:=U.ctx id hno;have h2:=b.same id hid;exact⟨h1.1.trans h2.1,h1.2.trans h2.2⟩
   exact mI Z W l (k+1) (q8 R k r) _ K (by rw[z,y];exact q) H p Q B ⟨_,_,by rw[z,y];exact J⟩
  have skip:ck Γ.n o.dst=true->O9 ops o (p9 ops R ts0 (down k)) false->dV P tab et Γ.n ops (k+1) l (V6 o.dst (.aS []) (p9 ops R ts0 (down k))) (E8 R os0 (down k)) g K ->
    ∃u,Lex P Γ ops u ts0 os0 ops.length/\K (p9 ops u ts0 (down ops.length)) (E8 u os0 (down ops.length)):=by
   intro dst A q;let r:M7:=⟨.aS [],[],[],[]⟩;have H:=S.step (r:=r) T (.inr ⟨A,rfl⟩) dst (fun i M hw=>⟨⟨fun id _ h=>(by cases h),fun id _ h=>(by cases h),fun id _ h=>(by cases h)⟩,.inl fun id h=>(by cases h)⟩);have p:fA (q8 R k r) (k+1) g:=fun i M=>by
    by_cases h:i=k
    ·subst h;have G:q8 R i r i=r:=by unfold q8;rw[Ag rfl]
     rw[G];exact .inl ⟨rfl,rfl,rfl⟩
    ·have eo:q8 R k r i=R i:=by unfold q8;rw[Af h]
     rw[eo];exact t i d9
   have G:q8 R k r k=r:=by unfold q8;rw[Ag rfl]
   have z:p9 ops (q8 R k r) ts0 (down (k+1))=V6 o.dst (.aS []) (p9 ops R ts0 (down k)):=by
    simp only[down,p9,e7 R k r k (AA _),T,G];cases I:o.dst<;>simp[V6,I,r]
   have y:E8 (q8 R k r) os0 (down (k+1))=E8 R os0 (down k):=by
    simp only[down,E8,fY R k r k (AA _),G];rfl
   exact mI Z W l (k+1) (q8 R k r) g K (by rw[z,y];exact q) H p Q B ⟨_,_,by rw[z,y];exact iS (o:=o) E dst⟩
  unfold dV at h;split at h
  ·rename_i d hd;split at h
   ·rename_i hdl;have m:ck Γ.n o.dst=true:=by rw[hd];exact hdl
    rcases jl h with⟨A,h⟩|⟨A,h⟩
    ·refine fH d m _ A h fun av rd N L D=>?_;split at D
     ·rename_i C;simp only[A7] at C;rw[force_eq,e6] at D;exact⟨C.1.1,C.1.2,C.2,by rw[hd];exact D⟩
     ·exact D.elim
    ·exact skip m A (by rw[hd];exact h)
   ·exact h.elim
  ·rename_i hd;have m:ck Γ.n o.dst=true:=by rw[hd];rfl
   rcases jl h with⟨A,h⟩|⟨A,h⟩
   ·refine fH 0 m _ A h fun av rd N L D=>?_;split at D
    ·rename_i C;simp only[A7] at C;rw[e6] at D;exact⟨C.1.1,C.1.2,C.2,by rw[hd];exact D⟩
    ·exact D.elim
   ·exact skip m A (by rw[hd];exact h)
theorem l9.drew {ts:Ts} {os:Os} {a:Act} {w:World} (h:l9 Γ ts os a w):l9 Γ ts os a { w with drawn:=w.drawn+1 }:=by
 obtain⟨c,⟨f,g,i,d,b⟩,j⟩:=h;refine⟨c,⟨f,g,fun t x e=>?_,⟨fun id o e=>?_,d.lt,d.sep,d.aX⟩,⟨b.bQ,b.tape,b.output,b.size,b.aX,b.aV,b.aK,b.ab⟩⟩,j⟩
 ·obtain⟨v,k,l⟩:=i t x e;exact⟨v,k,Rd.mono (c:=c) (c':=c) (w:=w) (w':={ w with drawn:=w.drawn+1 }) (fun _ _=>rfl) (fun _ h=>h) (fun _ _=>⟨rfl,rfl⟩) l⟩
 ·exact(d.rep id o e).aK (c':=c) ⟨rfl,rfl⟩ (fun _ _=>rfl) (fun _ h=>h) (fun _ _=>rfl) fun _ _=>⟨rfl,rfl⟩
theorem j4.draw (t:D6 P tab) (q:U3 P et) {n:Nat} (v:Γ.n=n) (u:P.follows .mixedOrders=true) {id:Nat} {l:Array Oper} (hd:P6 l.toList=true) {ts:Ts} {os:Os} {Q:Qt} (h:dA ts fun ts=>dV P tab et n l.toList 0 l.toList ts os [] (Q .normal)):j4 P Γ (.region id l true) ts os Q:=by
 subst v;rw[gS] at h;refine⟨fun a w x=>wp_region_any u ?_⟩;have c:=x.drew;obtain⟨R,s,r⟩:=mI (ops:=l.toList) (ts0:=ts) (os0:=os) t q l.toList 0 (fun _=>default) [] _ h ⟨fun k o b=>absurd b d9,fun k o b=>absurd b d9,fun i k o _ b=>absurd b d9⟩ (fun i g=>absurd g d9) (fun j=>by rw[Nat.zero_add]) d9 ⟨_,_,c⟩;have:=om (Q:=fun e p w'=>∃ex f d,fI e ex/\Q ex f d/\l9 Γ f d p w') hd s (fun p w' m=>⟨.normal,_,_,trivial,r,m⟩) l.toList.length (Array.replicate l.size false) [] a _ (lH hd 0 (Nat.zero_le _)) (fun i g=>by
  have:i<l.size:=by simpa using g
  simp[this]) o7 o7 c
 simpa using this
structure Sv where
 o:Oper
 ts:Ts
 av:AV
 rd:List Nat
def k9 (ops:List Oper) (o:Oper) (k c d:Nat) (a:List ct) (rd:List Nat) (b:Os) (av:AV):Bool :=
 a.all fun r=>(eJ r.writes rd && eJ r.writes (keys b) && (eJ (keys b) r.need || (A4 r.k c && A4 k d)) && eJ r.news (av.ids++b.flatMap fun p=>p.2.ids)) || K6 ops o r.k
def lR (ts a:Ts):List Operand->Prop
 |[]=>True
 |x::l=>Y5 a x=Y5 ts x/\lR ts a l
theorem oJ {ts a:Ts}:∀{l:List Operand},lR ts a l->∀x∈l,Y5 a x=Y5 ts x
 |[],_,x,h=>(by cases h)
 |y::l,h,x,b=>by
  rcases AF.1 b with rfl|b
  ·exact h.1
  ·exact oJ h.2 x b
def vw (b:Nat) (rd:List Nat) (a:List ct):Bool:=a.all fun r=>!(AH b r.k) || eJ r.writes rd
def kC (P:Program) (tab:E5) (et:R7) (k b c:Nat) (e:Option Sv) (a:List ct) (ts:Ts) (os:Os) (K:Prop):Prop :=
 match A4 k c with
 |true=>match e with
  |some s=>(vw b s.rd a=true/\lR s.ts ts s.o.op.operands.toList/\dZ P tab et 0 s.o.op (Y5 s.ts) os fun av rd d f=>av=s.av/\d=[]/\f=[]/\(rd.all fun x=>s.rd.elem x)=true)/\K
  |none=>False
 |false=>K
def gJ (k b:Nat) (o:Oper) (ts:Ts) (av:AV) (rd c:List Nat) (d:Os) (a:Option Sv):Option Sv :=
 match A4 k b with
 |true=>match c,d with
  |[],[]=>some ⟨o,ts,av,rd⟩
  |_,_=>a
 |false=>a
def dW (P:Program) (tab:E5) (et:R7) (n:Nat) (ops:List Oper) (b e:Nat):Nat->List Oper->Ts->Os->List ct->Option Sv->(Ts->Os->Prop)->Prop
 |_,[],ts,os,_,_,K=>K ts os
 |k,o::rest,ts,os,log,sv,K=>match o.dst with
  |some d=>match AH d n with
   |true=>eA ops o ts
    (dZ P tab et d o.op (Y5 ts) os fun av rd c a=>match y8 c ts && y9 c a os && k9 ops o k b e log rd a av with
     |true=>force av fun av=>dS a os fun os=>kC P tab et k b e sv log ((d,av)::ts) os (dW P tab et n ops b e (k+1) rest ((d,av)::ts) os (dd k rd c a log) (gJ k b o ts av rd c a sv) K)
     |false=>False)
    (dW P tab et n ops b e (k+1) rest ((d,.aS [])::ts) os log sv K)
   |false=>False
  |none=>eA ops o ts
   (dZ P tab et 0 o.op (Y5 ts) os fun av rd c a=>match y8 c ts && y9 c a os && k9 ops o k b e log rd a av with
    |true=>dS a os fun os=>kC P tab et k b e sv log ts os (dW P tab et n ops b e (k+1) rest ts os (dd k rd c a log) (gJ k b o ts av rd c a sv) K)
    |false=>False)
   (dW P tab et n ops b e (k+1) rest ts os log sv K)
section
variable {P:Program} {tab:E5} {et:R7} {Γ:H9} {ops:List Oper} {ts0:Ts} {os0:Os}
def fG (ops:List Oper) (R:Nat->M7) (ts0:Ts) (a k:Nat) (b:Option Sv):Prop:=∀s,b=some s->a<k/\ops[a]?=some s.o/\s.ts=p9 ops R ts0 (down a)/\(R a).av=s.av/\keys (R a).need=s.rd/\(R a).upd=[]/\(R a).news=[]
theorem fG.step {R:Nat->M7} {a k:Nat} {b:Option Sv} {r:M7} (h:fG ops R ts0 a k b):fG ops (q8 R k r) ts0 a (k+1) b:=fun s g=>by
 obtain⟨i,c,d,f⟩:=h s g;have e:q8 R k r a=R a:=by unfold q8;rw[Af d9]
 exact⟨d9,c,by rw[e7 R k r a d9];exact d,by rw[e];exact f⟩
theorem fG.save {R:Nat->M7} {a k:Nat} {b:Option Sv} {o:Oper} {r:M7} (h:fG ops R ts0 a k b) (g:ops[k]?=some o):fG ops (q8 R k r) ts0 a (k+1) (gJ k a o (p9 ops R ts0 (down k)) r.av (r.need.map (·.1)) r.news r.upd b):=by
 unfold gJ;split
 ·rename_i f;have:=A9 f;subst this;split
  ·rename_i c d;intro s i;cases i;have e:q8 R k r k=r:=by unfold q8;rw[Ag rfl]
   exact⟨d9,g,(e7 R k r k (AA _)).symm,by rw[e],by rw[e];rfl,by rw[e];exact d,by rw[e];exact c⟩
  ·exact h.step
 ·exact h.step
def sj {R:Nat->M7} {k f g:Nat} {b:List ct} {o:Oper} {r:M7} (a:fA R k b) (n:k9 ops o k f g b (r.need.map (·.1)) r.upd r.av=true):∀i,i<k->K6 ops o i=false->Comm (R i) r/\(Rw (R i) r\/(i=f/\k=g)):=by
 intro i p q;rcases a i p with h|⟨x,s,rfl,j,l,m⟩
 ·exact⟨.aa h,.inl (.aa h.1)⟩
 ·have:=AD.1 n x s;rw[q,Bool.or_false] at this;simp only[A7,Bool.or_eq_true] at this;obtain⟨⟨⟨c,d⟩,c3⟩,e⟩:=this;rw[l] at c d;rw[j] at c3;rw[m] at e;refine⟨⟨eO c,eO d,eO e⟩,c3.imp (fun h=>eO h) fun h=>⟨A9 h.1,A9 h.2⟩⟩
theorem mN (hT:D6 P tab) (hE:U3 P et) (y M:Nat):∀(l:List Oper) (k:Nat) (R:Nat->M7) (m:List ct) (N:Option Sv) (K:Ts->Os->Prop),fG ops R ts0 y k N->dW P tab et Γ.n ops y M k l (p9 ops R ts0 (down k)) (E8 R os0 (down k)) m N K->Lex P Γ ops R ts0 os0 k->fA R k m->(∀j,l[j]?=ops[k+j]?)->k+l.length=ops.length ->
  (∃a w,l9 Γ (p9 ops R ts0 (down k)) (E8 R os0 (down k)) a w)->∃C,Lex P Γ ops C ts0 os0 ops.length/\K (p9 ops C ts0 (down ops.length)) (E8 C os0 (down ops.length))
 |[],k,R,m,N,K,L,h,hL,u,hl,A,hi=>by
  simp at A;subst A;exact⟨R,hL,h⟩
 |o::l,k,R,m,N,K,L,h,hL,u,hl,A,hi=>by
  have ho:ops[k]?=some o:=by simpa using(hl 0).symm
  have hl':∀j,l[j]?=ops[k+1+j]?:=fun j=>by
   have:=hl (j+1);simpa[Nat.add_assoc,Nat.add_comm 1 j] using this
  have H:k+1+l.length=ops.length:=by simp at A;omega
  obtain⟨a,w,S⟩:=hi;have fH:∀(d:Nat) (dst:ck Γ.n o.dst=true) (K0:Kt),O9 ops o (p9 ops R ts0 (down k)) true->dZ P tab et d o.op (Y5 (p9 ops R ts0 (down k))) (E8 R os0 (down k)) K0 ->
    (∀av rd Z O,K0 av rd Z O->y8 Z (p9 ops R ts0 (down k))=true/\y9 Z O (E8 R os0 (down k))=true/\k9 ops o k y M m rd O av=true/\kC P tab et k y M N m (V6 o.dst av (p9 ops R ts0 (down k))) (O++E8 R os0 (down k)) (dW P tab et Γ.n ops y M (k+1) l (V6 o.dst av (p9 ops R ts0 (down k))) (O++E8 R os0 (down k)) (dd k rd Z O m) (gJ k y o (p9 ops R ts0 (down k)) av rd Z O N) K)) ->
    ∃C,Lex P Γ ops C ts0 os0 ops.length/\K (p9 ops C ts0 (down ops.length)) (E8 C os0 (down ops.length)):=by
   intro d dst K0 G hst hK0;obtain⟨c,f⟩:=S;have hev:∀x∈o.op.operands.toList,Rd c w (a.eval x) (Y5 (p9 ops R ts0 (down k)) x):=fun x _=>gZ f.rel.ts x;obtain⟨av,need,upd,news,U,g,p,hKK⟩:=bD hT hE d hst ⟨c,w,a.eval,f.rel.aA,hev⟩;obtain⟨f1,f2,f3,b⟩:=hK0 _ _ _ _ hKK;let r:M7:=⟨av,need,upd,news⟩;have z:=od (r:=r) (R:=R) u p;have V:q8 R k r k=r:=by unfold q8;rw[Ag rfl]
   have E:p9 ops (q8 R k r) ts0 (down (k+1))=V6 o.dst av (p9 ops R ts0 (down k)):=by
    simp only[down,p9,e7 R k r k (AA _),ho,V];cases X:o.dst<;>simp[V6,X,r]
   have B:E8 (q8 R k r) os0 (down (k+1))=upd++E8 R os0 (down k):=by
    simp only[down,E8,fY R k r k (AA _),V];rfl
   have hgo:=U c w a.eval (f.rel.aA.sub g) hev;obtain⟨v,w',c',hp,hv⟩:=hgo.inst;obtain⟨g1,g2⟩:=Z6 f2;have I:l9 Γ (V6 o.dst av (p9 ops R ts0 (down k))) (upd++E8 R os0 (down k)) (a.put o.dst v) w':=by
    refine⟨c',⟨by rw[put_defers];exact f.rel.defers,by rw[iP];exact f.rel.n,f.rel.ts.put (f.rel.aA.sub g) hp (iD f1) hv (by rw[f.rel.n];exact dst),f.rel.aA.frame g hp p g1,f.rel.inv.post f.rel.aA g hp p g1⟩,fun id t=>?_⟩;have hno:id ∉ news:=fun hm=>by have:=g2 id hm;omega
    have h1:=hp.ctx id hno;have h2:=f.same id t;exact⟨h1.1.trans h2.1,h1.2.trans h2.2⟩
   have T:(k=M->fF P ops (q8 R k r) ts0 os0 y k)/\dW P tab et Γ.n ops y M (k+1) l (V6 o.dst av (p9 ops R ts0 (down k))) (upd++E8 R os0 (down k)) (dd k (need.map (·.1)) news upd m) (gJ k y o (p9 ops R ts0 (down k)) av (need.map (·.1)) news upd N) K:=by
    unfold kC at b;split at b
    ·rename_i hkm;split at b
     ·rename_i s;obtain⟨⟨q1,q2,q3⟩,q4⟩:=b;refine⟨fun _=>?_,q4⟩;obtain⟨s1,s2,s3,s4,s5,s6,s7⟩:=L s rfl;have D:q8 R k r y=R y:=by unfold q8;rw[Af d9]
      obtain⟨c2,Q⟩:=I;have hev2:∀x∈s.o.op.operands.toList,Rd c2 w' ((a.put o.dst v).eval x) (Y5 s.ts x):=fun x hx=>by
       rw[<-oJ q2 x hx];exact gZ Q.rel.ts x
      obtain⟨av2,Y,upd2,news2,t1,t2,t3,t4,t5,t6,t7⟩:=bD hT hE 0 q3 ⟨c2,w',(a.put o.dst v).eval,Q.rel.aA,hev2⟩;subst t4;rw[t5,t6] at t1;refine⟨by rw[D];exact s6,by rw[D];exact s7,fun j hj hjk id t=>?_,s.o,Y,s2,?_,?_,fun id t=>?_⟩
      ·have ej:q8 R k r j=R j:=by unfold q8;rw[Af d9]
       rw[ej] at t;rw[D,s5];rcases u j hjk with h|⟨x,hx,rfl,_,h3,_⟩
       ·rw[h.2.1] at t;cases t
       ·have:=AD.1 q1 x hx;have F:AH y x.k=true:=Nat.ble_eq_true_of_le hj;rw[F,AL,Bool.false_or] at this;rw[h3] at this;exact eO this id t
      ·rw[e7 R k r y d9,D,<-s3,s4];exact t1
      ·rw[B];exact t2
      ·rw[D,s5];have:=AD.1 t7 id t;simpa using this
     ·exact b.elim
    ·rename_i hkm;exact⟨fun e=>by subst e;simp at hkm,b⟩
   have W:=hL.step (r:=r) ho (.inl ⟨G,U,g,p,f1,f2⟩) dst (fun i hi hw=>(sj (r:=r) u f3 i hi hw).imp (fun h=>h) fun h=>h.imp (fun h=>h) fun⟨e1,e2⟩=>by subst e1;exact T.1 e2);exact mN hT hE y M l (k+1) (q8 R k r) _ _ K (fG.save (r:=r) L ho) (by rw[E,B];exact T.2) W z hl' H ⟨_,_,by rw[E,B];exact I⟩
  have skip:ck Γ.n o.dst=true->O9 ops o (p9 ops R ts0 (down k)) false->dW P tab et Γ.n ops y M (k+1) l (V6 o.dst (.aS []) (p9 ops R ts0 (down k))) (E8 R os0 (down k)) m N K ->
    ∃C,Lex P Γ ops C ts0 os0 ops.length/\K (p9 ops C ts0 (down ops.length)) (E8 C os0 (down ops.length)):=by
   intro dst G b;let r:M7:=⟨.aS [],[],[],[]⟩;have W:=hL.step (r:=r) ho (.inr ⟨G,rfl⟩) dst (fun i hi hw=>⟨⟨fun id _ h=>(by cases h),fun id _ h=>(by cases h),fun id _ h=>(by cases h)⟩,.inl fun id h=>(by cases h)⟩);have z:fA (q8 R k r) (k+1) m:=fun i hi=>by
    by_cases h:i=k
    ·subst h;have V:q8 R i r i=r:=by unfold q8;rw[Ag rfl]
     rw[V];exact .inl ⟨rfl,rfl,rfl⟩
    ·have eo:q8 R k r i=R i:=by unfold q8;rw[Af h]
     rw[eo];exact u i d9
   have V:q8 R k r k=r:=by unfold q8;rw[Ag rfl]
   have E:p9 ops (q8 R k r) ts0 (down (k+1))=V6 o.dst (.aS []) (p9 ops R ts0 (down k)):=by
    simp only[down,p9,e7 R k r k (AA _),ho,V];cases X:o.dst<;>simp[V6,X,r]
   have B:E8 (q8 R k r) os0 (down (k+1))=E8 R os0 (down k):=by
    simp only[down,E8,fY R k r k (AA _),V];rfl
   exact mN hT hE y M l (k+1) (q8 R k r) m N K L.step (by rw[E,B];exact b) W z hl' H ⟨_,_,by rw[E,B];exact iS (o:=o) S dst⟩
  unfold dW at h;split at h
  ·rename_i d hd;split at h
   ·rename_i hdl;have q:ck Γ.n o.dst=true:=by rw[hd];exact hdl
    rcases jl h with⟨G,h⟩|⟨G,h⟩
    ·refine fH d q _ G h fun av rd Z O J=>?_;split at J
     ·rename_i F;simp only[A7] at F;rw[force_eq,e6] at J;exact⟨F.1.1,F.1.2,F.2,by rw[hd];exact J⟩
     ·exact J.elim
    ·exact skip q G (by rw[hd];exact h)
   ·exact h.elim
  ·rename_i hd;have q:ck Γ.n o.dst=true:=by rw[hd];rfl
   rcases jl h with⟨G,h⟩|⟨G,h⟩
   ·refine fH 0 q _ G h fun av rd Z O J=>?_;split at J
    ·rename_i F;simp only[A7] at F;rw[e6] at J;exact⟨F.1.1,F.1.2,F.2,by rw[hd];exact J⟩
    ·exact J.elim
   ·exact skip q G (by rw[hd];exact h)
theorem j4.jC (x:D6 P tab) (t:U3 P et) {n:Nat} (z:Γ.n=n) (y:P.follows .mixedOrders=true) {id:Nat} {l:Array Oper} (hd:P6 l.toList=true) {ts:Ts} {os:Os} {Q:Qt} (q r:Nat) (h:dA ts fun ts=>dW P tab et n l.toList q r 0 l.toList ts os [] none (Q .normal)):j4 P Γ (.region id l true) ts os Q:=by
 subst z;rw[gS] at h;refine⟨fun a w A=>wp_region_any y ?_⟩;have c:=A.drew;obtain⟨R,v,u⟩:=mN (ops:=l.toList) (ts0:=ts) (os0:=os) x t q r l.toList 0 (fun _=>default) [] none _ (fun s B=>by cases B) h ⟨fun k o b=>absurd b d9,fun k o b=>absurd b d9,fun i k o _ b=>absurd b d9⟩ (fun i g=>absurd g d9) (fun j=>by rw[Nat.zero_add]) d9 ⟨_,_,c⟩;have:=om (Q:=fun e p w'=>∃ex f d,fI e ex/\Q ex f d/\l9 Γ f d p w') hd v (fun p w' m=>⟨.normal,_,_,trivial,u,m⟩) l.toList.length (Array.replicate l.size false) [] a _ (lH hd 0 (Nat.zero_le _)) (fun i g=>by
  have:i<l.size:=by simpa using g
  simp[this]) o7 o7 c
 simpa using this
end
end
section
variable {P:Program} {tab:E5} {et:R7} {Γ:H9}
structure gG (P:Program) (Γ:H9) (ops l:List Oper) (ts:Ts) (os:Os) (Q:Qt):Prop where
 run:∀a w,l9 Γ ts os a w->wpList P ops.toArray (fun e a' w'=>∃ex ts' os',fI e ex/\Q ex ts' os'/\l9 Γ ts' os' a' w') l a w
theorem j4.ops {id:Nat} {l:Array Oper} {ts:Ts} {os:Os} {Q:Qt} (h:gG P Γ l.toList l.toList ts os Q):j4 P Γ (.region id l false) ts os Q :=
 ⟨fun a w b=>wp_region_list (by simpa using h.run a w b)⟩
theorem gG.done {ops:List Oper} {ts:Ts} {os:Os} {Q:Qt} (h:Q .normal ts os):gG P Γ ops [] ts os Q:=⟨fun a w b=>⟨.normal,ts,os,trivial,h,b⟩⟩
theorem j4.seq {x y:Code} {ts:Ts} {os:Os} {Q:Qt} (h:j4 P Γ x ts os fun e c b=>match e with
  |.normal=>j4 P Γ y c b Q
  |.exit id=>Q (.exit id) c b
  |.ret=>Q .ret c b):j4 P Γ (.seq x y) ts os Q:=by
 refine⟨fun a w j=>wp_seq (wp_mono (h.run a w j) fun e i w' ⟨ex,c,b,d,f,g⟩=>?_)⟩;cases e<;>cases ex<;>simp only[fI] at d<;>first|exact d.elim|skip
 ·exact f.run i w' g
 ·subst d;exact⟨.exit _,c,b,rfl,f,g⟩
 ·exact⟨.ret,c,b,trivial,f,g⟩
theorem j4.cut {ι:Type} (St:ι->Ts) (g:ι->Os) {x y:Code} {ts:Ts} {os:Os} {Q:Qt} (h:j4 P Γ x ts os fun e c b=>match e with
  |.normal=>∃i f,X5 c b (St i) (g i) f
  |.exit id=>Q (.exit id) c b
  |.ret=>Q .ret c b) (m:∀i,((St i).all fun p=>AH p.1 Γ.n)=true) (k:∀i,j4 P Γ y (St i) (g i) Q):j4 P Γ (.seq x y) ts os Q:=by
 refine j4.seq ⟨fun a w o=>wp_mono (h.run a w o) fun e r w' ⟨ex,c,b,j,d,l⟩=>⟨ex,c,b,j,?_,l⟩⟩;cases ex with
 |normal =>
  obtain⟨i,f,q⟩:=d;exact j4.sub f q (m i) (k i)
 |exit id=>exact d
 |ret=>exact d
def Gh (Γ:H9) (ts:Ts) (os:Os) {ι:Type} (T:ι->Ts) (O:ι->Os):Prop:=∀a w,l9 Γ ts os a w->∃x,l9 Γ (T x) (O x) a w
theorem j4.gh {ι:Type} {c:Code} {ts:Ts} {os:Os} {T:ι->Ts} {O:ι->Os} {Q:Qt} (g:Gh Γ ts os T O) (h:∀x,j4 P Γ c (T x) (O x) Q):j4 P Γ c ts os Q :=
 ⟨fun a w b=>let ⟨x,d⟩:=g a w b;(h x).run a w d⟩
theorem gG.gh {ι:Type} {ops l:List Oper} {ts:Ts} {os:Os} {T:ι->Ts} {O:ι->Os} {Q:Qt} (g:Gh Γ ts os T O) (h:∀x,gG P Γ ops l (T x) (O x) Q):gG P Γ ops l ts os Q :=
 ⟨fun a w b=>let ⟨x,c⟩:=g a w b;(h x).run a w c⟩
structure K7 (Γ:H9) (ts:Ts) (os:Os) (Q:Qt):Prop where
 run:∀a w,l9 Γ ts os a w->∃ts' os',Q .normal ts' os'/\l9 Γ ts' os' a w
theorem K7.done {ts:Ts} {os:Os} {Q:Qt} (h:Q .normal ts os):K7 Γ ts os Q:=⟨fun a w b=>⟨ts,os,h,b⟩⟩
theorem K7.gh {ι:Type} {ts:Ts} {os:Os} {T:ι->Ts} {O:ι->Os} {Q:Qt} (g:Gh Γ ts os T O) (h:∀x,K7 Γ (T x) (O x) Q):K7 Γ ts os Q :=
 ⟨fun a w b=>let ⟨x,c⟩:=g a w b;(h x).run a w c⟩
theorem j4.snoc {c:Code} {ts:Ts} {os:Os} {Q:Qt} (h:j4 P Γ c ts os fun e d b=>match e with
  |.normal=>K7 Γ d b Q
  |.exit id=>Q (.exit id) d b
  |.ret=>Q .ret d b):j4 P Γ c ts os Q:=by
 refine⟨fun a w m=>wp_mono (h.run a w m) fun e l w' ⟨ex,d,b,f,g,i⟩=>?_⟩;cases e<;>cases ex<;>simp only[fI] at f<;>first|exact f.elim|skip
 ·obtain⟨k,j,n,o⟩:=g.run l w' i;exact⟨.normal,k,j,trivial,n,o⟩
 ·subst f;exact⟨.exit _,d,b,rfl,g,i⟩
 ·exact⟨.ret,d,b,trivial,g,i⟩
theorem Gh.of {ι:Type} {ts:Ts} {os need:Os} {ex:ι->Ts} {upd:ι->Os} {news:List Nat} (e:eG need os) (q:y8 news ts=true) (r:∀x,y9 news (upd x) os=true) (f:∀x,(news.all fun i=>(lk (upd x) i).isSome)=true)
  (I:∀c w,F7 c w need->(∃a,cr c w ts a)->∃x c',aE c w c' w need (upd x) news/\∀t y,lk (ex x) t=some y->∃z,lk ts t=some z/\∀v,Rd c w v z->Rd c' w v y):Gh Γ ts os (fun x=>ex x++ts) (fun x=>upd x++os):=by
 rintro a w ⟨c,⟨D,E,n,l,F⟩,G⟩;have m:=iK e;obtain⟨x,c',b,p⟩:=I c w (l.sub m) ⟨a,n⟩;have k:∀id∈news,(lk (upd x) id).isSome=true:=fun id h=>by simpa using AD.1 (f x) id h
 obtain⟨B,C⟩:=Z6 (r x);refine⟨x,c',⟨D,E,fun t y d=>?_,l.frame m b k B,F.post l m b k B⟩,fun id s=>?_⟩
 ·rw[y7] at d;cases o:lk (ex x) t with
  |some K =>
   rw[o] at d;simp at d;subst d;obtain⟨z,J,A⟩:=p t K o;obtain⟨v,g,j⟩:=n t z J;exact⟨v,g,A v j⟩
  |none =>
   rw[o] at d;simp at d;obtain⟨v,g,j⟩:=n t y d;exact⟨v,g,j.post b (l.sub m) (iD q t y d)⟩
 ·have u:id ∉ news:=fun H=>by have:=C id H;omega
  have g:=b.ctx id u;have j:=G id s;exact⟨g.1.trans j.1,g.2.trans j.2⟩
theorem aE.same {c c':Ctx} {w:World} {need upd:Os} {news:List Nat} (h:F7 c w need) (a:c'.Φ=c.Φ) (e:∀id,id ∉ news->c'.μ id=c.μ id/\c'.hd id=c.hd id) (rep:∀id o,lk upd id=some o->X4 c' w id o)
  (ab:∀id o b,lk upd id=some o->aI c' id o b->Touch c need upd b) (sep:∀id d o g b,id≠d->lk upd id=some o->lk upd d=some g->aI c' id o b->¬aI c' d g b):aE c w c' w need upd news:=by
 refine⟨rfl,rfl,rfl,AA _,fun b f=>by rw[a];exact f,fun b f=>.inl (by rw[a] at f;exact f),fun _ _ _=>rfl,e,⟨rep,fun id o b k j=>?_,sep,by rw[a];exact h.aX⟩,fun id o b k j=>.inr (ab id o b k j)⟩;obtain⟨i,g,l,_,m⟩:=ab id o b k j;rw[a];exact h.lt i g b l m
def cc {b:Type} {a i:Nat} {x o:b} (h:lk [(a,x)] i=some o):i=a/\o=x:=by
 rw[j5] at h;split at h
 ·rename_i e;cases h;exact⟨e.symm,rfl⟩
 ·cases h
def c8 {c:Type} {a b i:Nat} {x y o:c} (h:lk [(a,x),(b,y)] i=some o):(i=a/\o=x)\/(i≠a/\i=b/\o=y):=by
 rw[j5] at h;split at h
 ·rename_i e;cases h;exact .inl ⟨e.symm,rfl⟩
 ·rename_i e;exact .inr ⟨fun h=>e h.symm,cc h⟩
def bb {j:Type} {a b c i:Nat} {x y z o:j} (h:lk [(a,x),(b,y),(c,z)] i=some o):(i=a/\o=x)\/(i≠a/\i=b/\o=y)\/(i≠a/\i≠b/\i=c/\o=z):=by
 rw[j5] at h;split at h
 ·rename_i e;cases h;exact .inl ⟨e.symm,rfl⟩
 ·rename_i e;rcases c8 h with h|⟨d,f,g⟩
  ·exact .inr (.inl ⟨fun h=>e h.symm,h⟩)
  ·exact .inr (.inr ⟨fun h=>e h.symm,d,f,g⟩)
def M6 {i j:Nat} (h:A4 i j=false):i≠j:=fun e=>by rw[e] at h;simp at h
theorem F8.w0 {Φ:Nat->Prop} {w:World} {v:Value} {sz e:Nat} {ls:List (List AV)} (h:F8 Φ w v sz ls e):∃h:Hd,v=h.v/\h.n=ls.length/\h.n<=h.c/\h.c<=maxLen:=by
 obtain⟨css,d,f,g⟩:=h;obtain⟨A,cap,e1,a,b⟩:=d.head;exact⟨⟨A,css.length,cap⟩,e1,f,a,b⟩
theorem dz.cons {Φ:Nat->Prop} {w:World} {sz e:Nat} {p:Hd×List (List AV)} {l:List (Hd×List (List AV))}:dz Φ w sz (p::l) e↔F8 Φ w p.1.v sz p.2 e/\dz Φ w sz l e/\∀q∈l,∀b,p.1.v.ownBlock=some b->q.1.v.ownBlock=some b->False:=by
 constructor
 ·rintro⟨c,d⟩;obtain⟨f,g⟩:=List.pairwise_cons.1 d;exact⟨c p o7,⟨fun q a=>c q (by simp[a]),g⟩,f⟩
 ·rintro⟨c,d,f⟩;exact⟨fun q a=>by rcases AF.1 a with rfl|a;exact c;exact d.1 q a,List.pairwise_cons.2 ⟨f,d.2⟩⟩
theorem Gh.open {ts:Ts} {os:Os} (t id j k:Nat) {sz e isz ie:Nat} {l:List (List AV×List (List AV))} (f:lk ts t=some (.bF id)) (D:lk os id=some (.nest sz e isz ie l)) (g:A4 j k=false) (m:A4 j id=false) (r:A4 k id=false)
  (B:y8 [j,k] ts=true) (C:∀z,y9 [j,k] [(j,.row sz (cC z) e),(k,.pins isz (cd z) ie),(id,.aH)] os=true) :
  Gh Γ ts os (fun _:{ z:List (Hd×List AV×List (List AV)) // z.map (·.2)=l }=>(t,.aF j)::ts) (fun z=>(j,.row sz (cC z.1) e)::(k,.pins isz (cd z.1) ie)::(id,.aH)::os):=by
 have g:=M6 g;have m:=M6 m;have r:=M6 r;refine Gh.of (ι:={ z:List (Hd×List AV×List (List AV)) // z.map (·.2)=l }) (need:=[(id,.nest sz e isz ie l)]) (upd:=fun z=>[(j,.row sz (cC z.1) e),(k,.pins isz (cd z.1) ie),(id,.aH)]) (ex:=fun _=>[(t,.aF j)]) (news:=[j,k]) ⟨D,trivial⟩ B (fun _=>C _) (fun _=>by simp[j5,g]) fun c w aA _=>?_;obtain⟨h,z,e0,e1,Q,S,T⟩:=aA.rep id _ (j3 _ _ _);have x:(c.aB j h.v).hd j=h.v:=by simp[Ctx.aB]
 have H:∀b,(∃v∈Y8 (c.hd id),v.ownBlock=some b)->Touch c [(id,.nest sz e isz ie l)] [(j,.row sz (cC z) e),(k,.pins isz (cd z) ie),(id,.aH)] b:=fun b s=>⟨id,_,j3 _ _ _,by rw[E9 _ _ m,E9 _ _ r,j3];rfl,s⟩;rw[e0] at H;refine⟨⟨z,e1⟩,c.aB j h.v,aE.same aA rfl (fun i M=>⟨rfl,by simp[Ctx.aB,show i≠j by rintro rfl;simp at M]⟩) (fun i o f=>?_) (fun i o b f a=>?_) (fun i U o V b u f E a d=>?_),fun W y O=>?_⟩
 ·rcases bb f with⟨rfl,rfl⟩|⟨_,rfl,rfl⟩|⟨_,_,rfl,rfl⟩
  ·show F8 _ w ((c.aB i h.v).hd i) sz (cC z) e;rw[x];exact Q
  ·exact S
  ·trivial
 ·rcases bb f with⟨rfl,rfl⟩|⟨_,rfl,rfl⟩|⟨_,_,rfl,rfl⟩
  ·exact H b ⟨h.v,by simp[Y8],by have:((c.aB i h.v).hd i).ownBlock=some b:=a;rwa [x] at this⟩
  ·obtain⟨p,F,s⟩:=a;obtain⟨q,G,rfl⟩:=AI.1 F;exact H b ⟨q.1.v,by show _∈(h.v::z.map (·.1.v)).toArray.toList;exact List.mem_cons_of_mem _ (AI.2 ⟨q,G,rfl⟩),s⟩
  ·exact a.elim
 ·have apart:∀b,((c.aB j h.v).hd j).ownBlock=some b->(∃p∈cd z,p.1.v.ownBlock=some b)->False:=fun b L ⟨p,F,s⟩=>by
   obtain⟨q,G,rfl⟩:=AI.1 F;exact T b q (by rwa [x] at L) G s
  rcases bb f with⟨rfl,rfl⟩|⟨_,rfl,rfl⟩|⟨_,_,rfl,rfl⟩<;>rcases bb E with⟨rfl,rfl⟩|⟨_,rfl,rfl⟩|⟨_,_,rfl,rfl⟩<;>first|exact u rfl|exact a.elim|exact d.elim|exact apart b a d|exact apart b d a
 ·obtain⟨rfl,rfl⟩:=cc O;refine⟨_,f,fun v N=>?_⟩;obtain⟨A,n,cap,vs,f1,I,f3,J⟩:=N.eg;rw[e0] at I;have K:h.v::z.map (·.1.v)=Value.slice A n cap::vs:=by simpa using I
  rw[f1];exact .aF (x.trans (List.cons.inj K).1) f3 J
theorem Gh.close {ts:Ts} {os:Os} (t j k id:Nat) {sz e isz ie:Nat} {ls:List (List AV)} {K:List (Hd×List (List AV))} (z:List (Hd×List AV×List (List AV))) (d:lk ts t=some (.aF j)) (S:lk os j=some (.row sz ls e)) (T:lk os k=some (.pins isz K ie)) (B:ls=cC z) (C:K=cd z)
  {l:List (List AV×List (List AV))} (D:z.map (·.2)=l) (a:A4 j k=false) (f:A4 j id=false) (g:A4 k id=false) (F:y8 [id] ts=true) (G:y9 [id] [(id,.nest sz e isz ie l),(j,.aH),(k,.aH)] os=true) :
  Gh Γ ts os (fun _:Unit=>(t,.bF id)::ts) (fun _=>(id,.nest sz e isz ie l)::(j,.aH)::(k,.aH)::os):=by
 have a:=M6 a;have f:=M6 f;have g:=M6 g;subst B C;refine Gh.of (need:=[(j,.row sz (cC z) e),(k,.pins isz (cd z) ie)]) (upd:=fun _=>[(id,.nest sz e isz ie l),(j,.aH),(k,.aH)]) (ex:=fun _=>[(t,.bF id)]) (news:=[id]) ⟨S,T,trivial⟩ F (fun _=>G) (fun _=>by simp[j5]) fun c w aA _=>?_;have I:lk [(j,Obj.row sz (cC z) e),(k,.pins isz (cd z) ie)] j=some (.row sz (cC z) e):=j3 _ _ _;have q:lk [(j,Obj.row sz (cC z) e),(k,.pins isz (cd z) ie)] k=some (.pins isz (cd z) ie):=by rw[E9 _ _ a,j3]
 have L:F8 c.Φ w (c.hd j) sz (cC z) e:=aA.rep j _ I;have rk:dz c.Φ w isz (cd z) ie:=aA.rep k _ q;obtain⟨h,e1,-⟩:=L.w0;have x:(c.aB id (.tuple (h.v::z.map (·.1.v)).toArray)).hd id=.tuple (h.v::z.map (·.1.v)).toArray:=by simp[Ctx.aB]
 refine⟨(),c.aB id (.tuple (h.v::z.map (·.1.v)).toArray),aE.same aA rfl (fun i Q=>⟨rfl,by simp[Ctx.aB,show i≠id by simpa using Q]⟩) (fun i o d=>?_) (fun i o b d s=>?_) (fun i W o X b r d H s E=>?_),fun Y y V=>?_⟩
 ·rcases bb d with⟨rfl,rfl⟩|⟨_,rfl,rfl⟩|⟨_,_,rfl,rfl⟩
  ·show fX _ w _ sz e isz ie l;rw[x];refine⟨h,z,rfl,D,e1▸L,rk,fun b p B C D=>?_⟩;exact aA.sep j k _ _ b a I q (show(c.hd j).ownBlock=some b by rw[e1];exact B) ⟨(p.1,p.2.2),AI.2 ⟨p,C,rfl⟩,D⟩
  ·trivial
  ·trivial
 ·rcases bb d with⟨rfl,rfl⟩|⟨_,rfl,rfl⟩|⟨_,_,rfl,rfl⟩
  ·obtain⟨v,u,J⟩:=s;rw[x] at u;have m:v∈h.v::z.map (·.1.v):=u;rcases AF.1 m with rfl|m
   ·exact⟨j,_,I,by rw[E9 _ _ (Ne.symm f),j3];rfl,by show(c.hd j).ownBlock=_;rw[e1];exact J⟩
   ·obtain⟨p,U,rfl⟩:=AI.1 m;exact⟨k,_,q,by rw[E9 _ _ (Ne.symm g),E9 _ _ a,j3];rfl,⟨(p.1,p.2.2),AI.2 ⟨p,U,rfl⟩,J⟩⟩
  ·exact s.elim
  ·exact s.elim
 ·rcases bb d with⟨rfl,rfl⟩|⟨_,rfl,rfl⟩|⟨_,_,rfl,rfl⟩<;>rcases bb H with⟨rfl,rfl⟩|⟨_,rfl,rfl⟩|⟨_,_,rfl,rfl⟩<;>first|exact r rfl|exact s.elim|exact E.elim
 ·obtain⟨rfl,rfl⟩:=cc V;refine⟨_,d,fun v u=>?_⟩;obtain⟨A,n,cap,f1,M,f3,N⟩:=u.aj;have O:h.v=.slice A n cap:=e1.symm.trans M;rw[f1];exact .bF (vs:=z.map (·.1.v)) (by rw[x,O]) f3 N
theorem Gh.fO {ts:Ts} {os:Os} (r i off j j':Nat) {sz e isz ie:Nat} {ls:List (List AV)} {l:List AV} (Q:lk os r=some (.row sz ls e)) (N:ls[i]?=some l) (O:l[off]?=some .aC) (m:A4 j j'=false) (f:A4 r j=false) (p:A4 r j'=false)
  (B:y8 [j,j'] ts=true) (C:y9 [j,j'] [(r,.row sz (ls.set i (l.set off (.aU (Hd.v ⟨none,0,0⟩)))) e),(j,.row isz [] ie),(j',.eqv j (Hd.v ⟨none,0,0⟩))] os=true) :
  Gh Γ ts os (fun _:Unit=>ts) (fun _=>(r,.row sz (ls.set i (l.set off (.aU (Hd.v ⟨none,0,0⟩)))) e)::(j,.row isz [] ie)::(j',.eqv j (Hd.v ⟨none,0,0⟩))::os):=by
 have m:=M6 m;have f:=M6 f;have p:=M6 p;refine Gh.of (need:=[(r,.row sz ls e)]) (upd:=fun _=>[(r,.row sz (ls.set i (l.set off (.aU (Hd.v ⟨none,0,0⟩)))) e),(j,.row isz [] ie),(j',.eqv j (Hd.v ⟨none,0,0⟩))]) (ex:=fun _=>[]) (news:=[j,j']) ⟨Q,trivial⟩ B (fun _=>C) (fun _=>by simp[j5,m,f,p]) fun c w aA _=>?_;obtain⟨css,V,W,J⟩:=aA.rep r _ (j3 _ _ _);have e1:(c.aB j (Hd.v ⟨none,0,0⟩)).hd j=Hd.v ⟨none,0,0⟩:=by simp[Ctx.aB]
 have G:(c.aB j (Hd.v ⟨none,0,0⟩)).hd r=c.hd r:=by simp[Ctx.aB,f]
 have d:∀b,((c.aB j (Hd.v ⟨none,0,0⟩)).hd j).ownBlock=some b->False:=fun b H=>by
  rw[e1] at H;cases H
 refine⟨(),c.aB j (Hd.v ⟨none,0,0⟩),aE.same aA rfl (fun id D=>⟨rfl,by simp[Ctx.aB,show id≠j by rintro rfl;simp at D]⟩) (fun id o x=>?_) (fun id o b x s=>?_) (fun id U o Z b t x E s u=>?_),fun t' y T=>(by cases T)⟩
 ·rcases bb x with⟨rfl,rfl⟩|⟨_,rfl,rfl⟩|⟨_,_,rfl,rfl⟩
  ·show F8 c.Φ w ((c.aB j (Hd.v ⟨none,0,0⟩)).hd id) sz _ e;rw[G];refine⟨css,V,by simpa using W,fun n us z I q=>?_⟩;rw[AM] at q;split at q
   ·rename_i L;subst L;split at q
    ·cases q;have A:=J i us l I N;obtain⟨v,X,Y⟩:=A.get O;have S:v=Hd.v ⟨none,0,0⟩:=by cases Y;rfl
     have g:=(l6.af (c:=c) A).set off (v:=v) (a:=.aU (Hd.v ⟨none,0,0⟩)) (by rw[S];exact .fz (.aU _));have F:us.set off v=us:=by
      apply AW;intro k;rw[AM];split
      ·rename_i K;subst K;split
       ·exact X.symm
       ·rw[AT d9]
      ·rfl
     rw[F] at g;exact g.eL (iX.2 fun a M=>by
      rcases List.mem_or_eq_of_mem_set M with h|h
      ·exact iX.1 A.ids a h
      ·rw[h];rfl)
    ·cases q
   ·exact J n us z I q
  ·show F8 c.Φ w ((c.aB id (Hd.v ⟨none,0,0⟩)).hd id) isz [] ie;rw[e1];exact⟨[],⟨.inl ⟨rfl,rfl⟩,o7,o7⟩,rfl,fun i us l h=>by simp at h⟩
  ·exact e1
 ·rcases bb x with⟨rfl,rfl⟩|⟨_,rfl,rfl⟩|⟨_,_,rfl,rfl⟩
  ·exact⟨id,_,j3 _ _ _,by rw[j3];rfl,by have:((c.aB j (Hd.v ⟨none,0,0⟩)).hd id).ownBlock=some b:=s;rw[G] at this;exact this⟩
  ·exact(d b s).elim
  ·exact s.elim
 ·rcases bb x with⟨rfl,rfl⟩|⟨_,rfl,rfl⟩|⟨_,_,rfl,rfl⟩<;>rcases bb E with⟨rfl,rfl⟩|⟨_,rfl,rfl⟩|⟨_,_,rfl,rfl⟩<;>first|exact t rfl|exact s.elim|exact u.elim|exact d b s|exact d b u
theorem Gh.nil {ts:Ts} {os:Os} (t:Nat) {sz:Nat} {ls:List (List AV)} (y:lk ts t=some (.sl sz ls)):Gh Γ ts os (fun b:{ b:Bool // b=true->ls=[] }=>(t,.cW b.1)::ts) (fun _=>os):=by
 rintro a w ⟨c,⟨l,m,f,n,q⟩,s⟩;obtain⟨v,i,j⟩:=f t _ y;obtain⟨A,k,us,b,o,e1,B,C,h,_⟩:=j.ei;have u:Rd c w v (.cW A.isNone):=by rw[e1];exact .fz (.cW _ _ _)
 refine⟨⟨A.isNone,fun g=>?_⟩,c,⟨l,m,fun z x d=>?_,n,q⟩,s⟩
 ·cases ls with
  |nil=>rfl
  |cons p r =>
   rw[(h o7).1] at g;cases g
 ·rw[j5] at d;split at d
  ·rename_i e;subst e;cases d;exact⟨v,i,u⟩
  ·exact f z x d
theorem Gh.aw {ts:Ts} {os:Os} (d j':Nat) {sz e i off x:Nat} {ls:List (List AV)} (u:lk os d=some (.aw sz ls e i off x)) (a:A4 d j'=false) (l:y8 [j'] ts=true) (m:∀h:Hd,y9 [j'] [(d,.row sz (eU ls i off (.aU h.v)) e),(j',.eqv x h.v)] os=true) (r:A4 x j'=false) :
  Gh Γ ts os (fun _:Hd=>ts) (fun h=>(d,.row sz (eU ls i off (.aU h.v)) e)::(j',.eqv x h.v)::os):=by
 have a:=M6 a;have r:=M6 r;refine Gh.of (need:=[(d,.aw sz ls e i off x)]) (upd:=fun h:Hd=>[(d,.row sz (eU ls i off (.aU h.v)) e),(j',.eqv x h.v)]) (ex:=fun _=>[]) (news:=[j']) ⟨u,trivial⟩ l m (fun _=>by simp[j5,a]) fun c w aA _=>?_;obtain⟨v,t,q⟩:=aA.rep d _ (j3 _ _ _);obtain⟨A,n,cap,e1,s,-⟩:=t.aj;refine⟨⟨A,n,cap⟩,c,aE.same aA rfl (fun _ _=>⟨rfl,rfl⟩) (fun id o g=>?_) (fun id o b g j=>?_) (fun id B o C b f g p j k=>?_),fun D y z=>(by cases z)⟩
 ·rcases c8 g with⟨rfl,rfl⟩|⟨_,rfl,rfl⟩
  ·rw[e1] at q;exact q
  ·exact s
 ·rcases c8 g with⟨rfl,rfl⟩|⟨_,rfl,rfl⟩
  ·exact⟨id,_,j3 _ _ _,by rw[j3];rfl,j⟩
  ·exact j.elim
 ·rcases c8 g with⟨rfl,rfl⟩|⟨_,rfl,rfl⟩<;>rcases c8 p with⟨rfl,rfl⟩|⟨_,rfl,rfl⟩<;>first|exact f rfl|exact j.elim|exact k.elim
theorem Gh.bd {ts:Ts} {os:Os} (t id:Nat) {a:List AV} {e:Nat} (i:lk ts t=some (.ptr id 0)) (d:lk os id=some (.box a e)) (g:AV.aY a=[]):Gh Γ ts os (fun _:Unit=>(t,.fp a)::ts) (fun _=>(id,.aH)::os) :=
 Gh.of (need:=[(id,.box a e)]) (upd:=fun _=>[(id,.aH)]) (ex:=fun _=>[(t,.fp a)]) (news:=[]) ⟨d,trivial⟩ rfl (fun _=>rfl) (fun _=>rfl) fun c w aA _=>⟨(),c.fz [(id,.box a e)],aE.freeze aA,fun o y l=>by
  obtain⟨rfl,rfl⟩:=cc l;refine⟨_,i,fun v k=>?_⟩;obtain⟨us,m,n⟩:=aA.rep id _ (j3 _ _ _);rw[k.bL];refine .fz (.fp (us:=us) (.inr ⟨id,_,j3 _ _ _,rfl⟩) (fun j u h=>?_) (o8.mono (fun _ _=>rfl) (fun b f=>.inl f) (l6.eL g n)));unfold World.cell?;simp only[Nat.zero_add,m];simpa using h⟩
end
def sw (a b i:Nat):Nat:=bif A4 i a then b else bif A4 i b then a else i
def vP (a b i:Nat):sw a b i=if i=a then b else if i=b then a else i:=by
 unfold sw;by_cases h:i=a
 ·subst h;simp
 ·have e:A4 i a=false:=by cases q:A4 i a;rfl;exact absurd (A9 q) h
  rw[e,Af h];by_cases c:i=b
  ·subst c;simp
  ·have e:A4 i b=false:=by cases q:A4 i b;rfl;exact absurd (A9 q) c
   rw[e,Af c];rfl
def vd (a b i:Nat):sw a b (sw a b i)=i:=by
 simp only[vP];split<;>split<;>(try split)<;>omega
mutual
theorem AV.bM {d:Nat->Nat} (h:∀i,d (d i)=i):∀a:AV,(a.ar d).ar d=a
 |.ptr id off=>by simp only[AV.ar,h]
 |.aF id=>by simp only[AV.ar,h]
 |.bZ id n=>by simp only[AV.ar,h]
 |.br id n sz=>by simp only[AV.ar,h]
 |.ep id i sz off=>by simp only[AV.ar,h]
 |.mp id=>by simp only[AV.ar,h]
 |.bF id=>by simp only[AV.ar,h]
 |.np id=>by simp only[AV.ar,h]
 |.ba b=>rfl
 |.fn f c=>by simp only[AV.ar,AV.ak h c]
 |.agg c=>by simp only[AV.ar,AV.ak h c]
 |.aS c=>by simp only[AV.ar,AV.ak h c]
 |.any=>rfl
 |.int n=>rfl
 |.ik k n=>rfl
 |.bool b=>rfl
 |.str s=>rfl
 |.sl sz ls=>rfl
 |.fp c=>rfl
 |.aC=>rfl
 |.cW b=>rfl
 |.aO=>rfl
 |.aG=>rfl
 |.aU v=>rfl
theorem AV.ak {b:Nat->Nat} (h:∀i,b (b i)=i):∀l:List AV,AV.bX b (AV.bX b l)=l
 |[]=>rfl
 |a::l=>by simp only[AV.bX,AV.bM h a,AV.ak h l]
end
theorem Obj.bM {ρ:Nat->Nat} (h:∀i,ρ (ρ i)=i) (o:Obj):(o.ar ρ).ar ρ=o:=by
 cases o
 case deep sz e cols l hs sh =>
  have e1:(hs.map fun p=>(p.1,p.2.1,ρ p.2.2)).map (fun p=>(p.1,p.2.1,ρ p.2.2))=hs:=by
   rw[List.map_map];have:(fun p:Nat×Nat×Nat=>(p.1,p.2.1,ρ p.2.2))∘(fun p=>(p.1,p.2.1,ρ p.2.2))=id:=by funext p;simp[h]
   rw[this,List.map_id]
  simp only[Obj.ar,h,e1]
 all_goals simp only[Obj.ar,AV.ak h,h]
def cq (a:Nat->Nat):Os->Os
 |[]=>[]
 |(k,o)::r=>(a k,o.ar a)::cq a r
theorem fU {a:Nat->Nat} (h:∀i,a (a i)=i) (id:Nat):∀os:Os,lk (cq a os) id=(lk os (a id)).map (·.ar a)
 |[]=>rfl
 |(k,o)::r=>by
  rw[cq,j5,j5];by_cases e:k=a id
  ·rw[Ag e,Ag (by rw[e,h])];rfl
  ·rw[Af e,Af (fun q=>e (by rw[<-q,h])),fU h id r]
def lp {a:Nat->Nat} (h:∀i,a (a i)=i) {id:Nat} {os:Os} {o:Obj} (b:lk (cq a os) id=some o):lk os (a id)=some (o.ar a):=by
 rw[fU h,AX] at b;obtain⟨x,c,rfl⟩:=b;rw[c,Obj.bM h]
theorem F7.other {c:Ctx} {w:World} {a:Nat->Nat} (h:∀i,a (a i)=i) {os g:Os} (j:∀id o,lk g id=some o->lk os (a id)=some (o.ar a)) (aA:F7 c w os):F7 (c.b9 a) w g:=by
 refine⟨fun id o d=>(aA.rep _ _ (j id o d)).aW,fun id o b d k=>aA.lt _ _ b (j id o d) (U5.1 k),fun id f o p b n d m k l=>aA.sep (a id) (a f) _ _ b (fun e=>n ?_) (j id o d) (j f p m) (U5.1 k) (U5.1 l),aA.aX⟩;rw[<-h id,e,h]
def rE {c:Ctx} {a:Nat->Nat} (h:∀i,a (a i)=i) {need upd:Os} {b:Nat} (g:Touch (c.b9 a) need upd b):Touch c (cq a need) (cq a upd) b:=by
 obtain⟨id,o,d,e,f⟩:=g;refine⟨a id,o.ar a,by rw[fU h,h,d];rfl,by rw[fU h,h];simpa using e,U5.1 f⟩
theorem Spec.swap {P:Program} {f:Nat} {need upd:Os} {ins:List AV} {av:AV} {news:List Nat} (hS:Spec P f need ins av upd news) (a:Nat->Nat) (h:∀i,a (a i)=i) :
  Spec P f (cq a need) (AV.bX a ins) (av.ar a) (cq a upd) (news.map a):=by
 obtain⟨u,x,y⟩:=hS;refine⟨u,fun id j=>?_,fun c w args aA E=>?_⟩
 ·obtain⟨i,B,rfl⟩:=AI.1 j;rw[fU h,h];simpa using x i B
 have n:F7 (c.b9 a) w need:=aA.other h fun id o k=>by rw[fU h,h,k];rfl
 have m:∀d:Ctx,(d.b9 a).b9 a=d:=fun d=>by
  cases d;simp only[Ctx.b9,h]
 refine(y (c.b9 a) w args n (l6.aW ins E)).mono fun e w' ⟨v,r,z,g,G⟩=>⟨v,r.b9 a,z,?_,?_⟩
 ·have p:∀b,Touch (c.b9 a) need upd b->Touch c (cq a need) (cq a upd) b:=fun b=>rE h;have H:∀b,Touch c (cq a need) (cq a upd) b->Touch (c.b9 a) need upd b:=fun b ⟨id,o,s,q,t⟩=>by
   refine⟨a id,o.ar a,lp h s,?_,?_⟩
   ·rw[fU h] at q;simpa using q
   ·have:aI ((c.b9 a).b9 a) id o b:=by rw[m];exact t
    exact U5.1 this
  refine⟨g.bQ,g.tape,g.output,g.size,g.aX,fun b l=>(g.aV b l).imp (fun h=>h) (.imp (fun h=>h) (p b)),fun b l D=>g.aK b l fun F=>D (p b F),fun id j=>?_,g.aA.other h fun id o k=>lp h k,fun id o b k A=>?_⟩
  ·have:=g.ctx (a id) fun C=>j (AI.2 ⟨a id,C,h id⟩);simpa only[Ctx.b9,h] using this
  ·exact(g.ab (a id) _ b (lp h k) (U5.1 A)).imp (fun h=>h) (p b)
 ·exact Rd.aW (av.ar a) (by rw[AV.bM h];exact G)
theorem Spec.sw {P:Program} {f:Nat} {need upd:Os} {ins:List AV} {av:AV} {news:List Nat} (hS:Spec P f need ins av upd news) (a b:Nat) :
  Spec P f (cq (sw a b) need) (AV.bX (sw a b) ins) (av.ar (sw a b)) (cq (sw a b) upd) (news.map (sw a b)):=hS.swap _ (vd a b)
def tab : E5:=[
  (1,⟨0,1,8,[.aG],[],0,0,.i64⟩),
  (2,⟨5,1,8,[.int 0],[],0,0,.i64⟩),
  (3,⟨5,1,8,[.int 0],[],0,0,.i64⟩),
  (4,⟨6,1,1,[.bool false],[],0,0,.i64⟩),
  (5,⟨5,1,1,[.ik .u8 0],[],0,0,.u8⟩),
  (6,⟨5,1,1,[.ik .u8 0],[],0,0,.u8⟩),
  (7,⟨1,4,24,[.int 0,.int 0,.bool false,.ik .u8 0],[(0,1,false),(1,1,false),(2,1,false),(3,1,false)],0,0,.i64⟩),
  (8,⟨1,4,24,[.int 0,.int 0,.bool false,.ik .u8 0],[(0,1,false),(1,1,false),(2,1,false),(3,1,false)],0,0,.i64⟩),
  (9,⟨4,1,16,[.str AK],[],0,0,.i64⟩),
  (10,⟨4,1,16,[.str AK],[],0,0,.i64⟩),
  (11,⟨4,1,16,[.str AK],[],0,0,.i64⟩),
  (12,⟨5,1,8,[.ik .u64 0],[],0,0,.u64⟩),
  (13,⟨1,2,24,[.str AK,.ik .u64 0],[(0,1,false),(1,1,false)],0,0,.i64⟩),
  (14,⟨1,2,24,[.str AK,.ik .u64 0],[(0,1,false),(1,1,false)],0,0,.i64⟩),
  (15,⟨7,1,8,[.aO],[],163,0,.i64⟩),
  (16,⟨7,1,8,[.aO],[],166,0,.i64⟩),
  (17,⟨7,1,8,[.aO],[],173,0,.i64⟩),
  (18,⟨1,1,8,[.aO],[(0,1,false)],0,0,.i64⟩),
  (19,⟨1,1,8,[.aO],[(0,1,false)],0,0,.i64⟩),
  (20,⟨9,1,16,[.ba true],[],0,0,.i64⟩),
  (21,⟨5,1,4,[.ik .i32 0],[],0,0,.i32⟩),
  (22,⟨2,1,24,[.aC],[],41,0,.i64⟩),
  (23,⟨2,1,24,[.aC],[],68,0,.i64⟩),
  (24,⟨1,3,56,[.aC,.aC,.int 0],[(0,1,false),(1,1,false),(2,1,false)],0,0,.i64⟩),
  (25,⟨1,3,56,[.aC,.aC,.int 0],[(0,1,false),(1,1,false),(2,1,false)],0,0,.i64⟩),
  (26,⟨2,1,24,[.aC],[],5,0,.i64⟩),
  (27,⟨0,1,8,[.aG],[],0,0,.i64⟩),
  (28,⟨5,1,8,[.int 0],[],0,0,.i64⟩),
  (29,⟨0,1,8,[.aG],[],0,0,.i64⟩),
  (31,⟨0,1,8,[.aG],[],0,0,.i64⟩),
  (32,⟨0,1,8,[.aG],[],0,0,.i64⟩),
  (33,⟨0,1,8,[.aG],[],0,0,.i64⟩),
  (34,⟨0,1,8,[.aG],[],0,0,.i64⟩),
  (35,⟨0,1,8,[.aG],[],0,0,.i64⟩),
  (36,⟨0,1,8,[.aG],[],0,0,.i64⟩),
  (37,⟨0,1,8,[.aG],[],0,0,.i64⟩),
  (38,⟨8,1,8,[.any],[],4,9,.i64⟩),
  (39,⟨2,1,24,[.aC],[],46,0,.i64⟩),
  (40,⟨1,4,56,[.str AK,.int 0,.int 0,.aC],[(0,1,false),(1,1,false),(2,1,false),(3,1,false)],0,0,.i64⟩),
  (41,⟨1,4,56,[.str AK,.int 0,.int 0,.aC],[(0,1,false),(1,1,false),(2,1,false),(3,1,false)],0,1,.i64⟩),
  (42,⟨0,1,8,[.aG],[],0,0,.i64⟩),
  (43,⟨0,1,8,[.aG],[],0,0,.i64⟩),
  (44,⟨2,1,24,[.aC],[],77,0,.i64⟩),
  (45,⟨1,5,64,[.str AK,.int 0,.int 0,.int 0,.aC],[(0,1,false),(1,1,false),(2,1,false),(3,1,false),(4,1,false)],0,0,.i64⟩),
  (46,⟨1,5,64,[.str AK,.int 0,.int 0,.int 0,.aC],[(0,1,false),(1,1,false),(2,1,false),(3,1,false),(4,1,false)],0,0,.i64⟩),
  (47,⟨0,1,8,[.aG],[],0,0,.i64⟩),
  (48,⟨7,1,8,[.aO],[],25,0,.i64⟩),
  (49,⟨7,1,8,[.aO],[],46,0,.i64⟩),
  (50,⟨1,2,16,[.int 0,.int 0],[(0,1,false),(1,1,false)],0,0,.i64⟩),
  (51,⟨1,2,16,[.int 0,.int 0],[(0,1,false),(1,1,false)],0,0,.i64⟩),
  (52,⟨0,1,8,[.aG],[],0,0,.i64⟩),
  (53,⟨0,1,8,[.aG],[],0,0,.i64⟩),
  (54,⟨7,1,8,[.aO],[],56,0,.i64⟩),
  (55,⟨1,2,24,[.str AK,.bool false],[(0,1,false),(1,1,false)],0,0,.i64⟩),
  (56,⟨1,2,24,[.str AK,.bool false],[(0,1,false),(1,1,false)],0,0,.i64⟩),
  (57,⟨7,1,8,[.aO],[],62,0,.i64⟩),
  (58,⟨7,1,8,[.aO],[],60,0,.i64⟩),
  (59,⟨1,2,32,[.aO,.aC],[(0,1,false),(1,1,false)],0,0,.i64⟩),
  (60,⟨1,2,32,[.aO,.aC],[(0,1,false),(1,1,false)],0,0,.i64⟩),
  (61,⟨1,2,32,[.aO,.aC],[(0,2,true)],0,0,.i64⟩),
  (62,⟨1,2,32,[.aO,.aC],[(0,2,true)],0,0,.i64⟩),
  (63,⟨0,1,8,[.aG],[],0,0,.i64⟩),
  (64,⟨0,1,8,[.aG],[],0,0,.i64⟩),
  (65,⟨0,1,8,[.aG],[],0,0,.i64⟩),
  (66,⟨2,1,24,[.aC],[],70,0,.i64⟩),
  (67,⟨1,2,32,[.int 0,.aC],[(0,1,false),(1,1,false)],0,0,.i64⟩),
  (68,⟨1,2,32,[.int 0,.aC],[(0,1,false),(1,1,false)],0,0,.i64⟩),
  (69,⟨1,2,16,[.int 0,.int 0],[(0,1,false),(1,1,false)],0,0,.i64⟩),
  (70,⟨1,2,16,[.int 0,.int 0],[(0,1,false),(1,1,false)],0,0,.i64⟩),
  (71,⟨0,1,8,[.aG],[],0,0,.i64⟩),
  (72,⟨0,1,8,[.aG],[],0,0,.i64⟩),
  (73,⟨2,1,24,[.aC],[],9,0,.i64⟩),
  (74,⟨2,1,24,[.aC],[],3,0,.i64⟩),
  (75,⟨0,1,8,[.aG],[],0,0,.i64⟩),
  (76,⟨1,5,48,[.int 0,.int 0,.int 0,.int 0,.str AK],[(0,1,false),(1,1,false),(2,1,false),(3,1,false),(4,1,false)],0,0,.i64⟩),
  (77,⟨1,5,48,[.int 0,.int 0,.int 0,.int 0,.str AK],[(0,1,false),(1,1,false),(2,1,false),(3,1,false),(4,1,false)],0,0,.i64⟩),
  (78,⟨7,1,8,[.aO],[],39,0,.i64⟩),
  (79,⟨0,1,8,[.aG],[],0,0,.i64⟩),
  (80,⟨0,1,8,[.aG],[],0,0,.i64⟩),
  (81,⟨0,1,8,[.aG],[],0,0,.i64⟩),
  (82,⟨0,1,8,[.aG],[],0,0,.i64⟩),
  (84,⟨0,1,8,[.aG],[],0,0,.i64⟩),
  (85,⟨0,1,8,[.aG],[],0,0,.i64⟩),
  (87,⟨0,1,8,[.aG],[],0,0,.i64⟩),
  (88,⟨0,1,8,[.aG],[],0,0,.i64⟩),
  (89,⟨0,1,8,[.aG],[],0,0,.i64⟩),
  (90,⟨0,1,8,[.aG],[],0,0,.i64⟩),
  (91,⟨0,1,8,[.aG],[],0,0,.i64⟩),
  (92,⟨9,1,16,[.ba true],[],0,0,.i64⟩),
  (93,⟨9,1,16,[.ba true],[],0,0,.i64⟩),
  (95,⟨0,1,8,[.aG],[],0,0,.i64⟩),
  (96,⟨0,1,8,[.aG],[],0,0,.i64⟩),
  (97,⟨7,1,8,[.aO],[],5,0,.i64⟩),
  (98,⟨0,1,8,[.aG],[],0,0,.i64⟩),
  (99,⟨0,1,8,[.aG],[],0,0,.i64⟩),
  (100,⟨5,1,8,[.ik .u64 0],[],0,0,.u64⟩),
  (101,⟨0,1,8,[.aG],[],0,0,.i64⟩),
  (103,⟨0,1,8,[.aG],[],0,0,.i64⟩),
  (104,⟨0,1,8,[.aG],[],0,0,.i64⟩),
  (105,⟨3,2,16,[.int 0,.int 0],[],3,2,.i64⟩),
  (106,⟨2,1,24,[.aC],[],105,0,.i64⟩),
  (107,⟨0,1,8,[.aG],[],0,0,.i64⟩),
  (109,⟨0,1,8,[.aG],[],0,0,.i64⟩),
  (110,⟨0,1,8,[.aG],[],0,0,.i64⟩),
  (111,⟨0,1,8,[.aG],[],0,0,.i64⟩),
  (112,⟨5,1,8,[.int 0],[],0,0,.i64⟩),
  (114,⟨0,1,8,[.aG],[],0,0,.i64⟩),
  (115,⟨0,1,8,[.aG],[],0,0,.i64⟩),
  (116,⟨0,1,8,[.aG],[],0,0,.i64⟩),
  (117,⟨0,1,8,[.aG],[],0,0,.i64⟩),
  (118,⟨0,1,8,[.aG],[],0,0,.i64⟩),
  (119,⟨5,1,4,[.ik .u32 0],[],0,0,.u32⟩),
  (120,⟨0,1,8,[.aG],[],0,0,.i64⟩),
  (121,⟨5,1,8,[.ik .u64 0],[],0,0,.u64⟩),
  (122,⟨0,1,8,[.aG],[],0,0,.i64⟩),
  (124,⟨0,1,8,[.aG],[],0,0,.i64⟩),
  (125,⟨3,24,24,[.ik .u8 0,.ik .u8 0,.ik .u8 0,.ik .u8 0,.ik .u8 0,.ik .u8 0,.ik .u8 0,.ik .u8 0,.ik .u8 0,.ik .u8 0,.ik .u8 0,.ik .u8 0,.ik .u8 0,.ik .u8 0,.ik .u8 0,.ik .u8 0,.ik .u8 0,.ik .u8 0,.ik .u8 0,.ik .u8 0,.ik .u8 0,.ik .u8 0,.ik .u8 0,.ik .u8 0],[],5,24,.i64⟩),
  (126,⟨0,1,8,[.aG],[],0,0,.i64⟩),
  (128,⟨0,1,8,[.aG],[],0,0,.i64⟩),
  (129,⟨5,1,8,[.ik .u64 0],[],0,0,.u64⟩),
  (130,⟨0,1,8,[.aG],[],0,0,.i64⟩),
  (131,⟨0,1,8,[.aG],[],0,0,.i64⟩),
  (132,⟨0,1,8,[.aG],[],0,0,.i64⟩),
  (133,⟨7,1,8,[.aO],[],3,0,.i64⟩),
  (134,⟨0,1,8,[.aG],[],0,0,.i64⟩),
  (135,⟨5,1,8,[.int 0],[],0,0,.i64⟩),
  (137,⟨0,1,8,[.aG],[],0,0,.i64⟩),
  (138,⟨7,1,8,[.aO],[],151,0,.i64⟩),
  (139,⟨0,1,8,[.aG],[],0,0,.i64⟩),
  (140,⟨0,1,8,[.aG],[],0,0,.i64⟩),
  (141,⟨0,1,8,[.aG],[],0,0,.i64⟩),
  (142,⟨3,20,160,[.ik .u64 0,.ik .u64 0,.ik .u64 0,.ik .u64 0,.ik .u64 0,.ik .u64 0,.ik .u64 0,.ik .u64 0,.ik .u64 0,.ik .u64 0,.ik .u64 0,.ik .u64 0,.ik .u64 0,.ik .u64 0,.ik .u64 0,.ik .u64 0,.ik .u64 0,.ik .u64 0,.ik .u64 0,.ik .u64 0],[],121,20,.i64⟩),
  (143,⟨3,65,65,[.ik .u8 0,.ik .u8 0,.ik .u8 0,.ik .u8 0,.ik .u8 0,.ik .u8 0,.ik .u8 0,.ik .u8 0,.ik .u8 0,.ik .u8 0,.ik .u8 0,.ik .u8 0,.ik .u8 0,.ik .u8 0,.ik .u8 0,.ik .u8 0,.ik .u8 0,.ik .u8 0,.ik .u8 0,.ik .u8 0,.ik .u8 0,.ik .u8 0,.ik .u8 0,.ik .u8 0,.ik .u8 0,.ik .u8 0,.ik .u8 0,.ik .u8 0,.ik .u8 0,.ik .u8 0,.ik .u8 0,.ik .u8 0,.ik .u8 0,.ik .u8 0,.ik .u8 0,.ik .u8 0,.ik .u8 0,.ik .u8 0,.ik .u8 0,.ik .u8 0,.ik .u8 0,.ik .u8 0,.ik .u8 0,.ik .u8 0,.ik .u8 0,.ik .u8 0,.ik .u8 0,.ik .u8 0,.ik .u8 0,.ik .u8 0,.ik .u8 0,.ik .u8 0,.ik .u8 0,.ik .u8 0,.ik .u8 0,.ik .u8 0,.ik .u8 0,.ik .u8 0,.ik .u8 0,.ik .u8 0,.ik .u8 0,.ik .u8 0,.ik .u8 0,.ik .u8 0,.ik .u8 0],[],5,65,.i64⟩),
  (144,⟨0,1,8,[.aG],[],0,0,.i64⟩),
  (145,⟨7,1,8,[.aO],[],129,0,.i64⟩),
  (146,⟨0,1,8,[.aG],[],0,0,.i64⟩),
  (148,⟨0,1,8,[.aG],[],0,0,.i64⟩),
  (149,⟨0,1,8,[.aG],[],0,0,.i64⟩),
  (150,⟨1,3,48,[.str AK,.str AK,.ba true],[(0,1,false),(1,1,false),(2,1,false)],0,0,.i64⟩),
  (151,⟨1,3,48,[.str AK,.str AK,.ba true],[(0,1,false),(1,1,false),(2,1,false)],0,0,.i64⟩),
  (152,⟨0,1,8,[.aG],[],0,0,.i64⟩),
  (153,⟨0,1,8,[.aG],[],0,0,.i64⟩),
  (154,⟨0,1,8,[.aG],[],0,0,.i64⟩),
  (155,⟨7,1,8,[.aO],[],157,0,.i64⟩),
  (156,⟨1,1,16,[.str AK],[(0,1,false)],0,0,.i64⟩),
  (157,⟨1,1,16,[.str AK],[(0,1,false)],0,0,.i64⟩),
  (159,⟨0,1,8,[.aG],[],0,0,.i64⟩),
  (160,⟨3,32,32,[.ik .u8 0,.ik .u8 0,.ik .u8 0,.ik .u8 0,.ik .u8 0,.ik .u8 0,.ik .u8 0,.ik .u8 0,.ik .u8 0,.ik .u8 0,.ik .u8 0,.ik .u8 0,.ik .u8 0,.ik .u8 0,.ik .u8 0,.ik .u8 0,.ik .u8 0,.ik .u8 0,.ik .u8 0,.ik .u8 0,.ik .u8 0,.ik .u8 0,.ik .u8 0,.ik .u8 0,.ik .u8 0,.ik .u8 0,.ik .u8 0,.ik .u8 0,.ik .u8 0,.ik .u8 0,.ik .u8 0,.ik .u8 0],[],5,32,.i64⟩),
  (161,⟨3,64,64,[.ik .u8 0,.ik .u8 0,.ik .u8 0,.ik .u8 0,.ik .u8 0,.ik .u8 0,.ik .u8 0,.ik .u8 0,.ik .u8 0,.ik .u8 0,.ik .u8 0,.ik .u8 0,.ik .u8 0,.ik .u8 0,.ik .u8 0,.ik .u8 0,.ik .u8 0,.ik .u8 0,.ik .u8 0,.ik .u8 0,.ik .u8 0,.ik .u8 0,.ik .u8 0,.ik .u8 0,.ik .u8 0,.ik .u8 0,.ik .u8 0,.ik .u8 0,.ik .u8 0,.ik .u8 0,.ik .u8 0,.ik .u8 0,.ik .u8 0,.ik .u8 0,.ik .u8 0,.ik .u8 0,.ik .u8 0,.ik .u8 0,.ik .u8 0,.ik .u8 0,.ik .u8 0,.ik .u8 0,.ik .u8 0,.ik .u8 0,.ik .u8 0,.ik .u8 0,.ik .u8 0,.ik .u8 0,.ik .u8 0,.ik .u8 0,.ik .u8 0,.ik .u8 0,.ik .u8 0,.ik .u8 0,.ik .u8 0,.ik .u8 0,.ik .u8 0,.ik .u8 0,.ik .u8 0,.ik .u8 0,.ik .u8 0,.ik .u8 0,.ik .u8 0,.ik .u8 0],[],5,64,.i64⟩),
  (162,⟨1,4,40,[.aO,.aO,.aO,.str AK],[(0,1,false),(1,1,false),(2,1,false),(3,1,false)],0,0,.i64⟩),
  (163,⟨1,4,40,[.aO,.aO,.aO,.str AK],[(0,1,false),(1,1,false),(2,1,false),(3,1,false)],0,0,.i64⟩),
  (164,⟨3,0,0,[],[],16,0,.i64⟩),
  (165,⟨1,0,0,[],[(0,0,true)],0,0,.i64⟩),
  (166,⟨1,0,0,[],[(0,0,true)],0,0,.i64⟩),
  (167,⟨5,1,1,[.ik .u8 0],[],0,0,.u8⟩),
  (168,⟨5,1,1,[.ik .u8 0],[],0,0,.u8⟩),
  (169,⟨0,1,8,[.aG],[],0,0,.i64⟩),
  (170,⟨5,1,4,[.ik .i32 0],[],0,0,.i32⟩),
  (171,⟨5,1,4,[.ik .i32 0],[],0,0,.i32⟩),
  (172,⟨1,11,48,[.ik .u64 0,.ik .u64 0,.ik .u32 0,.ik .u8 0,.ik .u8 0,.ik .u8 0,.ik .u8 0,.aG,.aO,.ik .i32 0,.ik .i32 0],[(0,1,false),(1,1,false),(2,1,false),(3,1,false),(4,1,false),(5,1,false),(6,1,false),(7,1,false),(8,1,false),(9,1,false),(10,1,false)],0,0,.i64⟩),
  (173,⟨1,11,48,[.ik .u64 0,.ik .u64 0,.ik .u32 0,.ik .u8 0,.ik .u8 0,.ik .u8 0,.ik .u8 0,.aG,.aO,.ik .i32 0,.ik .i32 0],[(0,1,false),(1,1,false),(2,1,false),(3,1,false),(4,1,false),(5,1,false),(6,1,false),(7,1,false),(8,1,false),(9,1,false),(10,1,false)],0,0,.i64⟩)]
def ff : D6 prog tab:=D6.of (by kernel_rfl)
def bt : R7 :=
 (70,[.int .i64,.int .i64]) ::
 (51,[.int .i64,.int .i64]) ::
 (77,[.int .i64,.int .i64,.int .i64,.int .i64,.str]) ::
 []
def mX : U3 prog bt:=U3.of l8
def mixed : prog.follows .mixedOrders=true:=l8
def go {a:H9} {n:Nat} (b:a.n=n) {c:Code} {ts:Ts} {os:Os} {Q:Qt} (h:cX prog tab bt a n c ts os Q):j4 prog a c ts os Q:=by
 subst b;exact mY ff mX c ts os Q h
def bj {a:H9} {n:Nat} (b:a.n=n) {x y:Code} {ts:Ts} {os:Os} {Q:Qt} (h:cX prog tab bt a n (.seq x y) ts os Q):j4 prog a (.seq x y) ts os Q:=go b h
def bz {a:H9} {n:Nat} (b:a.n=n) {id:Nat} {l:Array Oper} {ts:Ts} {os:Os} {Q:Qt} (h:cX prog tab bt a n (.region id l false) ts os Q):j4 prog a (.region id l false) ts os Q:=go b h
def cV {a:H9} {n:Nat} (b:a.n=n) {id:Nat} {x:Code} {ts:Ts} {os:Os} {Q:Qt} (h:cX prog tab bt a n (.block id x) ts os Q):j4 prog a (.block id x) ts os Q:=go b h
def cH {a:H9} {n:Nat} (b:a.n=n) {c:Operand} {x y:Code} {ts:Ts} {os:Os} {Q:Qt} (h:cX prog tab bt a n (.cond c x y) ts os Q):j4 prog a (.cond c x y) ts os Q:=go b h
def cI {a:H9} {n:Nat} (b:a.n=n) {id:Nat} {ts:Ts} {os:Os} {Q:Qt} (h:cX prog tab bt a n (.exit id) ts os Q):j4 prog a (.exit id) ts os Q:=go b h
def cJ {a:H9} {n:Nat} (b:a.n=n) {ts:Ts} {os:Os} {Q:Qt} (h:cX prog tab bt a n .skip ts os Q):j4 prog a .skip ts os Q:=go b h
def c6 {a:H9} {n:Nat} (b:a.n=n) {ts:Ts} {os:Os} {Q:Qt} (h:cX prog tab bt a n .ret ts os Q):j4 prog a .ret ts os Q:=go b h
def nF {a:H9} {n:Nat} (b:a.n=n) {id:Nat} {l:Array Oper} (hd:P6 l.toList=true) {ts:Ts} {os:Os} {Q:Qt} (h:dA ts fun ts=>dV prog tab bt n l.toList 0 l.toList ts os [] (Q .normal)):j4 prog a (.region id l true) ts os Q :=
 j4.draw ff mX b mixed hd h
def vk (a b:Nat) {c:H9} {n:Nat} (d:c.n=n) {id:Nat} {l:Array Oper} (hd:P6 l.toList=true) {ts:Ts} {os:Os} {Q:Qt} (h:dA ts fun ts=>dW prog tab bt n l.toList a b 0 l.toList ts os [] none (Q .normal)):j4 prog c (.region id l true) ts os Q :=
 j4.jC ff mX d mixed hd a b h
def tP {k n:Nat} (h:k<n) (a:n<=maxLen):C9 ((k:Int)+1):=by simp only[maxLen] at a;exact⟨d9,d9⟩
abbrev wr (n:Int):Int:=IntKind.i64.wrap n
def O7 {n:Int} (h:C9 n):wr n=n:=IntWalk.i64_in n h
def vv (a b:St):bu [.int a.cls,.str a.name,.int a.pos] [.int b.cls,.str b.name,.int b.pos]=decide (a=b):=by
 obtain⟨c,d,e⟩:=a;obtain⟨f,g,h⟩:=b;by_cases i:c=f<;>by_cases j:d=g<;>by_cases k:e=h<;>simp[bu,hB,i,j,k]
def vj (a b:Ln):bu [.int a.cls,.int a.found] [.int b.cls,.int b.found]=decide (a=b):=by
 obtain⟨c,d⟩:=a;obtain⟨e,f⟩:=b;by_cases g:c=e<;>by_cases h:d=f<;>simp[bu,hB,g,h]
def vy (a b:V):bu [.int a.k,.int a.n] [.int b.k,.int b.n]=decide (a=b):=by
 obtain⟨c,d⟩:=a;obtain⟨e,f⟩:=b;by_cases g:c=e<;>by_cases h:d=f<;>simp[bu,hB,g,h]
def vV (a b:Ins):bu [.int a.op,.int a.a,.int a.b,.int a.c,.str a.name] [.int b.op,.int b.a,.int b.b,.int b.c,.str b.name]=decide (a=b):=by
 obtain⟨d,e,f,g,h⟩:=a;obtain⟨i,j,k,l,m⟩:=b;by_cases n:d=i<;>by_cases o:e=j<;>by_cases p:f=k<;>by_cases q:g=l<;>by_cases r:h=m<;>simp[bu,hB,n,o,p,q,r]
inductive J4 (ρ σ:Type):Type where
 |ret (r:ρ)
 |next (s:σ)
def H7 {α:Type} (l:List α) (i:Int):Option α:=bif decide (0<=i) then l[i.toNat]? else none
def hA (s:ByteArray) (i:Int):Option UInt8:=bif decide (0<=i) then s[i.toNat]? else none
def X7 {α:Type} {l:List α} {i:Int} {x:α} (h:H7 l i=some x):0<=i/\l[i.toNat]?=some x:=by
 unfold H7 at h;by_cases a:0<=i
 ·rw[Ak a] at h;exact⟨a,h⟩
 ·rw[Aj a] at h;cases h
def K9 {α:Type} (l:List α) (k:Nat):H7 l (k:Int)=l[k]?:=by
 unfold H7;rw[Ak (Int.natCast_nonneg k)];rfl
def ph {α:Type} {l:List α} {i:Int} {x:α} (h:H7 l i=some x):0<=i/\i<l.length:=by
 obtain⟨a,b⟩:=X7 h;have:=(AB.1 b).1;exact⟨a,d9⟩
def mj {α b:Type} {x:Option α} {f:α->Option b} {r:b} (h:x.bind f=some r):∃a,x=some a/\f a=some r:=by
 cases x with
 |none=>cases h
 |some a=>exact⟨a,rfl,h⟩
def vN {a:Type} {b:Bool} {x y:Option a} {r:a} (h:(bif b then x else y)=some r) {X Y:Prop} (c:b=true->x=some r->X) (d:b=false->y=some r->Y):de.match_1 (motive:=fun _ _ _=>Prop) b X Y (fun X _=>X) (fun _ Y=>Y):=by
 cases b
 ·exact d rfl h
 ·exact c rfl h
def vW {b:Bool} {X Y:Prop} (a:b=true) (c:X):de.match_1 (motive:=fun _ _ _=>Prop) b X Y (fun X _=>X) (fun _ Y=>Y):=by subst a;exact c
def vc {b:Bool} {X Y:Prop} (a:b=false) (c:Y):de.match_1 (motive:=fun _ _ _=>Prop) b X Y (fun X _=>X) (fun _ Y=>Y):=by subst a;exact c
def mT {a:Type} {b:Bool} {x:Option a} {r:a} (h:(bif b then x else none)=some r):b=true/\x=some r:=by
 cases b
 ·cases h
 ·exact⟨rfl,h⟩
def fD (p:ByteArray×Bool):AV×AV:=(.str p.1,.bool p.2)
def cZ {α:Type} [DecidableEq α] (k:α):List (α×Bool)->Bool
 |[]=>false
 |p::l=>if k=p.1 then p.2 else cZ k l
def bh {α:Type} [DecidableEq α] (k:α) (b:Bool):List (α×Bool)->List (α×Bool)
 |[]=>[(k,b)]
 |p::l=>if k=p.1 then(k,b)::l else p::bh k b l
theorem ll {α:Type} [DecidableEq α] (k:α) (b:Bool):∀l:List (α×Bool),(bh k b l).length<=l.length+1
 |[]=>AA _
 |p::l=>by
  rw[bh];split
  ·simp
  ·simpa using ll k b l
theorem mK {α:Type} [DecidableEq α] {f:α->AV} (c:∀a b,gL (f a) (f b)=some (decide (a=b))) (k:α) (b:Bool):∀(l:List (α×Bool)) (i:Nat),∃r,dh (f k) (l.map fun p=>(f p.1,.bool p.2)) i=some r /\
  (match r with|none=>AV.bool false|some p=>p.2)=.bool (cZ k l)/\∀pre:List (AV×AV),pre.length=i->en (f k) (.bool b) (pre++l.map fun p=>(f p.1,.bool p.2)) r=pre++(bh k b l).map fun p=>(f p.1,.bool p.2)
 |[],i=>⟨none,rfl,rfl,fun pre _=>by simp[en,bh]⟩
 |p::l,i=>by
  obtain⟨r,e,g,j⟩:=mK c k b l (i+1);by_cases h:k=p.1
  ·refine⟨some (i,.bool p.2),by simp[dh,c,h],by simp[cZ,h],fun pre d=>?_⟩;subst d;simp[en,bh,h]
  ·refine⟨r,by simp[dh,c,h,e],by simp only[cZ,Af h];exact g,fun pre d=>?_⟩;have:=j (pre++[(f p.1,.bool p.2)]) (by simp[d]);simp only[bh,Af h,AO,AG,List.singleton_append] at this⊢;exact this
def vO {m:List (ByteArray×Bool)} {k:ByteArray} {A B C D:Prop} (a:A) (b:B) (c:C) (d:D) {K:AV->Prop} (H:K (.bool (cZ k m))) :
  A/\B/\C/\D/\∃r,dh (.str k) (m.map fD) 0=some r/\∀q,q=(match r with|none=>AV.bool false|some p=>p.2)->K q:=by
 obtain⟨r,e,g,_⟩:=mK (f:=AV.str) (fun _ _=>rfl) k false m 0;exact⟨a,b,c,d,r,e,fun q h=>by rw[h,g];exact H⟩
def vu {m:List (ByteArray×Bool)} {k:ByteArray} {v:Bool} {A B:Prop} (a:A) (b:B) (g:AE (m.length+1) 140737488355328=true) {K:List (AV×AV)->Prop} (H:K ((bh k v m).map fD)) :
  A/\B/\∃r,dh (.str k) (m.map fD) 0=some r/\(en (.str k) (.bool v) (m.map fD) r).length<=maxLen/\∀q,q=en (.str k) (.bool v) (m.map fD) r->K q:=by
 obtain⟨r,d,_,c⟩:=mK (f:=AV.str) (fun _ _=>rfl) k v m 0;have c:=c [] rfl;have e:en (.str k) (.bool v) (m.map fD) r=(bh k v m).map fD:=c;refine⟨a,b,r,d,?_,fun q h=>by rw[h,e];exact H⟩;rw[e,AN];have:=ll k v m;have:=AQ g;simp only[maxLen];omega
section
variable {α:Type} {enc:α->List AV}
def P7 {l:List α} {K:Nat->Prop} (H:l.length<=maxLen->K l.length):∀n:Nat,n=(l.map enc).length->n<=maxLen->K n:=fun n e h=>by
 rw[AN] at e;subst e;exact H h
def Z5 {l:List α} {i:Int} {x:α} (h:H7 l i=some x) {K:List AV->Prop} (H:K (enc x)):0<=i/\i<((l.map enc).length:Int)/\∀a,(l.map enc)[i.toNat]?=some a->bH a->K a:=by
 obtain⟨c,d⟩:=X7 h;refine⟨c,by rw[AN];exact(ph h).2,fun a b _=>?_⟩;rw[AZ,d] at b;cases b;exact H
def U7 {l:List α} {k:Nat} {x:α} (h:l[k]?=some x) {K:List AV->Prop} (H:K (enc x)):0<=(k:Int)/\(k:Int)<((l.map enc).length:Int)/\∀a,(l.map enc)[k]?=some a->bH a->K a :=
 Z5 (i:=(k:Int)) (by rw[K9];exact h) H
def eY {l:List α} {i:Int} {x:α} (h:H7 l i=some x) {K:Prop} (H:K):0<=i/\i<((l.map enc).length:Int)/\K :=
 ⟨(X7 h).1,by rw[AN];exact(ph h).2,H⟩
def fM {l:List α} {i:Nat} {x:α} (h:l[i]?=some x) {K:List AV->Prop} (H:K (enc x)):i<(l.map enc).length/\∀a,(l.map enc)[i]?=some a->K a:=by
 refine⟨by rw[AN];exact(AB.1 h).1,fun a b=>?_⟩;rw[AZ,h] at b;cases b;exact H
def tB {l:List α} {i:Nat} {x c:α} {b:List AV} (h:l[i]?=some x) (d:dR b (enc c)):N7 ((l.map enc).set i b) ((l.set i c).map enc):=by
 induction l generalizing i with
 |nil=>simp at h
 |cons a l ih =>
  cases i with
  |zero=>exact⟨d,X9 _⟩
  |succ i=>exact⟨kc _,ih (by simpa using h)⟩
def tF {ls c q d:List (List AV)} (h:N7 ls q) (e:N7 c d):N7 (ls++c) (q++d):=by
 induction ls generalizing q with
 |nil=>cases q with
  |nil=>exact e
  |cons=>exact h.elim
 |cons a ls ih=>cases q with
  |nil=>exact h.elim
  |cons b q=>exact⟨h.1,ih h.2⟩
def ln {l l2:List α} {a:List (List AV)} (b:N7 a (l2.map enc)):N7 (l.map enc++a) ((l++l2).map enc):=by
 rw[List.map_append];exact tF (X9 _) b
def tI {n:Nat} {z:List AV} {x:α} (h:dR z (enc x)):N7 (AJ n z) ((AJ n x).map enc):=by
 induction n with
 |zero=>trivial
 |succ n ih=>exact⟨h,ih⟩
def vh {l l2:List α} {a:List (List AV)} {B C:Nat} (d:AE ((l.length+l2.length)*B) C=true) (b:N7 a (l2.map enc)) {K:List (List AV)->Prop} (H:K ((l++l2).map enc)) :
  ((l.map enc).length+a.length)*B<=C/\∃q,N7 (l.map enc++a) q/\K q:=by
 have c:=(mJ b).1;rw[AN] at c;refine⟨?_,_,ln b,H⟩;rw[AN,c];exact AQ d
def rH {α:Type} {enc:α->List AV} (l:List α) (n:Nat):N7 ((l.map enc).drop n) ((l.drop n).map enc):=by
 rw[List.map_drop];exact X9 _
def w4 {a:Int} {B:Int} {z:List AV} {x:α} (b:(decide (0<=a) && decide (a<=140737488355328) && decide (a*B<=140737488355328))=true) (c:dR z (enc x)) {K:List (List AV)->Prop} (H:K ((AJ a.toNat x).map enc)) :
  a=a/\0<=a/\a<=140737488355328/\a*B<=140737488355328/\∃q,N7 (AJ a.toNat z) q/\K q:=by
 simp only[A7,Al] at b;exact⟨rfl,b.1.1,b.1.2,b.2,_,tI c,H⟩
def um {l:List α} {b:Int} {X Y c:Prop} (a:(decide (0<=b) && decide (b<=(l.length:Int)))=true) (d:X) (g:Y) {K:List (List AV)->Prop} (H:K ((l.drop b.toNat).map enc)) :
  X/\Y/\0<=b/\b<=((l.map enc).length:Int)/\(c\/∀q,q=(l.map enc).drop b.toNat->K q):=by
 simp only[A7,Al] at a;refine⟨d,g,a.1,by rw[AN];exact a.2,.inr fun q e=>?_⟩;rw[e,<-List.map_drop];exact H
end
def pq {s:ByteArray} {i:Int} {u:UInt8} (h:hA s i=some u) {K:UInt8->Prop} (H:K u):0<=i/\i<(s.size:Int)/\∀u,s[i.toNat]?=some u->K u:=by
 unfold hA at h;by_cases a:0<=i
 ·rw[Ak a] at h;have h:s[i.toNat]?=some u:=h;have d:i.toNat<s.size:=by
   rcases Nat.lt_or_ge i.toNat s.size with b|b
   ·exact b
   ·rw[getElem?_neg s i.toNat d9] at h;cases h
  exact⟨a,d9,fun e c=>by rw[h] at c;cases c;exact H⟩
 ·rw[Aj a] at h;cases h
def vo {a b:Int} (c:0<b) (e:b<=4611686018427387904) {K:Prop} (H:K):b≠0/\C9 (a.tmod b)/\K:=by
 refine⟨d9,?_,H⟩;unfold C9;have g:=Int.tmod_lt_of_pos a c;have d:=Int.tmod_lt_of_pos (-a) c;rw[Int.neg_tmod] at d;omega
def vp {l:List Int} {s:ByteArray} {C:Nat} (a:AE (l.length+s.size) C=true) {K:List (List AV)->Prop} (H:K ((l++O8 s).map fun n=>[AV.ik .u8 n])) :
  (l.map fun n=>[AV.ik .u8 n]).length+s.size<=C/\∃q,N7 (l.map (fun n=>[AV.ik .u8 n])++(O8 s).map fun n=>[AV.ik .u8 n]) q/\K q :=
 ⟨by rw[AN];exact AQ a,_,X9 _,by rw[<-List.map_append];exact H⟩
def eE {p:Prop} [Decidable p] (h:decide p=true) {K:Prop} (H:K):p/\K:=⟨of_decide_eq_true h,H⟩
def tn {α:Type} {l:List α} {k:Nat} (h:[]=l.drop k):decide ((k:Int)<(l.length:Int))=false:=by
 have:=List.drop_eq_nil_iff.1 h.symm;exact Aj d9
def fR {α:Type} {l r:List α} {k:Nat} {x:α} (h:x::r=l.drop k):l[k]?=some x/\r=l.drop (k+1)/\decide ((k:Int)<(l.length:Int))=true:=by
 have a:(l.drop k)[0]?=some x:=by rw[<-h];rfl
 rw[Aa] at a;have a:l[k]?=some x:=a;refine⟨a,?_,Ak (by have:=(AB.1 a).1;omega)⟩;have:=congrArg List.tail h;rw[List.tail_drop] at this;exact this
def V3 {α:Type} {l:List α} {k:Nat} {x:α} (h:l[k]?=some x) (a:l.length<=maxLen):C9 ((k:Int)+1):=tP (AB.1 h).1 a
def ve {n:Int} {k:Nat} (h:0=(n-k).toNat):decide ((k:Int)<n)=false:=Aj d9
def ny {n:Int} {k m:Nat} (h:m+1=(n-k).toNat):m=(n-((k+1:Nat):Int)).toNat/\decide ((k:Int)<n)=true:=⟨d9,Ak d9⟩
def fq {n:Int} {k:Nat} (h:decide ((k:Int)<n)=true) (a:bH [.int n]):C9 ((k:Int)+1):=by
 have h:=of_decide_eq_true h;have a:C9 n:=a.1;exact⟨d9,by have:=a.2;omega⟩
section
variable {P:Program} {Γ:H9}
theorem j4.po {c:Code} {ts:Ts} {os:Os} {Q:Qt} {id:Nat} (h:j4 P Γ c ts os fun e d b=>match e with
  |.normal=>Q .normal d b
  |.exit k=>match A4 k id with
   |true=>Q .normal d b
   |false=>Q (.exit k) d b
  |.ret=>Q .ret d b):j4 P Γ (.block id c) ts os Q:=by
 refine⟨fun a w r=>wp_block (wp_mono (h.run a w r) fun e s w' ⟨ex,d,b,n,g,l⟩=>?_)⟩
 match e,ex,n,g with
 |.normal,.normal,_,g=>exact⟨.normal,d,b,trivial,g,l⟩
 |.exit i,.exit j,n,g =>
  have o:i=j:=n;subst o;simp only at g;split at g
  ·rename_i m;have q:=A9 m;simp only[Exit.inBlock,Ag q];exact⟨.normal,d,b,trivial,g,l⟩
  ·rename_i m;have p:¬i=id:=fun e=>by rw[e] at m;simp at m
   simp only[Exit.inBlock,Af p];exact⟨.exit i,d,b,rfl,g,l⟩
 |.ret,.ret,_,g=>exact⟨.ret,d,b,trivial,g,l⟩
theorem j4.j8 {c:Code} {ts:Ts} {os:Os} {Q:Qt} {b:Nat} (h:∀a:Qt,(∀ts os,Q .normal ts os->a .normal ts os)->(∀ts os,Q .normal ts os->a (.exit b) ts os)->(∀id ts os,A4 id b=false->Q (.exit id) ts os->a (.exit id) ts os)->(∀ts os,Q .ret ts os->a .ret ts os)->j4 P Γ c ts os a):j4 P Γ (.block b c) ts os Q :=
 j4.po (h _ (fun _ _ h=>h) (fun _ _ h=>by simpa using h) (fun id _ _ d h=>by simp only[d];exact h) (fun _ _ h=>h))
def JQ {ι:Type} (St:ι->Ts) (a:ι->Os) (p:ι->Prop):Qt:=fun _ ts os=>∃i b,p i/\X5 ts os (St i) (a i) b
theorem j4.fK {ι:Type} (St:ι->Ts) (k:ι->Os) {c:Code} {ts:Ts} {os:Os} {Q:Qt} (h:∀j:Qt,(∀d b,K7 Γ d b (JQ St k fun _=>True)->j .normal d b)->(∀id ts os,Q (.exit id) ts os->j (.exit id) ts os)->(∀ts os,Q .ret ts os->j .ret ts os)->j4 P Γ c ts os j)
  (s:∀i,((St i).all fun p=>AH p.1 Γ.n)=true) (q:∀i,Q .normal (St i) (k i)):j4 P Γ c ts os Q :=
by
 have h:=h (fun e d b=>match e with
  |.normal=>K7 Γ d b (JQ St k fun _=>True)
  |.exit id=>Q (.exit id) d b
  |.ret=>Q .ret d b) (fun _ _ h=>h) (fun _ _ _ h=>h) (fun _ _ h=>h)
 refine⟨fun a w t=>wp_mono (h.run a w t) fun e o w' ⟨ex,d,b,l,g,m⟩=>?_⟩;cases ex with
 |normal =>
  obtain⟨x,v,⟨i,y,_,u⟩,r⟩:=K7.run g o w' m;exact⟨.normal,_,_,l,q i,u.rel (s i) r⟩
 |exit id=>exact⟨.exit id,d,b,l,g,m⟩
 |ret=>exact⟨.ret,d,b,l,g,m⟩
def mn : Ts->Ts->Prop
 |[],_=>True
 |(t,a)::r,ts=>lk ts t=some a/\mn r ts
theorem oK {ts:Ts}:∀{a:Ts},mn a ts->∀t x,lk a t=some x->lk ts t=some x
 |(k,y)::r,h,t,x,hl=>by
  rw[j5] at hl;split at hl
  ·rename_i e;subst e;cases hl;exact h.1
  ·exact oK h.2 t x hl
theorem l9.aK {ts h:Ts} {os g:Os} {a:Act} {w:World} (q:mn h ts) (p:eG g os) (s:l9 Γ ts os a w):l9 Γ h g a w:=by
 obtain⟨c,⟨j,k,l,m,d⟩,n⟩:=s;have e:=iK p;exact⟨c,⟨j,k,fun t x i=>l t x (oK q t x i),m.sub e,⟨d.bQ,d.tape,d.output,d.size,d.aX,d.aV,d.aK,fun id o b i r=>d.ab _ _ b (e id o i) r⟩⟩,n⟩
def fm {tab:E5} {b:List ResultVar} {ts:Ts} {os:Os} {av:AV} {upd:Os} {news:List Nat} {a:List (Nat×Nat)} {r:List AV} (c:fl tab ts os b=some r:=by rfl) (d:hJ (nC r) (av.ar (rn a)):=by repeat (first|exact trivial|exact rfl|(refine A5 ?_ ?_))) (e:gm (rn a) os upd:=by repeat (first|exact trivial|exact rfl|(refine A5 ?_ ?_)))
  (g:j2 (rn a) upd=true:=by rfl) (h:ju a=true:=by rfl) (j:(upd.all fun p=>news.elem p.1 || AE Go.Proofs.YtibjcppjfkamhaaDoor.top p.1)=true:=by rfl) (k:(av.ids.all fun i=>(lk upd i).isSome || AE Go.Proofs.YtibjcppjfkamhaaDoor.top i)=true:=by rfl)
  (l:(upd.all fun p=>p.2.ids.all fun i=>(lk upd i).isSome || AE Go.Proofs.YtibjcppjfkamhaaDoor.top i)=true:=by rfl):Fin tab b ts os av upd news a r:=⟨c,d,e,g,h,j,k,l⟩
section
variable {os:Os} {K:Kt} {f:Nat} {ins ins':List AV} {need upd:Os} {news:List Nat} {av:AV}
def cA (h:Spec P f need ins' av upd news) (b:K av (need.map (·.1)) news upd) (a:cn ins ins':=by repeat (first|exact trivial|exact rfl|(refine A5 ?_ ?_))) (d:eG need os:=by repeat (first|exact trivial|exact rfl|(refine A5 ?_ ?_))) (c:(need.all fun p=>eP news p.2.ids)=true:=by rfl):dN P f ins os K:=dN.a_ h a d c b
def cF (h:Spec P f need ins' av upd news) (b:K av (((J5 os ins).2++need).map (·.1)) news (upd++C8 (J5 os ins).2)) (a:cn (J5 os ins).1 ins':=by repeat (first|exact trivial|exact rfl|(refine A5 ?_ ?_))) (d:eG need os:=by repeat (first|exact trivial|exact rfl|(refine A5 ?_ ?_))) (hd:(need.all fun p=>(lk (J5 os ins).2 p.1).isNone)=true:=by rfl)
  (c:(need.all fun p=>eP news p.2.ids)=true:=by rfl):dN P f ins os K:=dN.fz h a d hd c b
end
theorem j4.dn {ι:Type} (St:ι->Ts) (l:ι->Os) (m:ι->Nat) {c:Code} {ts:Ts} {os:Os} {Q:Qt} (v:ι) (E:List (Nat×Nat)) (J:X5 ts os (St v) (l v) E) (H:∀i,((St i).all fun p=>AH p.1 Γ.n)=true)
  (S:∀i,∀t:Qt,(∀d b,K7 Γ d b (JQ St l fun j=>m j<m i)->t .normal d b)->(∀id ts os,Q (.exit id) ts os->t (.exit id) ts os)->(∀ts os,Q .ret ts os->t .ret ts os)->j4 P Γ c (St i) (l i) t):j4 P Γ (.loop c) ts os Q:=by
 have D:∀i,j4 P Γ c (St i) (l i) fun e d b=>match e with
   |.normal=>K7 Γ d b (JQ St l fun j=>m j<m i)
   |.exit id=>Q (.exit id) d b
   |.ret=>Q .ret d b:=fun i=>S i _ (fun _ _ h=>h) (fun _ _ _ h=>h) (fun _ _ h=>h)
 refine⟨fun a w r=>?_⟩;let I:Act->World->Prop:=fun a w=>∃i,l9 Γ (St i) (l i) a w;have A:I a w:=⟨v,J.rel (H v) r⟩;have o:∀a w,∃n,I a w->(∃i,m i=n/\l9 Γ (St i) (l i) a w)/\∀i,l9 Γ (St i) (l i) a w->n<=m i:=by
  intro a w;by_cases u:I a w
  ·obtain⟨i,N⟩:=u;obtain⟨n,⟨j,G,z⟩,L⟩:=exists_least (p:=fun n=>∃i,m i=n/\l9 Γ (St i) (l i) a w) ⟨m i,i,rfl,N⟩;exact⟨n,fun _=>⟨⟨j,G,z⟩,fun k O=>L (m k) ⟨k,rfl,O⟩⟩⟩
  ·exact⟨0,fun h=>absurd h u⟩
 refine wp_loop I (fun a w=>Classical.choose (o a w)) A fun a w u=>?_;obtain⟨⟨i,G,z⟩,_⟩:=Classical.choose_spec (o a w) u;refine wp_mono ((D i).run a w z) fun e F w' ⟨ex,d,b,C,q,g⟩=>?_
 match e,ex,C,q with
 |.normal,.normal,_,q =>
  obtain⟨U,T,⟨j,V,R,s⟩,M⟩:=K7.run q F w' g;have B:=s.rel (H j) M;refine⟨⟨j,B⟩,?_⟩;have:=(Classical.choose_spec (o F w') ⟨j,B⟩).2 j B;omega
 |.exit x,.exit y,C,q=>exact⟨.exit y,d,b,C,q,g⟩
 |.ret,.ret,_,q=>exact⟨.ret,d,b,trivial,q,g⟩
def aT {P:Prop} (h:P:=by repeat (first|exact trivial|exact rfl|(refine A5 ?_ ?_))):P:=h
def oI {α:Type} {a b:α} (h:some a=some b):a=b:=Option.some.inj h
mutual
def AV.fJ (id sz:Nat) (ls:List (List AV)):AV->AV
 |.aF j=>bif A4 j id then .sl sz ls else .aF j
 |.fn f b=>.fn f (AV.bJ id sz ls b)
 |.agg b=>.agg (AV.bJ id sz ls b)
 |.aS b=>.aS (AV.bJ id sz ls b)
 |a=>a
def AV.bJ (id sz:Nat) (ls:List (List AV)):List AV->List AV
 |[]=>[]
 |a::l=>a.fJ id sz ls::AV.bJ id sz ls l
end
mutual
theorem Rd.fJ {c c':Ctx} {w:World} {id sz:Nat} {ls:List (List AV)} (b:∀v a,Rd c w v a->Rd c' w v a) (g:∀v,Rd c w v (.aF id)->Rd c' w v (.sl sz ls)):∀(a:AV) {v:Value},Rd c w v a->Rd c' w v (a.fJ id sz ls)
 |.aF j,v,h=>by
  unfold AV.fJ;cases i:A4 j id
  ·exact b _ _ h
  ·have:=A9 i;subst this;exact g v h
 |.fn f d,v,h=>by
  obtain⟨us,rfl,e⟩:=h.hC;exact .fn (l6.bJ b g d e)
 |.agg d,v,h=>by
  obtain⟨us,rfl,e⟩:=h.bI;exact .agg (l6.bJ b g d e)
 |.aS d,v,h=>by
  obtain⟨us,rfl,e⟩:=h.cf;exact .aS (l6.bJ b g d e)
 |.any,_,h=>b _ _ h
 |.int _,_,h=>b _ _ h
 |.ik _ _,_,h=>b _ _ h
 |.bool _,_,h=>b _ _ h
 |.str _,_,h=>b _ _ h
 |.sl _ _,_,h=>b _ _ h
 |.ptr _ _,_,h=>b _ _ h
 |.fp _,_,h=>b _ _ h
 |.bZ _ _,_,h=>b _ _ h
 |.br _ _ _,_,h=>b _ _ h
 |.ep _ _ _ _,_,h=>b _ _ h
 |.aC,_,h=>b _ _ h
 |.cW _,_,h=>b _ _ h
 |.aO,_,h=>b _ _ h
 |.aG,_,h=>b _ _ h
 |.mp _,_,h=>b _ _ h
 |.bF _,_,h=>b _ _ h
 |.np _,_,h=>b _ _ h
 |.ba _,_,h=>b _ _ h
 |.aU _,_,h=>b _ _ h
theorem l6.bJ {c c':Ctx} {w:World} {id sz:Nat} {ls:List (List AV)} (e:∀v a,Rd c w v a->Rd c' w v a) (d:∀v,Rd c w v (.aF id)->Rd c' w v (.sl sz ls)):∀(b:List AV) {vs:List Value},l6 c w vs b->l6 c' w vs (AV.bJ id sz ls b)
 |[],_,.nil=>.nil
 |a::b,_,.cons h t=>.cons (Rd.fJ e d a h) (l6.bJ e d b t)
end
def Obj.qM (id sz:Nat) (ls:List (List AV)):Obj->Obj
 |.box a e=>.box (AV.bJ id sz ls a) e
 |o=>o
def gq (id sz:Nat) (ls:List (List AV)):Ts->Ts
 |[]=>[]
 |(t,a)::r=>(t,a.fJ id sz ls)::gq id sz ls r
def fi (id sz:Nat) (ls:List (List AV)):Os->Os
 |[]=>[]
 |(k,o)::r=>(k,o.qM id sz ls)::fi id sz ls r
theorem pZ (id sz:Nat) (ls:List (List AV)) (t:Nat):∀ts:Ts,lk (gq id sz ls ts) t=(lk ts t).map (AV.fJ id sz ls)
 |[]=>rfl
 |(k,a)::r=>by
  rw[gq,j5,j5,pZ id sz ls t r];split<;>rfl
theorem pW (id sz:Nat) (ls:List (List AV)) (t:Nat):∀ts:Os,lk (fi id sz ls ts) t=(lk ts t).map (Obj.qM id sz ls)
 |[]=>rfl
 |(k,a)::r=>by
  rw[fi,j5,j5,pW id sz ls t r];split<;>rfl
theorem l9.bB {ts:Ts} {os:Os} (id:Nat) {sz e:Nat} {ls:List (List AV)} (E:lk os id=some (.row sz ls e)) {a:Act} {w:World} (H:l9 Γ ts os a w):l9 Γ (gq id sz ls ts) ((id,.aH)::fi id sz ls os) a w:=by
 obtain⟨j,⟨R,S,T,C,U⟩,V⟩:=H;have k:∀i o,lk [(id,Obj.row sz ls e)] i=some o->lk os i=some o:=fun i o g=>by
  rw[j5] at g;split at g
  ·rename_i e1;subst e1;cases g;exact E
  ·cases g
 have p:=C.sub k;have N:=aE.freeze p;have n:F7 (j.fz [(id,.row sz ls e)]) w (C8 [(id,.row sz ls e)]++os):=C.frame k N (fun _ h=>(by cases h)) (fun _ _ _ _ _ h=>(by cases h));have M:∀v a,Rd j w v a->Rd (j.fz [(id,.row sz ls e)]) w v a:=fun v a H=>Rd.mono (c:=j) (c':=j.fz [(id,.row sz ls e)]) (fun _ _=>rfl) (fun _ h=>Or.inl h) (fun _ _=>⟨rfl,rfl⟩) H;have L:∀v,Rd j w v (.aF id)->Rd (j.fz [(id,.row sz ls e)]) w v (.sl sz ls):=fun v X=>k4 p (j3 _ _ _) X;have l:∀i o,lk ((id,Obj.aH)::fi id sz ls os) i=some o->∃m,lk (C8 [(id,Obj.row sz ls e)]++os) i=some m/\(∀b,aI (j.fz [(id,.row sz ls e)]) i o b↔aI (j.fz [(id,.row sz ls e)]) i m b)/\X4 (j.fz [(id,.row sz ls e)]) w i o:=fun i o g=>by
  have W:=g;rw[j5] at g;split at g
  ·rename_i e1;subst e1;cases g;exact⟨.aH,by simp[C8,j3],fun _=>Iff.rfl,trivial⟩
  ·rename_i e1;rw[pW] at g;obtain⟨m,z,rfl⟩:=AX.1 g;have u:lk (C8 [(id,Obj.row sz ls e)]++os) i=some m:=by simp only[C8,List.cons_append,List.nil_append];rw[E9 _ _ e1];exact z
   have A:=n.rep i m u;refine⟨m,u,fun b=>?_,?_⟩
   ·cases m<;>exact Iff.rfl
   ·cases m with
    |box Q e2 =>
     obtain⟨us,I,J⟩:=C.rep i _ z;exact⟨us,I,l6.bJ M L Q J⟩
    |_=>exact A
 refine⟨j.fz [(id,.row sz ls e)],⟨R,S,fun t x g=>?_,⟨fun i o g=>?_,fun i o b g s=>?_,fun i O o m b G g F s D=>?_,n.aX⟩,?_⟩,V⟩
 ·rw[pZ] at g;obtain⟨y,Z,rfl⟩:=AX.1 g;obtain⟨v,I,J⟩:=T t y Z;exact⟨v,I,Rd.fJ M L y J⟩
 ·obtain⟨_,_,_,h⟩:=l i o g;exact h
 ·obtain⟨B,q,r,_⟩:=l i o g;exact n.lt i B b q ((r b).1 s)
 ·obtain⟨B,q,r,_⟩:=l i o g;obtain⟨o2,k1,k2,_⟩:=l O m F;exact n.sep i O B o2 b G q k1 ((r b).1 s) ((k2 b).1 D)
 ·have d:Inv Γ (j.fz [(id,.row sz ls e)]) w (C8 [(id,.row sz ls e)]++os):=U.post C k N (fun _ h=>(by cases h)) (fun _ _ _ _ x Y=>(by cases Y));exact⟨d.bQ,d.tape,d.output,d.size,d.aX,d.aV,d.aK,fun i o b g s=>by
   obtain⟨B,q,r,_⟩:=l i o g;exact d.ab i B b q ((r b).1 s)⟩
theorem j4.bB {c:Code} {ts:Ts} {os:Os} {Q:Qt} (id:Nat) {sz e:Nat} {ls:List (List AV)} (b:lk os id=some (.row sz ls e)) (h:j4 P Γ c (gq id sz ls ts) ((id,.aH)::fi id sz ls os) Q):j4 P Γ c ts os Q :=
 ⟨fun a w d=>h.run a w (d.bB id b)⟩
theorem K7.bB {ts:Ts} {os:Os} {Q:Qt} (id:Nat) {sz e:Nat} {ls:List (List AV)} (b:lk os id=some (.row sz ls e)) (h:K7 Γ (gq id sz ls ts) ((id,.aH)::fi id sz ls os) Q):K7 Γ ts os Q :=
 ⟨fun a w c=>h.run a w (c.bB id b)⟩
theorem K7.bV {ts:Ts} {os:Os} {Q:Qt} (t id sz e:Nat) (d:lk ts t=some .aC) (b:y8 [id] ts=true) (c:y9 [id] [(id,.row sz [] e)] os=true) (h:K7 Γ ((t,.aF id)::ts) ((id,.row sz [] e)::os) Q):K7 Γ ts os Q :=
 ⟨fun a w g=>h.run a w (g.bV t id sz e d b c)⟩
end
section
open Go.ChangeShapes Go.WideShapes Go.ChangeAt Go.RowKit Go.Deep
def j1 (W:World):Ctx:=⟨fun b=>b<W.heap.size,fun _=>0,fun _=>undef⟩
theorem Spec.law {P:Program} {f:Nat} {ins:List AV} (hS:Spec P f [] ins (.bool true) [] []) {W:World} {args:Array Value} (h:l6 (j1 W) W args.toList ins) :
  Calls P f args W fun e d=>e=.returned (.bool true)/\Below W.heap.size W d:=by
 have c:∀(id:Nat) (o:Obj),lk ([]:Os) id=some o->False:=fun id o h=>by cases h
 refine(hS.2.2 (j1 W) W args ⟨fun id o h=>(c id o h).elim,fun id o b h=>(c id o h).elim,fun id l o m b _ h=>(c id o h).elim,fun b g=>g⟩ h).mono ?_;rintro e d ⟨v,c',rfl,a,j⟩;exact⟨by rw[j.ai],a.bQ,a.tape,a.output,a.size,fun k i=>a.aK k i fun⟨id,o,h,_⟩=>c id o h⟩
def cO (n:Int):Prop:=C9 n
def hQ (s:ByteArray):Prop:=s.size<=maxLen
def okB (_:Bool):Prop:=True
def dG {b:Type} (ok:b->Prop) (l:List b):Prop:=l.length<=maxLen/\∀a∈l,ok a
def V8 (_:Int):Nat:=1
def eI (s:ByteArray):Nat:=s.size+1
def sn (_:Bool):Nat:=1
def Y6 {a:Type} (bk:a->Nat) (l:List a):Nat:=(l.map bk).sum+1
def lf {b:Type} (bk:b->Nat) (a:b) (l:List b):Y6 bk (a::l)=bk a+Y6 bk l:=by simp only[Y6,AO,List.sum_cons];omega
def gX {b:Type} {bk:b->Nat} (h:∀a,1<=bk a) (l:List b):l.length+1<=Y6 bk l:=by
 induction l with
 |nil=>simp[Y6]
 |cons a l ih=>rw[lf,AY];have:=h a;omega
def mH {b:Type} {bk:b->Nat} {l:List b} {a:b} (h:a∈l):bk a+1<=Y6 bk l:=by
 induction l with
 |nil=>cases h
 |cons x l ih =>
  rw[lf];rcases AF.1 h with rfl|h
  ·simp only[Y6];omega
  ·have:=ih h;omega
def rL {H:Type} {l:List (DataW H)} (h:Rows.uptoSmall H l=true):Rows.uptoBulkAll l<=1048576:=of_decide_eq_true h
structure w9 (P:Program) (t:TypeId) (sz:Nat) {α:Type} (enc:α->List AV) (ok:α->Prop) (bk:α->Nat):Prop where
 out:∀{H:Type} {eH:TypeId×Value->H} {w:World} {sp:Nat->Bool} {held:Bool} {fuel:Nat} {cs:List Value} {x:DataW H×List MemPlace},DataW.trod eH P w 0 sp held fuel t cs=some x ->
  ∃a:α,o8 (fun b=>b<w.heap.size) w cs (enc a)/\cs.length=sz/\(∀u∈cs,u.oneCell'=true)/\ok a/\bk a<=Rows.uptoBulk x.1
section
variable {P:Program}
theorem w9.int {t:TypeId} (b:P.underlying t=some (.int .i64)):w9 P t 1 bg cO V8:=⟨fun h=>by
 obtain⟨n,rfl,rfl,c⟩:=DataW.trod_int b h;have a:C9 n:=by
  have:IntKind.i64.min<=n/\n<=IntKind.i64.max:=by simpa[Lit.wf] using c
  exact this
 exact⟨n,.cons (.int a) .nil,rfl,by simp[Value.oneCell'],a,AA _⟩⟩
theorem w9.str {t:TypeId} (b:P.underlying t=some .string):w9 P t 1 gr hQ eI:=⟨fun h=>by
 obtain⟨s,rfl,rfl,a⟩:=DataW.trod_string b h;exact⟨s,.cons (.str a) .nil,rfl,by simp[Value.oneCell'],a,by simp[eI,Rows.uptoBulk]⟩⟩
theorem w9.bool {t:TypeId} (a:P.underlying t=some .bool):w9 P t 1 (fun b:Bool=>[AV.bool b]) okB sn:=⟨fun h=>by
 obtain⟨b,rfl,rfl⟩:=DataW.trod_bool a h;exact⟨b,.cons (.bool b) .nil,rfl,by simp[Value.oneCell'],trivial,AA _⟩⟩
def iQ {w:World} {b o:Nat} {v:Value} (h:w.cell? ⟨b,o,none⟩=some v):b<w.heap.size:=by
 unfold World.cell? at h;cases a:w.heap[b]? with
 |none=>rw[a] at h;cases h
 |some x=>exact(Array.getElem?_eq_some_iff.1 a).1
theorem qA {H a:Type} (bk:a->Nat):∀(n:Nat) (g:_root_.Fin n->a) (D:Nat->DataW H),(∀i:_root_.Fin n,bk (g i)<=Rows.uptoBulk (D i))->((List.ofFn g).map bk).sum<=Rows.uptoBulkAll ((List.range n).map D)
 |0,g,D,_=>o7
 |n+1,g,D,h=>by
  have ih:=qA bk n (fun i=>g i.succ) (fun i=>D (i+1)) (fun i=>by simpa using h i.succ);have b:=h 0;rw[List.ofFn_succ,List.range_succ_eq_map];simp only[AO,List.sum_cons,List.map_map,Rows.uptoBulkAll];have e:(D∘Nat.succ)=fun i=>D (i+1):=rfl;rw[e];have c:bk (g 0)<=Rows.uptoBulk (D 0):=b;omega
theorem w9.slice {t e:TypeId} {sz:Nat} {z:Type} {enc:z->List AV} {ok:z->Prop} {bk:z->Nat} (ht:P.underlying t=some (.slice e)) (hc:P.cellsOf e=sz) (X:0<sz) (L:w9 P e sz enc ok bk) :
  w9 P t 1 (fun l:List z=>[AV.sl sz (l.map enc)]) (dG ok) (Y6 bk):=⟨fun {H eH w sp V fuel d x} h=>by
 rcases open_slice ht h with⟨rfl,rfl⟩|⟨a,len,cap,m,n,D,Pl,rfl,hb,hl,W,N,rfl,M⟩
 ·refine⟨[],.cons ?_ .nil,rfl,by simp[Value.oneCell'],⟨by simp[maxLen],o7⟩,by simp[Y6,Rows.uptoBulk]⟩;exact Rf.sl (A:=none) (c:=0) (ls:=[]) (fun _=>[]) 0 0 o7 (by simp[maxLen]) (fun h=>absurd h o7) (fun i d h=>by simp at h) (fun i d h=>by simp at h) (fun i d h=>by simp at h) (fun i d h=>by simp at h)
 ·have hlm:len<=m:=by rw[N];split<;>omega
  have r:∀i:_root_.Fin len,∃y:z,(∃d:List Value,(o8 (fun b=>b<w.heap.size) w d (enc y)/\d.length=sz/\∀u∈d,u.oneCell'=true)/\∀(j:Nat) (u:Value),d[j]?=some u->w.cell? ((a.add (i*sz)).add j)=some u)/\ok y/\bk y<=Rows.uptoBulk (D i):=by
   intro i;obtain⟨I,C,R⟩:=M i d9;obtain⟨y,T,S,B,aA,J⟩:=L.out R;rw[hc] at C;obtain⟨_,p,k⟩:=World.cells?_some C;refine⟨y,⟨I,⟨T,S,B⟩,fun j u E=>?_⟩,aA,J⟩;rw[k j (by rw[<-p];exact(AB.1 E).1),E]
  let g:_root_.Fin len->z:=fun i=>(r i).choose;have v:=fun i=>(r i).choose_spec;have p:(List.ofFn g).length=len:=o7;have get:∀(i:Nat) (d:List AV),((List.ofFn g).map enc)[i]?=some d->∃M:i<len,d=enc (g ⟨i,M⟩):=by
   intro i d h;rw[AZ,AX] at h;obtain⟨y,B,Z⟩:=h;obtain⟨f,e1⟩:=AB.1 B;simp only[List.length_ofFn] at f;exact⟨f,by rw[<-Z,<-e1];simp⟩
  have Q:0<len->∃b o,a=⟨b,o,none⟩/\b<w.heap.size:=by
   intro O;obtain⟨⟨d,⟨T,S,_⟩,k⟩,_⟩:=v ⟨0,O⟩;have q:=k 0 d[0] (A8 d9);have B:((a.add (0*sz)).add 0)=a:=by simp[Addr.add]
   simp only at q;rw[B] at q;have G:a.spot=none:=by
    unfold World.cell? at q;split at q
    ·cases G:a.spot with
     |none=>rfl
     |some s=>rw[G] at q;simp at q
    ·cases q
   obtain⟨b,o,s⟩:=a;simp only at G;subst G;exact⟨b,o,rfl,iQ q⟩
  refine⟨List.ofFn g,.cons ?_ .nil,rfl,by simp[Value.oneCell'],⟨by rw[p];omega,fun y hy=>?_⟩,?_⟩
  ·have F:len=((List.ofFn g).map enc).length:=o7;by_cases O:0<len
   ·obtain⟨b,o,U,K⟩:=Q O
    suffices key:Rf (fun b=>b<w.heap.size) w (.slice (some a) ((List.ofFn g).map enc).length cap) (.sl sz ((List.ofFn g).map enc)) by
     rw[<-F] at key;exact key
    refine Rf.sl (fun i=>if h:i<len then(v ⟨i,h⟩).1.choose else[]) b o (by rw[<-F];exact hl) W (fun _=>⟨by rw[U],K⟩) (fun i d h=>?_) (fun i d h j u E=>?_) (fun i d h=>?_) (fun i d h u Y=>?_)<;>obtain⟨f,rfl⟩:=get i d h
    ·rw[dif_pos f];exact(v ⟨i,f⟩).1.choose_spec.1.2.1
    ·rw[dif_pos f] at E;have:=(v ⟨i,f⟩).1.choose_spec.2 j u E;rw[U] at this;simpa only[Q5] using this
    ·rw[dif_pos f];exact(v ⟨i,f⟩).1.choose_spec.1.1
    ·rw[dif_pos f] at Y;exact(v ⟨i,f⟩).1.choose_spec.1.2.2 u Y
   ·have q:len=0:=d9;subst q;have e0:((List.ofFn g).map enc)=[]:=o7;rw[e0];exact Rf.sl (A:=some a) (c:=cap) (ls:=[]) (fun _=>[]) 0 0 o7 W (fun h=>absurd h o7) (fun i d h=>by simp at h) (fun i d h=>by simp at h) (fun i d h=>by simp at h) (fun i d h=>by simp at h)
  ·obtain⟨i,rfl⟩:=List.mem_ofFn.1 hy;exact(v i).2.1
  ·have:=qA bk len g D fun i=>(v i).2.2;simp only[Y6,Rows.uptoBulk];omega⟩
end
def tm {c:Ctx} {w:World} {v:Value} {a:AV} (h:o8 c.Φ w [v] [a]):Rd c w v a:=by
 cases h with|cons h _=>exact .fz h
def uW {c:Ctx} {w:World} {b:Array Value} {a:List AV} (h:o8 c.Φ w b.toList a):Rd c w (.agg b) (.agg a):=by
 have:=Rf.agg h;simp only[Array.toArray_toList] at this;exact .fz this
end
section
variable {Γ:H9}
def r7 {a:Type} {l:List a} {k:Nat} {x:a} (h:l[k]?=some x):l.set k x=l:=by
 apply AW;intro j;rw[AM];split
 ·rename_i e;subst e;split
  ·exact h.symm
  ·rw[AT d9]
 ·rfl
theorem o8.gD {Φ:Nat->Prop} {w:World}:∀{vs:List Value} {b:List AV},o8 Φ w vs b->∀(n:Nat) {v:Value} {a:AV},vs[n]?=some v->Rf Φ w v a->o8 Φ w vs (b.set n a)
 |_,_,.nil,n,_,_,h,_=>by simp at h
 |_,_,.cons h t,0,_,_,e,k=>by simp at e;subst e;exact .cons k t
 |_,_,.cons h t,n+1,_,_,e,k=>.cons h (o8.gD t n (by simpa using e) k)
theorem l9.eb {ts:Ts} {os:Os} (r i off j j':Nat) {sz e isz ie:Nat} {ls d:List (List AV)} {s:List AV} {v:Value} (hr:lk os r=some (.row sz ls e)) (hj:lk os j=some (.row isz d ie)) (L:lk os j'=some (.eqv j v))
  (Z:ls[i]?=some s) (ho:s[off]?=some (.aU v)) (g:A4 r j=false) (p:A4 r j'=false) (q:A4 j j'=false) {a:Act} {w:World} (C:l9 Γ ts os a w) :
  l9 Γ ts ((r,.row sz (ls.set i (s.set off (.sl isz d))) e)::(j,.aH)::(j',.aH)::os) a w:=by
 have g:=M6 g;have p:=M6 p;have q:=M6 q;refine l9.ghost (need:=[(r,.row sz ls e),(j,.row isz d ie),(j',.eqv j v)]) (upd:=[(r,.row sz (ls.set i (s.set off (.sl isz d))) e),(j,.aH),(j',.aH)]) (news:=[]) [] C ⟨hr,hj,L,trivial⟩ rfl rfl rfl fun c aA=>?_;have G:lk [(r,Obj.row sz ls e),(j,.row isz d ie),(j',.eqv j v)] r=some (.row sz ls e):=j3 _ _ _;have D:lk [(r,Obj.row sz ls e),(j,.row isz d ie),(j',.eqv j v)] j=some (.row isz d ie):=by rw[E9 _ _ g,j3]
 have O:lk [(r,Obj.row sz ls e),(j,.row isz d ie),(j',.eqv j v)] j'=some (.eqv j v):=by rw[E9 _ _ p,E9 _ _ q,j3]
 have Y:∀x o,lk [(j,Obj.row isz d ie)] x=some o->lk [(r,Obj.row sz ls e),(j,.row isz d ie),(j',.eqv j v)] x=some o:=fun x o h=>by
  obtain⟨rfl,rfl⟩:=cc h;exact D
 have hv:c.hd j=v:=aA.rep j' _ O;have B:Rd c w v (.aF j):=by
  obtain⟨css,P,S,Q⟩:=aA.rep j _ D;obtain⟨A,cap,e1,V,W⟩:=P.head;rw[<-hv,e1];exact .aF (by rw[e1]) V W
 have N:Rf (c.fz [(j,.row isz d ie)]).Φ w v (.sl isz d):=(k4 (aA.sub Y) (j3 _ _ _) B).rf (by simp[AV.ids]);have E:∀id,(lk [(r,Obj.row sz (ls.set i (s.set off (.sl isz d))) e),(j,.aH),(j',.aH)] id).isSome=true↔id=r\/id=j\/id=j':=fun id=>by
  rw[j5,j5,j5];by_cases k:r=id<;>by_cases l:j=id<;>by_cases I:j'=id<;>simp[k,l,I,lk]<;>omega
 refine⟨c.fz [(j,.row isz d ie)],⟨rfl,rfl,rfl,AA _,fun b h=>.inl h,fun b J=>?_,fun _ _ _=>rfl,fun _ _=>⟨rfl,rfl⟩,⟨fun id o m=>?_,fun id o b m f=>?_,fun id id' o o' b z m M f K=>?_,fun b J=>?_⟩,fun id o b m f=>?_⟩,fun t' y hy=>(by cases hy)⟩
 ·rcases J with h|⟨id,o,k,l⟩
  ·exact .inl h
  ·obtain⟨rfl,rfl⟩:=cc k;exact .inr (.inr ⟨id,_,D,(E id).2 (.inr (.inl rfl)),l⟩)
 ·rcases bb m with⟨rfl,rfl⟩|⟨_,rfl,rfl⟩|⟨_,_,rfl,rfl⟩
  ·obtain⟨css,P,S,Q⟩:=aA.rep id _ G;refine⟨css,P,by simpa using S,fun n us H F t=>?_⟩;have T:∀{us:List Value} {U:List AV},o8 c.Φ w us U->o8 (c.fz [(j,.row isz d ie)]).Φ w us U:=fun h=>h.mono (fun _ _=>rfl) fun _ h=>.inl h;rw[AM] at t;split at t
   ·rename_i X;subst X;split at t
    ·cases t;have R:=Q i us s F Z;obtain⟨u,v1,v2⟩:=R.get ho;have F:u=v:=by cases v2;rfl
     subst F;exact(T R).gD off v1 N
    ·cases t
   ·exact T (Q n us H F t)
  ·trivial
  ·trivial
 ·rcases bb m with⟨rfl,rfl⟩|⟨_,rfl,rfl⟩|⟨_,_,rfl,rfl⟩
  ·have k:=aA.lt id _ b G f;refine⟨k.1,fun h=>?_⟩;rcases h with h|⟨x,o,l,I⟩
   ·exact k.2 h
   ·obtain⟨rfl,rfl⟩:=cc l;exact aA.sep id x _ _ b g G D f I
  ·exact f.elim
  ·exact f.elim
 ·rcases bb m with⟨rfl,rfl⟩|⟨_,rfl,rfl⟩|⟨_,_,rfl,rfl⟩<;>rcases bb M with⟨rfl,rfl⟩|⟨_,rfl,rfl⟩|⟨_,_,rfl,rfl⟩<;>first|exact z rfl|exact f.elim|exact K.elim
 ·rcases J with h|⟨id,o,k,l⟩
  ·exact aA.aX b h
  ·obtain⟨rfl,rfl⟩:=cc k;exact(aA.lt id _ b D l).1
 ·rcases bb m with⟨rfl,rfl⟩|⟨_,rfl,rfl⟩|⟨_,_,rfl,rfl⟩
  ·exact .inr ⟨id,_,G,(E id).2 (.inl rfl),f⟩
  ·exact f.elim
  ·exact f.elim
theorem j4.eb {P:Program} {c:Code} {ts:Ts} {os:Os} {Q:Qt} (r i off j j':Nat) {sz e isz ie:Nat} {ls m:List (List AV)} {d:List AV} {v:Value} (q:lk os r=some (.row sz ls e)) (o:lk os j=some (.row isz m ie)) (f:lk os j'=some (.eqv j v))
  (n:ls[i]?=some d) (p:d[off]?=some (.aU v)) (g:A4 r j=false) (k:A4 r j'=false) (l:A4 j j'=false) (h:j4 P Γ c ts ((r,.row sz (ls.set i (d.set off (.sl isz m))) e)::(j,.aH)::(j',.aH)::os) Q):j4 P Γ c ts os Q :=
 ⟨fun a w b=>h.run a w (b.eb r i off j j' q o f n p g k l)⟩
theorem l9.flat {ts:Ts} {os:Os} (t id k:Nat) {sz e isz ie:Nat} {l:List (List AV×List (List AV))} (C:lk ts t=some (.bF id)) (P:lk os id=some (.nest sz e isz ie l)) (R:A4 k id=false)
  (N:y8 [k] ts=true) (O:y9 [k] [(k,.row sz (cj isz l) e),(id,.aH)] os=true) {a:Act} {w:World} (G:l9 Γ ts os a w) :
  l9 Γ ((t,.aF k)::ts) ((k,.row sz (cj isz l) e)::(id,.aH)::os) a w:=by
 have R:=M6 R;refine l9.ghost (need:=[(id,.nest sz e isz ie l)]) (upd:=[(k,.row sz (cj isz l) e),(id,.aH)]) (news:=[k]) [(t,.aF k)] G ⟨P,trivial⟩ N O (by simp[j3]) fun c aA=>?_;have m:lk [(id,Obj.nest sz e isz ie l)] id=some (.nest sz e isz ie l):=j3 _ _ _;obtain⟨h,z,e1,W,h3,h4,h5⟩:=aA.rep id _ m;have inner:∀p∈cd z,∀b,p.1.v.ownBlock=some b->aI c id (.nest sz e isz ie l) b:=fun p j b d=>by
  refine⟨p.1.v,?_,d⟩;rw[e1];simp only[Y8,AF,AI];obtain⟨q,S,rfl⟩:=AI.1 j;exact .inr ⟨q,S,rfl⟩
 have f:∀b,h.v.ownBlock=some b->aI c id (.nest sz e isz ie l) b:=fun b d=>⟨h.v,by rw[e1];simp[Y8],d⟩;let s:Nat->Prop:=fun b=>c.Φ b\/∃p∈cd z,p.1.v.ownBlock=some b;let c':Ctx:={ (c.aB k h.v) with Φ:=s };have B:c'.hd k=h.v:=by simp[c',Ctx.aB]
 have r:∀b,aI c id (.nest sz e isz ie l) b->Touch c [(id,.nest sz e isz ie l)] [(k,.row sz (cj isz l) e),(id,.aH)] b:=fun b d=>⟨id,_,m,by rw[E9 _ _ R,j3];rfl,d⟩;have E:∀b,h.v.ownBlock=some b->¬s b:=by
  rintro b d (H|⟨p,j,H⟩)
  ·exact(aA.lt id _ b m (f b d)).2 H
  ·obtain⟨q,S,rfl⟩:=AI.1 j;exact h5 b q d S H
 refine⟨c',⟨rfl,rfl,rfl,AA _,fun b d=>.inl d,fun b d=>?_,fun _ _ _=>rfl,fun x H=>⟨rfl,?_⟩,⟨fun x o C=>?_,fun x o b C g=>?_,fun x x' o o' b D C Q g M=>?_,fun b d=>?_⟩,fun x o b C g=>?_⟩,fun t' y hy=>?_⟩
 ·rcases d with d|⟨p,j,d⟩
  ·exact .inl d
  ·exact .inr (.inr (r b (inner p j b d)))
 ·have:x≠k:=by simpa using H
  simp[c',Ctx.aB,this]
 ·rcases c8 C with⟨rfl,rfl⟩|⟨_,rfl,rfl⟩
  ·show F8 s w (c'.hd x) sz (cj isz l) e;rw[B];obtain⟨css,q1,q2,q3⟩:=h3;refine⟨css,q1,by rw[q2];simp only[cC,cj,AN,<-W],fun i us Y hu J=>?_⟩;have hz:∃p,z[i]?=some p/\Y=p.2.1++[.sl isz p.2.2]:=by
    rw[<-W] at J;simp only[cj,List.map_map] at J;rw[AZ,AX] at J;obtain⟨p,j,rfl⟩:=J;exact⟨p,j,rfl⟩
   obtain⟨p,j,rfl⟩:=hz;have ho:(cC z)[i]?=some (p.2.1++[.aU p.1.v]):=by simp[cC,j]
   have h0:=q3 i us _ hu ho;have F:(p.1,p.2.2)∈cd z:=AI.2 ⟨p,AP j,rfl⟩;obtain⟨V,r1,r2,r3⟩:=h4.1 _ F;have T:Rf s w p.1.v (.sl isz p.2.2):=r1.rf r2 r3 (fun _ d=>.inl d) fun b d=>.inr ⟨_,F,d⟩;have X:o8 s w us (p.2.1++[.aU p.1.v]):=h0.mono (fun _ _=>rfl) fun _ d=>.inl d;have L:(p.2.1++[AV.aU p.1.v])[p.2.1.length]?=some (.aU p.1.v):=o7;obtain⟨u,u1,u2⟩:=X.get L;have U:u=p.1.v:=by cases u2;rfl
   subst U;have:=X.gD p.2.1.length u1 T;simpa using this
  ·trivial
 ·rcases c8 C with⟨rfl,rfl⟩|⟨_,rfl,rfl⟩
  ·have g:h.v.ownBlock=some b:=by rw[<-B];exact g
   exact⟨(aA.lt id _ b m (f b g)).1,E b g⟩
  ·exact g.elim
 ·rcases c8 C with⟨rfl,rfl⟩|⟨_,rfl,rfl⟩<;>rcases c8 Q with⟨rfl,rfl⟩|⟨_,rfl,rfl⟩<;>first|exact D rfl|exact g.elim|exact M.elim
 ·rcases d with d|⟨p,j,d⟩
  ·exact aA.aX b d
  ·exact(aA.lt id _ b m (inner p j b d)).1
 ·rcases c8 C with⟨rfl,rfl⟩|⟨_,rfl,rfl⟩
  ·have g:h.v.ownBlock=some b:=by rw[<-B];exact g
   exact .inr (r b (f b g))
  ·exact g.elim
 ·obtain⟨rfl,rfl⟩:=lK hy;refine⟨_,C,fun v hv=>?_⟩;obtain⟨A,n,cap,vs,Z,I,e8,e9⟩:=hv.eg;rw[e1] at I;have K:h.v=.slice A n cap:=by
   injection I with I
   have:=congrArg (fun a:Array Value=>a.toList.head?) I;simpa using this
  rw[Z];exact .aF (by rw[B,K]) e8 e9
theorem j4.flat {P:Program} {c:Code} {ts:Ts} {os:Os} {Q:Qt} (t id k:Nat) {sz e isz ie:Nat} {l:List (List AV×List (List AV))} (i:lk ts t=some (.bF id)) (g:lk os id=some (.nest sz e isz ie l)) (j:A4 k id=false)
  (d:y8 [k] ts=true) (f:y9 [k] [(k,.row sz (cj isz l) e),(id,.aH)] os=true) (h:j4 P Γ c ((t,.aF k)::ts) ((k,.row sz (cj isz l) e)::(id,.aH)::os) Q):j4 P Γ c ts os Q :=
 ⟨fun a w b=>h.run a w (b.flat t id k i g j d f)⟩
theorem l9.ay {ts:Ts} {os:Os} (id:Nat) {sz e:Nat} {ls:List (List AV)} (q:List (List AV)) (f:lk os id=some (.row sz ls e)) (g:N7 ls q) {a:Act} {w:World} (d:l9 Γ ts os a w):l9 Γ ts ((id,.row sz q e)::os) a w :=
 l9.ghost (need:=[(id,.row sz ls e)]) (upd:=[(id,.row sz q e)]) (news:=[]) [] d ⟨f,trivial⟩ rfl rfl rfl fun c aA =>
  ⟨c,aE.ay (U:=[]) ⟨rfl,rfl,rfl,AA _,fun _ h=>h,fun _ h=>.inl h,fun _ _ _=>rfl,fun _ _=>⟨rfl,rfl⟩,aA,fun i o b j k=>.inr ⟨i,o,j,by rw[j];rfl,k⟩⟩ g,fun m y l=>(by cases l)⟩
theorem j4.ay {P:Program} {c:Code} {ts:Ts} {os:Os} {Q:Qt} (id:Nat) {sz e:Nat} {ls:List (List AV)} (q:List (List AV)) (d:lk os id=some (.row sz ls e)) (f:N7 ls q) (h:j4 P Γ c ts ((id,.row sz q e)::os) Q):j4 P Γ c ts os Q :=
 ⟨fun a w b=>h.run a w (b.ay id q d f)⟩
end
section
variable {Γ:H9}
theorem l6.aB {c:Ctx} {w:World} {vs:List Value} {d:List AV} {g:Nat} {v:Value} (h:l6 c w vs d) (f:(AV.aY d).all (fun i=>!Nat.beq i g)=true):l6 (c.aB g v) w vs d :=
 l6.mono (c:=c) (c':=c.aB g v) (fun _ _=>rfl) (fun _ h=>h) (fun id a=>⟨rfl,by
  have:=AD.1 f id a;have b:id≠g:=fun e=>by subst e;simp at this
  simp[Ctx.aB,b]⟩) h
def cQ {a:Type} {l:List a} {k:Nat} {x:a} (h:l[k]?=some x):l.set k x=l:=r7 h
theorem l9.bq {ts:Ts} {os:Os} (b off id sz e:Nat) {f:List AV} {j:Nat} (F:lk os b=some (.box f j)) (r:f[off]?=some .aC) (z:(AV.aY f).all (fun i=>!Nat.beq i id)=true) (l:A4 b id=false)
  (t:y8 [id] ts=true) (u:y9 [id] [(b,.box (f.set off (.aF id)) j),(id,.row sz [] e)] os=true) {a:Act} {w:World} (p:l9 Γ ts os a w) :
  l9 Γ ts ((b,.box (f.set off (.aF id)) j)::(id,.row sz [] e)::os) a w:=by
 have l:=M6 l;refine l9.ghost (need:=[(b,.box f j)]) (upd:=[(b,.box (f.set off (.aF id)) j),(id,.row sz [] e)]) (news:=[id]) [] p ⟨F,trivial⟩ t u (by simp[j5,l]) fun c aA=>⟨c.aB id (.slice none 0 0),?_,fun N y H=>(by cases H)⟩;have C:lk [(b,Obj.box f j)] b=some (.box f j):=j3 _ _ _;have q:(c.aB id (.slice none 0 0)).hd id=.slice none 0 0:=by simp[Ctx.aB]
 obtain⟨us,I,J⟩:=aA.rep b _ C;refine aE.same aA rfl (fun i z=>⟨rfl,by have:i≠id:=(by simpa using z);simp[Ctx.aB,this]⟩) (fun x o m=>?_) (fun x o d m k=>?_) (fun x O o M d g m B k s=>?_)
 ·rcases c8 m with⟨rfl,rfl⟩|⟨_,rfl,rfl⟩
  ·refine⟨us,I,?_⟩;have E:=J.aB (v:=.slice none 0 0) z;obtain⟨v,K,L⟩:=E.get r;have G:=L.ah;subst G;have:=E.set off (v:=.slice none 0 0) (a:=.aF id) (.aF (n:=0) (cap:=0) (A:=none) q (AA _) (by simp[maxLen]))
   rwa [cQ K] at this
  ·exact⟨[],by rw[q];exact⟨.inl ⟨rfl,rfl⟩,o7,o7⟩,rfl,fun i us f h=>by simp at h⟩
 ·rcases c8 m with⟨rfl,rfl⟩|⟨_,rfl,rfl⟩
  ·exact⟨x,_,C,by rw[m];rfl,k⟩
  ·have k:((c.aB x (.slice none 0 0)).hd x).ownBlock=some d:=k;rw[q] at k;cases k
 ·have D:∀d,((c.aB id (.slice none 0 0)).hd id).ownBlock=some d->False:=fun d h=>by rw[q] at h;cases h
  rcases c8 m with⟨rfl,rfl⟩|⟨_,rfl,rfl⟩<;>rcases c8 B with⟨rfl,rfl⟩|⟨_,rfl,rfl⟩
  ·exact g rfl
  ·exact D d s
  ·exact D d k
  ·exact g rfl
theorem j4.bq {P:Program} {c:Code} {ts:Ts} {os:Os} {Q:Qt} (b off id sz e:Nat) {d:List AV} {g:Nat} (n:lk os b=some (.box d g)) (j:d[off]?=some .aC) (o:(AV.aY d).all (fun i=>!Nat.beq i id)=true) (m:A4 b id=false)
  (k:y8 [id] ts=true) (l:y9 [id] [(b,.box (d.set off (.aF id)) g),(id,.row sz [] e)] os=true) (h:j4 P Γ c ts ((b,.box (d.set off (.aF id)) g)::(id,.row sz [] e)::os) Q):j4 P Γ c ts os Q :=
 ⟨fun a w f=>h.run a w (f.bq b off id sz e n j o m k l)⟩
theorem l9.du {ts:Ts} {os:Os} (b off j g:Nat) {k:List AV} {m sz e:Nat} {ls:List (List AV)} (J:lk os b=some (.box k m)) (B:k[off]?=some (.aF j)) (K:lk os j=some (.row sz ls e)) (E:(AV.aY k).all (fun i=>!Nat.beq i g)=true)
  (f:A4 b j=false) (q:A4 b g=false) (r:A4 j g=false)
  (C:y8 [g] ts=true) (D:y9 [g] [(b,.box (k.set off (.aF g)) m),(g,.row sz ls e),(j,.aH)] os=true) {a:Act} {w:World} (u:l9 Γ ts os a w) :
  l9 Γ ts ((b,.box (k.set off (.aF g)) m)::(g,.row sz ls e)::(j,.aH)::os) a w:=by
 have f:=M6 f;have q:=M6 q;have r:=M6 r;refine l9.ghost (need:=[(b,.box k m),(j,.row sz ls e)]) (upd:=[(b,.box (k.set off (.aF g)) m),(g,.row sz ls e),(j,.aH)]) (news:=[g]) [] u ⟨J,K,trivial⟩ C D (by simp[j5,q]) fun c aA=>⟨c.aB g (c.hd j),?_,fun W y L=>(by cases L)⟩;have G:lk [(b,Obj.box k m),(j,.row sz ls e)] b=some (.box k m):=j3 _ _ _;have H:lk [(b,Obj.box k m),(j,.row sz ls e)] j=some (.row sz ls e):=by rw[E9 _ _ f,j3]
 have z:(c.aB g (c.hd j)).hd g=c.hd j:=by simp[Ctx.aB]
 obtain⟨us,R,I⟩:=aA.rep b _ G;have Q:F8 c.Φ w (c.hd j) sz ls e:=aA.rep j _ H;refine aE.same aA rfl (fun i E=>⟨rfl,by have:i≠g:=(by simpa using E);simp[Ctx.aB,this]⟩) (fun x o s=>?_) (fun x o d s l=>?_) (fun x X o V d t s F l p=>?_)
 ·rcases bb s with⟨rfl,rfl⟩|⟨_,rfl,rfl⟩|⟨_,_,rfl,rfl⟩
  ·refine⟨us,R,?_⟩;obtain⟨v,T,U⟩:=I.get B;have S:=I.aB (v:=c.hd j) E;obtain⟨A,n,cap,M,N,O,P⟩:=U.aj;have:=S.set off (v:=v) (a:=.aF g) (by rw[M];exact .aF (by rw[z,N]) O P)
   rwa [cQ T] at this
  ·show F8 c.Φ w ((c.aB x (c.hd j)).hd x) sz ls e;rw[z];exact Q
  ·trivial
 ·rcases bb s with⟨rfl,rfl⟩|⟨_,rfl,rfl⟩|⟨_,_,rfl,rfl⟩
  ·exact⟨x,_,G,by rw[s];rfl,l⟩
  ·have l:((c.aB x (c.hd j)).hd x).ownBlock=some d:=l;rw[z] at l;exact⟨j,_,H,by rw[E9 _ _ f,E9 _ _ (Ne.symm r),j3];rfl,l⟩
  ·exact l.elim
 ·have apart:∀d,((c.aB g (c.hd j)).hd g).ownBlock=some d->d≠c.μ b:=fun d h e=>by
   rw[z] at h;exact aA.sep j b _ _ d (Ne.symm f) H G h e
  rcases bb s with⟨rfl,rfl⟩|⟨_,rfl,rfl⟩|⟨_,_,rfl,rfl⟩<;>rcases bb F with⟨rfl,rfl⟩|⟨_,rfl,rfl⟩|⟨_,_,rfl,rfl⟩<;>first|exact t rfl|exact l.elim|exact p.elim|exact apart d l p|exact apart d p l
theorem j4.du {P:Program} {c:Code} {ts:Ts} {os:Os} {Q:Qt} (b off j g:Nat) {d:List AV} {k sz e:Nat} {ls:List (List AV)} (r:lk os b=some (.box d k)) (l:d[off]?=some (.aF j)) (t:lk os j=some (.row sz ls e)) (s:(AV.aY d).all (fun i=>!Nat.beq i g)=true)
  (o:A4 b j=false) (p:A4 b g=false) (q:A4 j g=false)
  (m:y8 [g] ts=true) (n:y9 [g] [(b,.box (d.set off (.aF g)) k),(g,.row sz ls e),(j,.aH)] os=true) (h:j4 P Γ c ts ((b,.box (d.set off (.aF g)) k)::(g,.row sz ls e)::(j,.aH)::os) Q):j4 P Γ c ts os Q :=
 ⟨fun a w f=>h.run a w (f.du b off j g r l t s o p q m n)⟩
theorem l9.cM {ts:Ts} {os:Os} (id:Nat) {i:List AV} {e:Nat} (b:List AV) (j:lk os id=some (.box i e)) (l:cn i b) {a:Act} {w:World} (h:l9 Γ ts os a w):l9 Γ ts ((id,.box b e)::os) a w :=
 l9.ghost (need:=[(id,.box i e)]) (upd:=[(id,.box b e)]) (news:=[]) [] h ⟨j,trivial⟩ rfl rfl rfl fun c aA =>
  ⟨c,aE.same aA rfl (fun _ _=>⟨rfl,rfl⟩) (fun x o g=>by
   obtain⟨rfl,rfl⟩:=cc g;obtain⟨us,p,q⟩:=aA.rep x _ (j3 _ _ _);exact⟨us,p,iR l q⟩) (fun x o d g m=>by
   obtain⟨rfl,rfl⟩:=cc g;exact⟨x,_,j3 _ _ _,by rw[j3];rfl,m⟩) (fun x t o r d f g k _=>by
   obtain⟨rfl,_⟩:=cc g;obtain⟨rfl,_⟩:=cc k;exact absurd rfl f),fun s y n=>(by cases n)⟩
theorem j4.cM {P:Program} {c:Code} {ts:Ts} {os:Os} {Q:Qt} (id:Nat) {i:List AV} {e:Nat} (b:List AV) (f:lk os id=some (.box i e)) (g:cn i b) (h:j4 P Γ c ts ((id,.box b e)::os) Q):j4 P Γ c ts os Q :=
 ⟨fun a w d=>h.run a w (d.cM id b f g)⟩
theorem K7.cM {ts:Ts} {os:Os} {Q:Qt} (id:Nat) {g:List AV} {e:Nat} (b:List AV) (d:lk os id=some (.box g e)) (f:cn g b) (h:K7 Γ ts ((id,.box b e)::os) Q):K7 Γ ts os Q :=
 ⟨fun a w c=>h.run a w (c.cM id b d f)⟩
end
def r4 {a:Type} {l:List a} {k:Nat} {x:a} (h:l[k]?=some x):l.take (k+1)=l.take k++[x]:=by
 rw[List.take_add_one,h];rfl
section
variable {Γ:H9}
end
section
variable {Γ:H9} {P:Program}
end
section
variable {α:Type} {enc:α->List AV}
def qO {l:List α} {i:Nat} {x:α} (h:l[i]?=some x):i<(l.map enc).length:=by
 rw[AN];exact(AB.1 h).1
def vZ {l:List α} {i:Nat} {x:α} (h:l[i]?=some x) {A B C D K:Prop} (a:A) (b:B) (c:C) (d:D) (H:K):A/\B/\i<(l.map enc).length/\C/\D/\K:=⟨a,b,qO h,c,d,H⟩
def uq {l:List α} {i:Nat} {x:α} (h:l[i]?=some x) {A B D K:Prop} (a:A) (b:B) (d:D) (H:K):A/\B/\i<(l.map enc).length/\D/\K:=⟨a,b,qO h,d,H⟩
end
theorem Gh.drop {Γ:H9} {ts:Ts} {os:Os} (id:Nat) {o:Obj} (e:lk os id=some o):Gh Γ ts os (fun _:Unit=>ts) (fun _=>(id,.aH)::os) :=
 Gh.of (need:=[(id,o)]) (upd:=fun _=>[(id,.aH)]) (ex:=fun _=>[]) (news:=[]) ⟨e,trivial⟩ rfl (fun _=>rfl) (fun _=>rfl) fun c w aA _ =>
  ⟨(),c,aE.mk' aA rfl rfl rfl rfl (AA _) (fun _ _ _=>rfl) (fun k _=>⟨rfl,rfl⟩) (fun k f a=>by
   obtain⟨_,rfl⟩:=cc a;trivial) (fun k f b a d=>by
   obtain⟨_,rfl⟩:=cc a;exact d.elim) (fun k l f m b j a i d g=>by
   obtain⟨_,rfl⟩:=cc a;exact d.elim),fun t y h=>by cases h⟩
def kU (k:IntKind) (n:Int):List AV:=[.ik k n]
structure Y2 where
  err:Int
  fg:Int
  deriving DecidableEq,Inhabited
def pY (x:Y2):List AV:=[.int x.err,.int x.fg]
structure l7 where
  s:ByteArray
  fN:Bool
  deriving DecidableEq,Inhabited
def F6 (x:l7):List AV:=[.str x.s,.bool x.fN]
structure J3 where
  f0:Int
  f1:Int
  deriving DecidableEq,Inhabited
def jq (x:J3):List AV:=[.int x.f0,.int x.f1]
abbrev s3 (l:List Int):AV:=.sl 1 (l.map bg)
abbrev s5 (l:List Int):AV:=.sl 1 (l.map (kU .u8))
abbrev w6 (l:List Me):AV:=.sl 5 (l.map U8)
abbrev qS (l:List Ins):AV:=.sl 5 (l.map dU)
abbrev w3 (l:List Int):Obj:=.row 1 (l.map bg) 3
abbrev w5 (l:List Int):Obj:=.row 1 (l.map (kU .u8)) 5
abbrev qU (l:List Cl):Obj:=.row 4 (l.map ft) 41
abbrev qV (l:List Me):Obj:=.row 5 (l.map U8) 46
abbrev qW (l:List Ob):Obj:=.row 2 (l.map jD) 68
abbrev qX (l:List V):Obj:=.row 2 (l.map eV) 70
abbrev qY (l:List Ins):Obj:=.row 5 (l.map dU) 77
abbrev kQ (l:List J3):Obj:=.row 2 (l.map jq) 105
section
open Go.ChangeShapes Go.WideShapes Go.ChangeAt Go.RowKit Go.Deep
def k8 (a:Ins):Prop:=cO a.op/\cO a.a/\cO a.b/\cO a.c/\hQ a.name
def db (a:Ins):Nat:=V8 a.op+V8 a.a+V8 a.b+V8 a.c+eI a.name+1
def rP (a:Ins):1<=db a:=by unfold db;omega
def kP (a:Me):Prop:=hQ a.name/\cO a.args/\cO a.aL/\cO a.aQ/\(dG k8) a.code
def dD (a:Me):Nat:=eI a.name+V8 a.args+V8 a.aL+V8 a.aQ+(Y6 db) a.code+1
def tA (a:Me):1<=dD a:=by unfold dD;omega
def j7 (a:Cl):Prop:=hQ a.name/\cO a.aJ/\cO a.aD/\(dG kP) a.a8
def dQ (a:Cl):Nat:=eI a.name+V8 a.aJ+V8 a.aD+(Y6 dD) a.a8+1
def tR (a:Cl):1<=dQ a:=by unfold dQ;omega
def kW (a:V):Prop:=cO a.k/\cO a.n
def dj (a:V):Nat:=V8 a.k+V8 a.n+1
def tw (a:V):1<=dj a:=by unfold dj;omega
def jv (a:Ob):Prop:=cO a.cls/\(dG kW) a.aD
def dT (a:Ob):Nat:=V8 a.cls+(Y6 dj) a.aD+1
def tC (a:Ob):1<=dT a:=by unfold dT;omega
def j0 (a:Wd):Prop:=(dG j7) a.a7/\(dG jv) a.heap/\cO a.aR
def eZ (a:Wd):Nat:=(Y6 dQ) a.a7+(Y6 dT) a.heap+V8 a.aR+1
end
end Go.Proofs.YtibjcppjfkamhaaDoor
namespace Go.Proofs
open Go.Shelf
def Tryd.bn : Go.Shelf.Ren := ⟨fun | 171 => 25 | 243 => 40 | 246 => 50 | 283 => 66 | 284 => 67 | 285 => 68 | 286 => 69 | 129 => 60 | 317 => 81 | 318 => 82 | 319 => 83 | 320 => 84 | 337 => 93 | 338 => 94 | n => n, fun | 3 => 3 | 9 => 9 | 2 => 2 | 4 => 4 | 171 => 125 | 0 => 0 | 53 => 121 | 37 => 26 | 5 => 5 | 173 => 127 | 212 => 142 | 51 => 119 | 20 => 20 | 213 => 143 | 46 => 100 | 232 => 160 | 233 => 161 | n => n, fun | 17 => 0 | 18 => 4 | 19 => 5 | n => n⟩
theorem Tryd.dm : Go.Proofs.LaysM.n171 Tryd.prog Tryd.bn := {
  mixed := by kernel_rfl
  f129 := Tryd.func60.trans (congrArg some (by kernel_rfl))
  f171 := Tryd.func25.trans (congrArg some (by kernel_rfl))
  f243 := Tryd.func40.trans (congrArg some (by kernel_rfl))
  f246 := Tryd.func50.trans (congrArg some (by kernel_rfl))
  f283 := Tryd.func66.trans (congrArg some (by kernel_rfl))
  f284 := Tryd.func67.trans (congrArg some (by kernel_rfl))
  f285 := Tryd.func68.trans (congrArg some (by kernel_rfl))
  f286 := Tryd.func69.trans (congrArg some (by kernel_rfl))
  f317 := Tryd.func81.trans (congrArg some (by kernel_rfl))
  f318 := Tryd.func82.trans (congrArg some (by kernel_rfl))
  f319 := Tryd.func83.trans (congrArg some (by kernel_rfl))
  f320 := Tryd.func84.trans (congrArg some (by kernel_rfl))
  f337 := Tryd.func93.trans (congrArg some (by kernel_rfl))
  f338 := Tryd.func94.trans (congrArg some (by kernel_rfl))
  t0 := Tryd.underlying0
  a0 := Tryd.isAgg0
  z0 := Tryd.sizeOf0
  v0 := Tryd.zeroValue0
  t2 := Tryd.underlying2
  a2 := Tryd.isAgg2
  z2 := Tryd.sizeOf2
  v2 := Tryd.zeroValue2
  t3 := Tryd.underlying3
  a3 := Tryd.isAgg3
  z3 := Tryd.sizeOf3
  v3 := Tryd.zeroValue3
  t4 := Tryd.underlying4
  a4 := Tryd.isAgg4
  z4 := Tryd.sizeOf4
  v4 := Tryd.zeroValue4
  t5 := Tryd.underlying5
  a5 := Tryd.isAgg5
  z5 := Tryd.sizeOf5
  v5 := Tryd.zeroValue5
  t9 := Tryd.underlying9
  a9 := Tryd.isAgg9
  z9 := Tryd.sizeOf9
  v9 := Tryd.zeroValue9
  t20 := Tryd.underlying20
  a20 := Tryd.isAgg20
  z20 := Tryd.sizeOf20
  v20 := Tryd.zeroValue20
  t37 := Tryd.underlying26
  a37 := Tryd.isAgg26
  z37 := Tryd.sizeOf26
  v37 := Tryd.zeroValue26
  t46 := Tryd.underlying100
  a46 := Tryd.isAgg100
  z46 := Tryd.sizeOf100
  v46 := Tryd.zeroValue100
  t51 := Tryd.underlying119
  a51 := Tryd.isAgg119
  z51 := Tryd.sizeOf119
  v51 := Tryd.zeroValue119
  t53 := Tryd.underlying121
  a53 := Tryd.isAgg121
  z53 := Tryd.sizeOf121
  v53 := Tryd.zeroValue121
  t171 := Tryd.underlying125
  a171 := Tryd.isAgg125
  z171 := Tryd.sizeOf125
  v171 := Tryd.zeroValue125
  t173 := Tryd.underlying127
  a173 := Tryd.isAgg127
  z173 := Tryd.sizeOf127
  v173 := Tryd.zeroValue127
  t212 := Tryd.underlying142
  a212 := Tryd.isAgg142
  z212 := Tryd.sizeOf142
  v212 := Tryd.zeroValue142
  t213 := Tryd.underlying143
  a213 := Tryd.isAgg143
  z213 := Tryd.sizeOf143
  t232 := Tryd.underlying160
  a232 := Tryd.isAgg160
  z232 := Tryd.sizeOf160
  v232 := Tryd.zeroValue160
  t233 := Tryd.underlying161
  a233 := Tryd.isAgg161
  z233 := Tryd.sizeOf161
  v233 := Tryd.zeroValue161
  g17 := by kernel_rfl
  g18 := by kernel_rfl
  g19 := by kernel_rfl
  i0 := by kernel_rfl
  i2 := by kernel_rfl
  i3 := by kernel_rfl
  i4 := by kernel_rfl
  i5 := by kernel_rfl
  i9 := by kernel_rfl
  i20 := by kernel_rfl
  i37 := by kernel_rfl
  i46 := by kernel_rfl
  i51 := by kernel_rfl
  i53 := by kernel_rfl
  i171 := by kernel_rfl
  i173 := by kernel_rfl
  i212 := by kernel_rfl
  i232 := by kernel_rfl
  i233 := by kernel_rfl
  m17 := by kernel_rfl
  m18 := by kernel_rfl
  m19 := by kernel_rfl }
open Go.RowKit Go.Sort Go.Lib in
theorem Tryd.strconv_Itoa (n : Int) (h0 : -9223372036854775808 ≤ n) (h1 : n ≤ 9223372036854775807) (w : World) (htab : Lib.TabIs Tryd.prog w "internal/strconv.uint64pow10" .u64 Lib.pow10Tab) :
    Calls Tryd.prog 25 #[.int .i64 n] w fun e w' => e = .returned (.string ⟨(Lib.itoa n).toArray⟩) ∧ ∃ k os, w' = grow (w.drewN k) os := Any.strconv_Itoa Tryd.dm n h0 h1 w htab
def Tryd.bm : Go.Shelf.Ren := ⟨fun | 172 => 47 | 244 => 62 | 245 => 63 | 247 => 75 | 279 => 76 | 280 => 77 | 281 => 78 | 282 => 79 | 287 => 86 | 316 => 87 | 171 => 25 | 205 => 88 | 321 => 95 | 322 => 96 | 243 => 40 | 246 => 50 | 283 => 66 | 284 => 67 | 285 => 68 | 286 => 69 | 129 => 60 | 317 => 81 | 318 => 82 | 319 => 83 | 320 => 84 | 337 => 93 | 338 => 94 | n => n, fun | 9 => 9 | 3 => 3 | 75 => 93 | 76 => 94 | 4 => 4 | 5 => 5 | 167 => 135 | 37 => 26 | 0 => 0 | 85 => 136 | 2 => 2 | 168 => 138 | 53 => 121 | 175 => 147 | 46 => 100 | 210 => 151 | 127 => 97 | 145 => 157 | 143 => 155 | 21 => 21 | 171 => 125 | 173 => 127 | 212 => 142 | 51 => 119 | 20 => 20 | 213 => 143 | 232 => 160 | 233 => 161 | 80 => 71 | n => n, fun | 15 => 1 | 16 => 2 | 17 => 0 | 18 => 4 | 19 => 5 | n => n⟩
theorem Tryd.bU : Go.Proofs.LaysC.n172 Tryd.prog Tryd.bm := {
  mixed := by kernel_rfl
  f129 := Tryd.func60.trans (congrArg some (by kernel_rfl))
  f171 := Tryd.func25.trans (congrArg some (by kernel_rfl))
  f172 := Tryd.func47.trans (congrArg some (by kernel_rfl))
  f205 := Tryd.func88.trans (congrArg some (by kernel_rfl))
  f243 := Tryd.func40.trans (congrArg some (by kernel_rfl))
  f244 := Tryd.func62.trans (congrArg some (by kernel_rfl))
  f245 := Tryd.func63.trans (congrArg some (by kernel_rfl))
  f246 := Tryd.func50.trans (congrArg some (by kernel_rfl))
  f247 := Tryd.func75.trans (congrArg some (by kernel_rfl))
  f279 := Tryd.func76.trans (congrArg some (by kernel_rfl))
  f280 := Tryd.func77.trans (congrArg some (by kernel_rfl))
  f281 := Tryd.func78.trans (congrArg some (by kernel_rfl))
  f282 := Tryd.func79.trans (congrArg some (by kernel_rfl))
  f283 := Tryd.func66.trans (congrArg some (by kernel_rfl))
  f284 := Tryd.func67.trans (congrArg some (by kernel_rfl))
  f285 := Tryd.func68.trans (congrArg some (by kernel_rfl))
  f286 := Tryd.func69.trans (congrArg some (by kernel_rfl))
  f287 := Tryd.func86.trans (congrArg some (by kernel_rfl))
  f316 := Tryd.func87.trans (congrArg some (by kernel_rfl))
  f317 := Tryd.func81.trans (congrArg some (by kernel_rfl))
  f318 := Tryd.func82.trans (congrArg some (by kernel_rfl))
  f319 := Tryd.func83.trans (congrArg some (by kernel_rfl))
  f320 := Tryd.func84.trans (congrArg some (by kernel_rfl))
  f321 := Tryd.func95.trans (congrArg some (by kernel_rfl))
  f322 := Tryd.func96.trans (congrArg some (by kernel_rfl))
  f337 := Tryd.func93.trans (congrArg some (by kernel_rfl))
  f338 := Tryd.func94.trans (congrArg some (by kernel_rfl))
  t0 := Tryd.underlying0
  a0 := Tryd.isAgg0
  z0 := Tryd.sizeOf0
  v0 := Tryd.zeroValue0
  t2 := Tryd.underlying2
  a2 := Tryd.isAgg2
  z2 := Tryd.sizeOf2
  v2 := Tryd.zeroValue2
  t3 := Tryd.underlying3
  a3 := Tryd.isAgg3
  z3 := Tryd.sizeOf3
  v3 := Tryd.zeroValue3
  t4 := Tryd.underlying4
  a4 := Tryd.isAgg4
  z4 := Tryd.sizeOf4
  v4 := Tryd.zeroValue4
  t5 := Tryd.underlying5
  a5 := Tryd.isAgg5
  z5 := Tryd.sizeOf5
  v5 := Tryd.zeroValue5
  t9 := Tryd.underlying9
  a9 := Tryd.isAgg9
  z9 := Tryd.sizeOf9
  v9 := Tryd.zeroValue9
  t20 := Tryd.underlying20
  a20 := Tryd.isAgg20
  z20 := Tryd.sizeOf20
  v20 := Tryd.zeroValue20
  t21 := Tryd.underlying21
  a21 := Tryd.isAgg21
  z21 := Tryd.sizeOf21
  v21 := Tryd.zeroValue21
  t37 := Tryd.underlying26
  a37 := Tryd.isAgg26
  z37 := Tryd.sizeOf26
  v37 := Tryd.zeroValue26
  t46 := Tryd.underlying100
  a46 := Tryd.isAgg100
  z46 := Tryd.sizeOf100
  v46 := Tryd.zeroValue100
  t51 := Tryd.underlying119
  a51 := Tryd.isAgg119
  z51 := Tryd.sizeOf119
  v51 := Tryd.zeroValue119
  t53 := Tryd.underlying121
  a53 := Tryd.isAgg121
  z53 := Tryd.sizeOf121
  v53 := Tryd.zeroValue121
  t75 := Tryd.underlying93
  a75 := Tryd.isAgg93
  z75 := Tryd.sizeOf93
  v75 := Tryd.zeroValue93
  t76 := Tryd.underlying94
  a76 := Tryd.isAgg94
  z76 := Tryd.sizeOf94
  v76 := Tryd.zeroValue94
  t85 := Tryd.underlying136
  a85 := Tryd.isAgg136
  z85 := Tryd.sizeOf136
  v85 := Tryd.zeroValue136
  t127 := Tryd.underlying97
  a127 := Tryd.isAgg97
  z127 := Tryd.sizeOf97
  v127 := Tryd.zeroValue97
  t143 := Tryd.underlying155
  a143 := Tryd.isAgg155
  z143 := Tryd.sizeOf155
  v143 := Tryd.zeroValue155
  t145 := Tryd.underlying157
  a145 := Tryd.isAgg157
  z145 := Tryd.sizeOf157
  v145 := Tryd.zeroValue157
  t167 := Tryd.underlying135
  a167 := Tryd.isAgg135
  z167 := Tryd.sizeOf135
  v167 := Tryd.zeroValue135
  t168 := Tryd.underlying138
  a168 := Tryd.isAgg138
  z168 := Tryd.sizeOf138
  v168 := Tryd.zeroValue138
  t171 := Tryd.underlying125
  a171 := Tryd.isAgg125
  z171 := Tryd.sizeOf125
  v171 := Tryd.zeroValue125
  t173 := Tryd.underlying127
  a173 := Tryd.isAgg127
  z173 := Tryd.sizeOf127
  v173 := Tryd.zeroValue127
  t175 := Tryd.underlying147
  a175 := Tryd.isAgg147
  z175 := Tryd.sizeOf147
  v175 := Tryd.zeroValue147
  t210 := Tryd.underlying151
  a210 := Tryd.isAgg151
  z210 := Tryd.sizeOf151
  v210 := Tryd.zeroValue151
  t212 := Tryd.underlying142
  a212 := Tryd.isAgg142
  z212 := Tryd.sizeOf142
  v212 := Tryd.zeroValue142
  t213 := Tryd.underlying143
  a213 := Tryd.isAgg143
  z213 := Tryd.sizeOf143
  t232 := Tryd.underlying160
  a232 := Tryd.isAgg160
  z232 := Tryd.sizeOf160
  v232 := Tryd.zeroValue160
  t233 := Tryd.underlying161
  a233 := Tryd.isAgg161
  z233 := Tryd.sizeOf161
  v233 := Tryd.zeroValue161
  g15 := by kernel_rfl
  g16 := by kernel_rfl
  g17 := by kernel_rfl
  g18 := by kernel_rfl
  g19 := by kernel_rfl
  t80 := Tryd.underlying71
  a80 := Tryd.isAgg71
  z80 := Tryd.sizeOf71
  v80 := Tryd.zeroValue71
  i0 := by kernel_rfl
  i2 := by kernel_rfl
  i3 := by kernel_rfl
  i4 := by kernel_rfl
  i5 := by kernel_rfl
  i9 := by kernel_rfl
  i20 := by kernel_rfl
  i21 := by kernel_rfl
  i37 := by kernel_rfl
  i46 := by kernel_rfl
  i51 := by kernel_rfl
  i53 := by kernel_rfl
  i75 := by kernel_rfl
  i76 := by kernel_rfl
  i80 := by kernel_rfl
  i85 := by kernel_rfl
  i127 := by kernel_rfl
  i143 := by kernel_rfl
  i145 := by kernel_rfl
  i167 := by kernel_rfl
  i168 := by kernel_rfl
  i171 := by kernel_rfl
  i173 := by kernel_rfl
  i175 := by kernel_rfl
  i210 := by kernel_rfl
  i212 := by kernel_rfl
  i232 := by kernel_rfl
  i233 := by kernel_rfl
  m15 := by kernel_rfl
  m16 := by kernel_rfl
  m17 := by kernel_rfl
  m18 := by kernel_rfl
  m19 := by kernel_rfl
  c0 := by kernel_rfl
  c2 := by kernel_rfl
  c3 := by kernel_rfl
  c4 := by kernel_rfl
  c5 := by kernel_rfl
  c9 := by kernel_rfl
  c20 := by kernel_rfl
  c21 := by kernel_rfl
  c37 := by kernel_rfl
  c46 := by kernel_rfl
  c51 := by kernel_rfl
  c53 := by kernel_rfl
  c75 := by kernel_rfl
  c76 := by kernel_rfl
  c80 := by kernel_rfl
  c85 := by kernel_rfl
  c127 := by kernel_rfl
  c143 := by kernel_rfl
  c145 := by kernel_rfl
  c167 := by kernel_rfl
  c168 := by kernel_rfl
  c171 := by kernel_rfl
  c173 := by kernel_rfl
  c175 := by kernel_rfl
  c210 := by kernel_rfl
  c212 := by kernel_rfl
  c213 := by kernel_rfl
  c232 := by kernel_rfl
  c233 := by kernel_rfl }
open Go.RowKit in
theorem Tryd.strconv_Atoi_ok (s : ByteArray) (hmax : s.size ≤ 9223372036854775806) (v : Int) (h : Lib.atoiAll s.data.toList = .ok v) (w : World) :
    Calls Tryd.prog 47 #[.string s] w fun e w' => e = .returned (.tuple #[.int .i64 v, .nilIface]) ∧ (w' = w ∨ ∃ t, w' = Lib.bytesWorld w 5 t) := Any.strconv_Atoi_ok Tryd.bU s hmax v h w
open Go.RowKit in
theorem Tryd.strconv_Atoi_syntax (s : ByteArray) (hlim : s.size ≤ 281474976710656) (h : Lib.atoiAll s.data.toList = Lib.NumEnd.syntax) (ev : Value) (w : World) (hv : w.cell? ⟨1, 0, none⟩ = some ev) (hev : ev = .nilIface ∨ ∃ te pe, ev = .iface te pe) :
    Calls Tryd.prog 47 #[.string s] w fun e w' => ∃ N, e = .returned (.tuple #[.int .i64 (0), .iface 138 (.pointer (some ⟨N, 0, none⟩))]) ∧ w.heap.size ≤ N ∧ w'.heap[N]? = some (.cells #[.string ⟨#[65, 116, 111, 105]⟩, .string s, ev] 151 (0, 0)) ∧ Below w.heap.size w w' := Any.strconv_Atoi_syntax Tryd.bU s hlim h ev w hv hev
open Go.RowKit in
theorem Tryd.strconv_Atoi_range (s : ByteArray) (hlim : s.size ≤ 281474976710656) (h : Lib.atoiAll s.data.toList = .range) (ev : Value) (w : World) (hv : w.cell? ⟨2, 0, none⟩ = some ev) (hev : ev = .nilIface ∨ ∃ te pe, ev = .iface te pe) :
    Calls Tryd.prog 47 #[.string s] w fun e w' => ∃ N, e = .returned (.tuple #[.int .i64 (Lib.atoiSat s.data.toList), .iface 138 (.pointer (some ⟨N, 0, none⟩))]) ∧ w.heap.size ≤ N ∧ w'.heap[N]? = some (.cells #[.string ⟨#[65, 116, 111, 105]⟩, .string s, ev] 151 (0, 0)) ∧ Below w.heap.size w w' := Any.strconv_Atoi_range Tryd.bU s hlim h ev w hv hev
def Tryd.cL : Go.Shelf.Ren := ⟨fun | 145 => 48 | 220 => 64 | 219 => 80 | 217 => 89 | 225 => 90 | 224 => 91 | 267 => 92 | 266 => 97 | 314 => 98 | n => n, fun | 9 => 9 | 4 => 4 | 59 => 108 | 3 => 3 | 5 => 5 | 46 => 100 | 146 => 158 | 51 => 119 | n => n, fun | 1 => 3 | n => n⟩
theorem Tryd.ed : Go.Proofs.Lays.n145 Tryd.prog Tryd.cL := {
  mixed := by kernel_rfl
  f145 := Tryd.func48.trans (congrArg some (by kernel_rfl))
  f217 := Tryd.func89.trans (congrArg some (by kernel_rfl))
  f219 := Tryd.func80.trans (congrArg some (by kernel_rfl))
  f220 := Tryd.func64.trans (congrArg some (by kernel_rfl))
  f224 := Tryd.func91.trans (congrArg some (by kernel_rfl))
  f225 := Tryd.func90.trans (congrArg some (by kernel_rfl))
  f266 := Tryd.func97.trans (congrArg some (by kernel_rfl))
  f267 := Tryd.func92.trans (congrArg some (by kernel_rfl))
  f314 := Tryd.func98.trans (congrArg some (by kernel_rfl))
  t3 := Tryd.underlying3
  a3 := Tryd.isAgg3
  z3 := Tryd.sizeOf3
  v3 := Tryd.zeroValue3
  t4 := Tryd.underlying4
  a4 := Tryd.isAgg4
  z4 := Tryd.sizeOf4
  v4 := Tryd.zeroValue4
  t5 := Tryd.underlying5
  a5 := Tryd.isAgg5
  z5 := Tryd.sizeOf5
  v5 := Tryd.zeroValue5
  t9 := Tryd.underlying9
  a9 := Tryd.isAgg9
  z9 := Tryd.sizeOf9
  v9 := Tryd.zeroValue9
  t46 := Tryd.underlying100
  a46 := Tryd.isAgg100
  z46 := Tryd.sizeOf100
  v46 := Tryd.zeroValue100
  t51 := Tryd.underlying119
  a51 := Tryd.isAgg119
  z51 := Tryd.sizeOf119
  v51 := Tryd.zeroValue119
  t59 := Tryd.underlying108
  a59 := Tryd.isAgg108
  z59 := Tryd.sizeOf108
  v59 := Tryd.zeroValue108
  t146 := Tryd.underlying158
  a146 := Tryd.isAgg158
  z146 := Tryd.sizeOf158
  v146 := Tryd.zeroValue158
  g1 := by kernel_rfl }
open Go.RowKit Go.Lib in
theorem Tryd.strings_Cut (s sep : ByteArray) (m : Int) (w : World) (hs : s.size < 4294967281) (hm : w.cell? ⟨3, 0, none⟩ = some (.int .i64 m)) :
    Calls Tryd.prog 48 #[.string s, .string sep] w fun e w' => e = .returned (.tuple #[.string ⟨(Lib.cut s.data.toList sep.data.toList).1.toArray⟩, .string ⟨(Lib.cut s.data.toList sep.data.toList).2.1.toArray⟩, .bool (Lib.cut s.data.toList sep.data.toList).2.2]) ∧ ∃ n, w' = w.drewN n := Any.strings_Cut Tryd.ed s sep m w hs hm
end Go.Proofs
namespace Go.Proofs.YtibjcppjfkamhaaDoor
open Go.RowKit Go.Proofs.Tryd
open _root_.And renaming intro->A5
open _root_.Bool renaming and_eq_true->A7,not_true->AL
open _root_.ByteArray renaming empty->AK
open _root_.List renaming getElem?_eq_getElem->A8,getElem?_eq_some_iff->AB,all_eq_true->AD,mem_cons->AF,append_assoc->AG,mem_map->AI,replicate->AJ,getElem?_set->AM,length_map->AN,map_cons->AO,mem_of_getElem?->AP,mem_append->AS,getElem?_eq_none->AT,ext_getElem?->AW,length_cons->AY,getElem?_map->AZ,getElem?_drop->Aa
open _root_.Nat renaming beq->A4,eq_of_beq_eq_true->A9,le_refl->AA,ble->AE,blt->AH,le_of_ble_eq_true->AQ
open _root_.Option renaming bind_some->A0,map_eq_some_iff->AX
def la : List ByteArray:=[⟨#[42]⟩,⟨#[43]⟩,⟨#[45]⟩,⟨#[60]⟩,⟨#[61]⟩]
def I1 : List Me:=[⟨⟨#[42]⟩,1,0,3,[]⟩,⟨⟨#[43]⟩,1,0,1,[]⟩,⟨⟨#[45]⟩,1,0,2,[]⟩,⟨⟨#[60]⟩,1,0,4,[]⟩,⟨⟨#[61]⟩,1,0,5,[]⟩]
def G8 : Wd:=⟨[⟨⟨#[79,98,106,101,99,116]⟩,-1,0,[]⟩,⟨⟨#[78,105,108]⟩,0,0,[]⟩,⟨⟨#[66,111,111,108]⟩,0,0,[]⟩,⟨⟨#[73,110,116]⟩,0,0,I1⟩],[],0⟩
def jd (N:Nat):Option Wd:=some G8
def kZ (N:Nat):Option Wd:=some G8
def strconv_Itoa (N:Nat) (n:Int):Option ByteArray:=some ⟨(Lib.itoa n).toArray⟩
def strconv_Atoi (N:Nat) (s:ByteArray):Option (Int×Bool):=bif decide (s.size<=281474976710656) then some (match Lib.atoiAll s.data.toList with
 |.ok v=>(v,true)
 |.range=>(Lib.atoiSat s.data.toList,false)
 |_=>(0,false)) else none
def strings_Cut (N:Nat) (s sep:ByteArray):Option (ByteArray×ByteArray×Bool):=bif decide (s.size<4294967281) then some (⟨(Lib.cut s.data.toList sep.data.toList).1.toArray⟩,⟨(Lib.cut s.data.toList sep.data.toList).2.1.toArray⟩,(Lib.cut s.data.toList sep.data.toList).2.2) else none
structure eN (w:World):Prop where
 tab : Lib.TabIs prog w "internal/strconv.uint64pow10" .u64 Lib.pow10Tab
 w7:∃ev,w.cell? ⟨1,0,none⟩=some ev/\(ev=.nilIface\/∃te pe,ev=.iface te pe)
 bH:∃ev,w.cell? ⟨2,0,none⟩=some ev/\(ev=.nilIface\/∃te pe,ev=.iface te pe)
 mx:∃m,w.cell? ⟨3,0,none⟩=some (.int .i64 m)
def ek : List Nat:=[0,1,2,3]
def GL : Obj:=.jG ek eN
theorem GL.at {c:Ctx} {w:World} {id:Nat} (h:X4 c w id GL):eN w:=by
 obtain ⟨_,f,⟨t,⟨s,n,o⟩,⟨r,k,l⟩,⟨m,j⟩⟩,e⟩:=h;have cell:∀b∈ek,∀v,f.cell? ⟨b,0,none⟩=some v->w.cell? ⟨b,0,none⟩=some v:=fun b d v i=>(World.cell?_of_block (w:=f) (a:=⟨b,0,none⟩) (e b d)).trans i;refine ⟨?_,⟨s,cell _ (by simp [ek]) s n,o⟩,⟨r,cell _ (by simp [ek]) r k,l⟩,⟨m,cell _ (by simp [ek]) _ j⟩⟩;have g : prog.globalNamed "internal/strconv.uint64pow10" = some 0 := l8;unfold Lib.TabIs World.var? at t ⊢;simp only [g,A0] at t ⊢;rw [e _ (by simp [ek])];exact t
theorem aE.bC {c:Ctx} {w w':World} {need:Os} (h:Below w.heap.size w w') (a:∀b,c.Φ b->b<w.heap.size):aE c w c w' need [] [] :=
 ⟨h.os,h.tape,h.output,h.size,fun _ h=>h,fun _ h=>.inl h,fun b d _=>h.block b d,fun _ _=>⟨rfl,rfl⟩,⟨fun _ _ h=>(by cases h),fun _ _ _ h=>(by cases h),fun _ _ _ _ _ _ h=>(by cases h),fun b d=>Nat.lt_of_lt_of_le (a b d) h.size⟩,fun _ _ _ h=>(by cases h)⟩
def kG {c:Ctx} {w:World} {args:Array Value} {a:AV} (h:l6 c w args.toList [a]):∃v,args=#[v]/\Rd c w v a:=by
 obtain⟨l⟩:=args;have h:l6 c w l [a]:=h;cases h with|cons b t=>cases t;exact⟨_,rfl,b⟩
def vQ {c:Ctx} {w:World} {args:Array Value} {a b:AV} (h:l6 c w args.toList [a,b]):∃u v,args=#[u,v]/\Rd c w u a/\Rd c w v b:=by
 obtain⟨l⟩:=args;have h:l6 c w l [a,b]:=h;cases h with|cons d t=>cases t with|cons k t=>cases t;exact⟨_,_,rfl,d,k⟩
def sk (n:Int) (a:C9 n):(Lib.itoa n).length<=21:=by
 unfold C9 at a;exact Lib.itoa_length_le n a.1 a.2
def ki (N:Nat) (n:Int) (r:ByteArray) (h:strconv_Itoa N n=some r):Spec prog 25 [(2000,GL)] [.int n] (.str r) [] []:=by
 obtain rfl:=Option.some.inj h;refine⟨l8,fun _ h=>(by cases h),fun c w args aA f=>?_⟩;obtain⟨v,rfl,g⟩:=kG f;obtain⟨rfl,a⟩:=g.aP;refine(Tryd.strconv_Itoa n a.1 a.2 w (GL.at (aA.rep 2000 GL rfl)).tab).mono ?_;rintro e w' ⟨rfl,k,os,rfl⟩;refine⟨_,c,rfl,aE.bC ⟨rfl,rfl,rfl,by simp[Go.Sort.grow],fun b d=>?_⟩ aA.aX,.fz (.str ?_)⟩
 ·show(w.heap++os)[b]?=_;rw[Array.getElem?_append_left d]
 ·have:=sk n a;show(Lib.itoa n).toArray.size<=_;simp only[List.size_toArray,maxLen];omega
def bytesWorld_below (w:World) (e:TypeId) (s:ByteArray):Below w.heap.size w (Lib.bytesWorld w e s):=⟨rfl,rfl,rfl,by rw[Lib.bytesWorld_size];omega,fun b a=>Lib.bytesWorld_at_old w e s b a⟩
def strconv_Atoi_ok (N:Nat) (s:ByteArray) (r:Int×Bool) (h:strconv_Atoi N s=some r):Spec prog 47 [(2000,GL)] [.str s] (.aS [.int r.1,.ba r.2]) [] []:=by
 unfold strconv_Atoi at h;obtain⟨j,h⟩:=mT h;have i:=of_decide_eq_true j;have h:=Option.some.inj h;refine⟨l8,fun _ h=>(by cases h),fun c w args aA k=>?_⟩;obtain⟨v,rfl,l⟩:=kG k;obtain⟨rfl,n⟩:=l.ao;have G:=GL.at (aA.rep 2000 GL rfl);cases a:Lib.atoiAll s.data.toList with
 |ok x =>
  rw[a] at h;subst h;refine(Tryd.strconv_Atoi_ok s d9 x a w).mono ?_;rintro e w' ⟨rfl,m⟩;have d:=Lib.atoiAll_bounds a;refine⟨_,c,rfl,aE.bC ?_ aA.aX,.fz (Rf.aS (us:=[_,_]) (.cons (.int ⟨d9,d9⟩) (.cons .bl .nil)))⟩;rcases m with rfl|⟨t,rfl⟩
  ·exact Below.refl _ _
  ·exact bytesWorld_below w _ t
 |range =>
  rw[a] at h;subst h;obtain⟨ev,f,g⟩:=G.bH;refine(Tryd.strconv_Atoi_range s i a ev w f g).mono ?_;rintro e w' ⟨M,rfl,_,_,d⟩;have b:C9 (Lib.atoiSat s.data.toList):=by unfold Lib.atoiSat C9;split<;>omega
  exact⟨_,c,rfl,aE.bC d aA.aX,.fz (Rf.aS (us:=[_,_]) (.cons (.int b) (.cons (.cK _ _) .nil)))⟩
 |_ =>
  rw[a] at h;subst h;obtain⟨ev,f,g⟩:=G.w7;refine(Tryd.strconv_Atoi_syntax s i a ev w f g).mono ?_;rintro e w' ⟨M,rfl,_,_,d⟩;exact⟨_,c,rfl,aE.bC d aA.aX,.fz (Rf.aS (us:=[_,_]) (.cons (.int ⟨o9,o9⟩) (.cons (.cK _ _) .nil)))⟩
def uP (s sep:List UInt8):(Lib.cut s sep).1.length<=s.length/\(Lib.cut s sep).2.1.length<=s.length:=by
 unfold Lib.cut;split<;>simp<;>omega
def sG (N:Nat) (s sep:ByteArray) (r:ByteArray×ByteArray×Bool) (h:strings_Cut N s sep=some r):Spec prog 48 [(2000,GL)] [.str s,.str sep] (.aS [.str r.1,.str r.2.1,.bool r.2.2]) [] []:=by
 unfold strings_Cut at h;obtain⟨a,h⟩:=mT h;have b:=of_decide_eq_true a;obtain rfl:=Option.some.inj h;refine⟨l8,fun _ h=>(by cases h),fun c w args aA f=>?_⟩;obtain⟨u,v,rfl,i,j⟩:=vQ f;obtain⟨rfl,o⟩:=i.ao;obtain⟨rfl,_⟩:=j.ao;obtain⟨m,d⟩:=(GL.at (aA.rep 2000 GL rfl)).mx;refine(Tryd.strings_Cut s sep m w b d).mono ?_;rintro e w' ⟨rfl,k,rfl⟩;obtain⟨l,n⟩:=uP s.data.toList sep.data.toList;have g:s.data.toList.length=s.size:=by rw[Array.length_toList];rfl
 refine⟨_,c,rfl,aE.bC ⟨rfl,rfl,rfl,AA _,fun _ _=>rfl⟩ aA.aX,.fz (Rf.aS (us:=[_,_,_]) (.cons (.str ?_) (.cons (.str ?_) (.cons (.bool _) .nil))))⟩
 ·show(Lib.cut s.data.toList sep.data.toList).1.toArray.size<=_;rw[List.size_toArray];omega
 ·show(Lib.cut s.data.toList sep.data.toList).2.1.toArray.size<=_;rw[List.size_toArray];omega
def pM : ∃j,prog.info? 60=some j/\j.size=2:=AX.1 (show(prog.info? 60).map (·.size)=some 2 by kernel_rfl)
def tG : liesAt prog prog.depth 62 (2 / prog.cellsOf 62) 0 60 1=true:=l8
set_option maxHeartbeats 1000000 in
set_option maxRecDepth 100000 in
def sD (b:Nat) (w:World) (c:w.cell? ⟨b,0,none⟩=some (.pointer (some ⟨b,0,none⟩))) :
  Calls prog 49 #[.pointer (some ⟨b,0,none⟩)] w fun e w'=>e=.returned (.tuple #[])/\w'=w:=by
 obtain⟨j,a,_⟩:=pM
 go_enter func49,ntmps49
 go_wp2
 rw[Lib.run_neq_ptr_same w _ underlying58 a]
 go_wp2
 go_end0
 exact⟨rfl,rfl⟩
set_option maxHeartbeats 1000000 in
set_option maxRecDepth 100000 in
def ry (b:Nat) (w:World) (g:w.cell? ⟨b,0,none⟩=some (.pointer none)) (a:w.shape? b=some (62,2)) (f:w.frozen? ⟨b,0,none⟩=false) :
  Calls prog 49 #[.pointer (some ⟨b,0,none⟩)] w fun e w'=>e=.returned (.tuple #[])/\w'=w.setCell ⟨b,0,none⟩ (.pointer (some ⟨b,0,none⟩)):=by
 obtain⟨j,d,c⟩:=pM
 go_enter func49,ntmps49
 go_wp2
 rw[Lib.run_to_unsafe w ⟨b,0,none⟩ underlying58 underlying123 d (by rw[c];decide) a (Nat.zero_lt_succ 1)];simp only[Result.andThen];rw[Oper.upon_value]
 go_wp2
 rw[run_callFunc_extern func65 l8 l8 l8 (e:=Extern.AbiNoEscape.same) l8];rw[Lib.run_noEscape];simp only[Result.andThen];rw[Oper.upon_value]
 go_wp2
 rw[Lib.run_from_unsafe w ⟨b,0,none⟩ underlying123 underlying58 d a tG];simp only[Result.andThen];rw[Oper.upon_value]
 go_wp2
 go_end0
 exact⟨rfl,rfl⟩
def nM (id j:Nat):Spec prog 49 [(id,.box [.np id,.aF j] 62)] [.ptr id 0] (.aS []) [(id,.box [.np id,.aF j] 62)] []:=by
 refine⟨l8,fun _ h=>(by cases h),fun c w args aA u=>?_⟩;obtain⟨v,rfl,y⟩:=kG u;obtain rfl:=y.bL;obtain⟨us,a,x⟩:=aA.rep id _ (j3 _ _ _);have s:=(Array.getElem?_eq_some_iff.1 a).1;cases x with|cons n t=>cases t with|cons o t=>cases t with|nil =>
 rename_i p q;have b:w.cell? ⟨c.μ id,0,none⟩=some p:=by rw[Lib.cell_of_heap a];rfl
 have key:∀w':World,w'.heap[c.μ id]?=some (.cells [.pointer (some ⟨c.μ id,0,none⟩),q].toArray 62)->(∀k,k≠c.μ id->w'.heap[k]?=w.heap[k]?)->w'.heap.size=w.heap.size->w'.os=w.os->w'.tape=w.tape->w'.output=w.output ->
   ∃v c',Ending.returned (Value.tuple #[])=.returned v/\aE c w c' w' [(id,.box [.np id,.aF j] 62)] [(id,.box [.np id,.aF j] 62)] []/\Rd c' w' v (.aS []):=fun w' d f g i l m =>
  ⟨_,c,rfl,aE.write (us':=[_,q]) aA d (.cons (.hP rfl) (.cons o .nil)) f g i l m,.aS .nil⟩
 rcases n.qQ with rfl|rfl
 ·refine(ry (c.μ id) w b (by simp[World.shape?,a]) (Lib.frozen_of_heap a 0)).mono ?_;rintro e w' ⟨rfl,rfl⟩;refine key _ ?_ (fun k r=>Below.heap_setCell w _ _ k r) ?_ rfl rfl rfl
  ·simp[World.setCell,Array.getElem?_modify,a]
  ·simp[World.setCell]
 ·refine(sD (c.μ id) w b).mono ?_;rintro e w' ⟨rfl,rfl⟩;exact key _ a (fun _ _=>rfl) rfl rfl rfl rfl
theorem nh {P:Program} (w:World):∀(l:List Int) (a:Addr) (b:ByteArray),(∀j x,l[j]?=some x->w.cell? (a.add j)=some (.int .u8 x))->(loadBytes a b l.length).run P w=.ok ⟨b.data++(l.map fun n=>UInt8.ofNat n.toNat).toArray⟩ w
 |[],a,b,_=>by simp[loadBytes]
 |x::l,a,b,h=>by
  have d:w.cell? a=some (.int .u8 x):=by simpa[Addr.add] using h 0 x rfl
  have ih:=nh (P:=P) w l (a.add 1) (b.push (UInt8.ofNat x.toNat)) (fun j y f=>by
   have:=h (j+1) y (by simpa using f);have e:(a.add 1).add j=a.add (j+1):=by
    unfold Addr.add;by_cases c:j=0
    ·subst c;simp
    ·simp[c];omega
   rw[e];exact this)
  simp only[AY,loadBytes,Sem.run_bind,run_load,d,Result.andThen];rw[show x.toNat.toUInt8=UInt8.ofNat x.toNat from rfl,ih];congr 1;apply ByteArray.ext;simp[ByteArray.push]
def sg {P:Program} {e:TypeId} (a:P.cellsOf e=1) (count off n:Nat) (b:off+n<=count):liesAt P P.depth e count off e n=true:=by
 have hd:P.depth=(2*(P.types.size+Made.depth)+1)+1:=rfl;rw[hd];simp only[liesAt,Bool.or_eq_true];left;rw[hd];simp[rowAt,a,b,sameLayout,Nat.mod_one]
def qe {P:Program} (w:World) (k q r e:TypeId) (z:P.underlying k=some (.pointer e)) (p:P.cellsOf e=1) (g x cells:Nat) (o:w.shape? g=some (e,cells)) (l:List Int) (t:l.length≠0) (v:x+l.length<=cells) (u:l.length<=9223372036854775807)
  (a:∀j y,l[j]?=some y->w.cell? ((⟨g,x,none⟩:Addr).add j)=some (.int .u8 y)) :
  (Builtin.unsafeString_ #[k,q] r #[.pointer (some ⟨g,x,none⟩),.int .i64 l.length]).run P w=.ok (.string (strOfNums l)) (w.freeze ⟨g,x,none⟩ l.length):=by
 have f:=nh (P:=P) w l ⟨g,x,none⟩ .empty a;have b:=sg (P:=P) p (cells / P.cellsOf e) x l.length (by rw[p];simpa using v);have c:¬(9223372036854775807:Int)<(l.length:Int):=d9;have d:Builtin.unsafeString_ #[k,q] r #[.pointer (some ⟨g,x,none⟩),.int .i64 l.length] =
   (do
    let n <-asInt (.int .i64 l.length)
    if n < 0 then runtimePanic (.error "unsafe.String: len out of range")
    if n > IntKind.i64.max then unsupported (.unsafePointer "String: a length above the largest int")
    if n=0 then pure (.string .empty)
    else if<-variablesAt ⟨g,x,none⟩ (<-elemOf k) n.toNat then do
     let s <-loadBytes ⟨g,x,none⟩ .empty n.toNat
     freeze ⟨g,x,none⟩ n.toNat
     pure (.string s)
    else unsupported (.unsafePointer "String: not so many bytes at ptr")) := rfl
 rw[d];have h:IntKind.i64.max=9223372036854775807:=rfl;have i:¬(l.length:Int)<0:=d9;have e0:(⟨ByteArray.empty.data++(l.map fun n=>UInt8.ofNat n.toNat).toArray⟩:ByteArray)=strOfNums l:=by
  have m:ByteArray.empty.data=#[]:=rfl;rw[m];simp[strOfNums]
 rw[e0] at f;simp[asInt,asIntOf,h,c,i,t,variablesAt,o,elemOf,run_underlying z,b,f]
set_option maxHeartbeats 1000000 in
set_option maxRecDepth 100000 in
def qZ (b g x cap:Nat) (p:Value) (a:Array Value) (l:List Int) (w:World) (d:w.heap[b]?=some (.cells #[p,.slice (some ⟨g,x,none⟩) l.length cap] 62)) (i:l.length≠0) (h:l.length<=cap) (o:l.length<=9223372036854775807)
  (n:w.heap[g]?=some (.cells a 5)) (q:x+l.length<=a.size) (c:∀j y,l[j]?=some y->w.cell? ((⟨g,x,none⟩:Addr).add j)=some (.int .u8 y)) :
  Calls prog 22 #[.pointer (some ⟨b,0,none⟩)] w fun e w'=>e=.returned (.string (strOfNums l))/\w'=w.drew.freeze ⟨g,x,none⟩ l.length:=by
 have r:w.drew.cell? ⟨b,1,none⟩=some (.slice (some ⟨g,x,none⟩) l.length cap):=by
  have:w.drew.heap[b]?=some (.cells #[p,.slice (some ⟨g,x,none⟩) l.length cap] 62 (0,0)):=d;rw[Lib.cell_of_heap this];rfl
 have k:(Builtin.unsafeSliceData_ #[26] 97 #[.slice (some ⟨g,x,none⟩) l.length cap]).run prog w.drew=.ok (.pointer (some ⟨g,x,none⟩)) w.drew :=
  Lib.run_unsafeSliceData_row _ _ _ _ _ _ d9
 have m:(Builtin.unsafeString_ #[97,3] 9 #[.pointer (some ⟨g,x,none⟩),.int .i64 l.length]).run prog w.drew=.ok (.string (strOfNums l)) (w.drew.freeze ⟨g,x,none⟩ l.length) :=
  qe w.drew 97 3 9 5 underlying97 l8 g x a.size (by have f:w.drew.heap[g]?=some (.cells a 5 (0,0)):=n;simp[World.shape?,f]) l i q o c
 have mixed:prog.follows .mixedOrders=true:=l8
 go_enter func22,ntmps22
 go_wp2
 go_region_o
 all_goals (go_wp2;go_ret;exact⟨rfl,rfl⟩)
def qa (l:List Int) (id j:Nat) (d:(!l.isEmpty)=true) (a:A4 id j=false:=by rfl):Spec prog 22 [(id,.box [.np id,.aF j] 62),(j,.row 1 (l.map fun n=>[AV.ik .u8 n]) 5)] [.ptr id 0] (.str (strOfNums l)) [(id,.aH),(j,.aH)] []:=by
 have a:=M6 a;have U:l.length≠0:=by cases l<;>simp_all
 refine⟨l8,fun _ h=>(by cases h),fun c w args aA X=>?_⟩;obtain⟨v,rfl,D⟩:=kG X;obtain rfl:=D.bL;have P:lk [(id,Obj.box [.np id,.aF j] 62),(j,.row 1 (l.map fun n=>[AV.ik .u8 n]) 5)] j=some (.row 1 (l.map fun n=>[AV.ik .u8 n]) 5):=by rw[E9 _ _ a,j3]
 obtain⟨us,N,Y⟩:=aA.rep id _ (j3 _ _ _);obtain⟨css,Q,R,q3⟩:=aA.rep j _ P;rw[AN] at R;cases Y with|cons Z t=>cases t with|cons K t=>cases t with|nil =>
 rename_i p q;obtain⟨A,n,cap,rfl,C,e3,S⟩:=K.aj;have T:∀i y,l[i]?=some y->css[i]?=some [Value.int .u8 y]:=fun i y E=>by
  have hi:=(AB.1 E).1;have O:css[i]?=some css[i]:=A8 d9;have:=q3 i css[i] [AV.ik .u8 y] O (by simp[E]);rw[O];generalize css[i]=u at this;cases this with|cons h t=>cases t with|nil=>cases h with|ik=>rfl
 rcases Q.az with⟨_,hn⟩|⟨g,x,pp,L,F,D,V,a1,a2,a3,hx,a4⟩
 ·omega
 ·have hxp:=hx d9;rw[C] at D;injection D with v1 v2 v3
  subst v1 v2 v3;have f:∀i y,l[i]?=some y->w.cell? ((⟨g,x,none⟩:Addr).add i)=some (.int .u8 y):=fun i y E=>by
   obtain⟨g',x',M,z,W,H⟩:=Q.cells (T i y E);rw[C] at z;injection z with B _ _
   injection B with B
   injection B with B w2 _
   subst B w2;have:=H 0 _ rfl;rw[Q5];simpa using this
  rw[R] at N C;refine(qZ (c.μ id) g x cap p F l w N U d9 (by simp only[maxLen] at S;omega) V d9 f).mono ?_;rintro e w' ⟨rfl,rfl⟩;have I:aI c j (.row 1 (l.map fun n=>[AV.ik .u8 n]) 5) g:=by show(c.hd j).ownBlock=some g;rw[C];rfl
  have s:∀m,(w.drew.freeze ⟨g,x,none⟩ m).heap.size=w.heap.size:=fun m=>by unfold World.freeze;split<;>first|rfl|simp
  refine⟨_,c,rfl,⟨?_,?_,?_,by rw[s];exact AA _,fun _ h=>h,fun _ h=>.inl h,fun b k J=>?_,fun _ _=>⟨rfl,rfl⟩,⟨fun i o d=>?_,fun i o b d r=>?_,fun i i' o o' b _ d _ r=>?_,fun b k=>by rw[s];exact aA.aX b k⟩,fun i o b d r=>?_⟩,.fz (.str ?_)⟩
  ·unfold World.freeze;split<;>rfl
  ·unfold World.freeze;split<;>rfl
  ·unfold World.freeze;split<;>rfl
  ·have G:b≠g:=fun e=>J ⟨j,_,P,by rw[E9 _ _ a,j3];rfl,e▸I⟩;unfold World.freeze;split
   ·rfl
   ·simp only[Array.getElem?_modify];rw[Af (fun e=>G e.symm)];rfl
  ·rcases c8 d with⟨rfl,rfl⟩|⟨_,rfl,rfl⟩<;>trivial
  ·rcases c8 d with⟨rfl,rfl⟩|⟨_,rfl,rfl⟩<;>exact r.elim
  ·rcases c8 d with⟨rfl,rfl⟩|⟨_,rfl,rfl⟩<;>exact r.elim
  ·rcases c8 d with⟨rfl,rfl⟩|⟨_,rfl,rfl⟩<;>exact r.elim
  ·rw[strOfNums_size];omega
section
open Go.ChangeShapes Go.WideShapes Go.ChangeAt Go.RowKit Go.Deep
theorem w9.u8 {P:Program} {t:TypeId} (a:P.underlying t=some (.int .u8)):w9 P t 1 (fun n:Int=>[AV.ik .u8 n]) cO V8:=⟨fun h=>by
 obtain⟨n,rfl,rfl,b⟩:=DataW.trod_int a h;have d:IntKind.u8.min<=n/\n<=IntKind.u8.max:=by simpa[Lit.wf] using b
 have e1:IntKind.u8.min=0:=rfl;have c:IntKind.u8.max=255:=rfl;exact⟨n,.cons (.ik _ n) .nil,rfl,by simp[Value.oneCell'],⟨d9,d9⟩,AA _⟩⟩
theorem eN.lt {W:World} (h:eN W):∀b∈ek,b<W.heap.size:=by
 have c : prog.globalNamed "internal/strconv.uint64pow10" = some 0 := l8;obtain ⟨t,⟨s,f,_⟩,⟨r,e,_⟩,⟨m,d⟩⟩:=h;have t1:=t.cell c 0 o9;intro b a;simp only [ek,AF,List.not_mem_nil,or_false] at a;rcases a with rfl|rfl|rfl|rfl
 ·exact iQ t1
 ·exact iQ f
 ·exact iQ e
 ·exact iQ d
theorem Spec.nG {P:Program} {f:Nat} {ins:List AV} (hS:Spec P f [(2000,GL)] ins (.bool true) [(2000,GL)] []) {W:World} (i:eN W) {args:Array Value} (h:l6 (j1 W) W args.toList ins) :
  Calls P f args W fun e g=>e=.returned (.bool true)/\Below W.heap.size W g:=by
 have one:∀(id:Nat) (o:Obj),lk [(2000,GL)] id=some o->o=GL:=fun id o h=>by
  simp only[lk] at h;cases a:A4 2000 id<;>rw[a] at h
  ·cases h
  ·exact(Option.some.inj h).symm
 refine(hS.2.2 (j1 W) W args ⟨fun id o h=>?_,fun id o b h c=>?_,fun id m o n b _ h _ c=>?_,fun b a=>a⟩ h).mono ?_
 ·obtain rfl:=one id o h;exact⟨fun b a=>i.lt b a,W,i,fun _ _=>rfl⟩
 ·obtain rfl:=one id o h;exact c.elim
 ·obtain rfl:=one id o h;exact c.elim
 rintro e g ⟨v,c',rfl,d,l⟩;exact⟨by rw[l.ai],d.bQ,d.tape,d.output,d.size,fun k j=>d.aK k j fun⟨id,o,h,_,c⟩=>by
  obtain rfl:=one id o h;exact c.elim⟩
def star : "*" ++ "errors.errorString" = "*errors.errorString" := o9
def nn (u : TypeId) (h : prog.typeName? 3 u = some "*errors.errorString") : u = 155 :=
 typeName_ptr_named (nm := "errors.errorString") (by rw [star]; kernel_rfl) l8 o9 u (by rw [star]; exact h)
theorem eN.gB {W : World} {x y : String × DataW Unit} (h : laidMetH prog [x, y, ("internal/strconv.uint64pow10", Rows.laid_internal_strconv_uint64pow10), ("strconv.ErrRange", Rows.laid_strconv_ErrRange), ("strconv.ErrSyntax", Rows.laid_strconv_ErrSyntax)] W)
  (c:x.2.handleName?.isNone=true) (d:y.2.handleName?.isNone=true) (b:W.ShapedOpen prog):eN W:=by
 rw [MakeChecks.laidMetH_plain _ _ _ (by simp only [List.all_cons,c,d,Bool.true_and]; kernel_rfl)] at h;have a : laidMet prog (("internal/strconv.uint64pow10", Lib.tabData .u64 Lib.pow10Tab) :: [("strconv.ErrRange", Rows.laid_strconv_ErrRange), ("strconv.ErrSyntax", Rows.laid_strconv_ErrSyntax)]) W := h.tail.tail;obtain ⟨i,k,e,_⟩:=laid_sentinel (g:=2) (ti:=93) (tp:=155) (te:=157) (ts:=9) h.tail.tail.tail l8 l8 underlying93 nn underlying155 underlying157 rfl rfl underlying9 l8 l8;obtain ⟨j,l,f,_⟩:=laid_sentinel (g:=1) (ti:=93) (tp:=155) (te:=157) (ts:=9) h.tail.tail.tail.tail l8 l8 underlying93 nn underlying155 underlying157 rfl rfl underlying9 l8 l8;refine ⟨Lib.tabIs_of_head (g := 0) l8 l8 underlying142 underlying121 l8 l8 a, ⟨_, by simpa using World.var?_cell (show prog.globalNamed "strconv.ErrSyntax" = some 1 by kernel_rfl) f 0, .inr ⟨_, _, rfl⟩⟩, ⟨_, by simpa using World.var?_cell (show prog.globalNamed "strconv.ErrRange" = some 2 by kernel_rfl) e 0, .inr ⟨_, _, rfl⟩⟩, ?_⟩;exact cell_of_shapedOpen_int (zero:=#[.int .i64 0]) (t:=3) b (of_decide_eq_true l8) l8 rfl l8 l8 underlying3
end
section
open Go.ChangeShapes Go.WideShapes Go.ChangeAt Go.RowKit Go.Deep
set_option maxRecDepth 100000 in
def ua : w9 prog 77 5 dU k8 db:=⟨fun {H d w g a fuel p x} h=>by
  obtain⟨q,n,_,D,f,j,e⟩:=DataW.trod_struct underlying77 h;have B:p.length=5:=f.trans l8;have C:q.length=5:=j;have c:prog.cellsOf 3=1:=l8;have i:prog.cellsOf 9=1:=l8
  match p,B,q,C with
  |[k,l,m,c3,o],_,[U,V,W,X,Y],_ =>
    have f0:DataW.trod d prog w 0 g a n 3 [k]=some U:=(by simpa[c] using e 0 _ rfl);obtain⟨r,P,l0,K,E,Z⟩:=(w9.int underlying3).out f0;have f1:DataW.trod d prog w 0 g a n 3 [l]=some V:=by simpa[c] using e 1 _ rfl
    obtain⟨s,Q,l1,L,F,b1⟩:=(w9.int underlying3).out f1;have z:DataW.trod d prog w 0 g a n 3 [m]=some W:=by simpa[c] using e 2 _ rfl
    obtain⟨t,R,l2,M,G,b2⟩:=(w9.int underlying3).out z;have f3:DataW.trod d prog w 0 g a n 3 [c3]=some X:=by simpa[c] using e 3 _ rfl
    obtain⟨v,S,l3,N,I,b3⟩:=(w9.int underlying3).out f3;have A:DataW.trod d prog w 0 g a n 9 [o]=some Y:=by simpa[i] using e 4 _ rfl
    obtain⟨y,T,l4,O,J,b4⟩:=(w9.str underlying9).out A;refine⟨⟨r,s,t,v,y⟩,(P.append (Q.append (R.append (S.append T)))),rfl,fun u b=>?_,⟨E,F,G,I,J⟩,?_⟩
    · have b:u∈[k]++[l]++[m]++[c3]++[o]:=b
      simp only[AS] at b;rcases b with(((b|b)|b)|b)|b
      · exact K u b
      · exact L u b
      · exact M u b
      · exact N u b
      · exact O u b
    · subst D
      simp only[AO,List.map_nil,Rows.uptoBulk,Rows.uptoBulkAll,db];omega⟩
def tj : w9 prog 44 1 (fun l:(List Ins)=>[AV.sl 5 (l.map dU)]) (dG k8) (Y6 db):=w9.slice underlying44 l8 o9 ua
set_option maxRecDepth 100000 in
def uR : w9 prog 46 5 U8 kP dD:=⟨fun {H e w i a fuel q x} h=>by
  obtain⟨r,n,_,E,g,k,f⟩:=DataW.trod_struct underlying46 h;have C:q.length=5:=g.trans l8;have D:r.length=5:=k;have c:prog.cellsOf 3=1:=l8;have j:prog.cellsOf 9=1:=l8;have d:prog.cellsOf 44=1:=l8
  match q,C,r,D with
  |[l,m,o,c3,p],_,[V,W,X,Y,Z],_ =>
    have f0:DataW.trod e prog w 0 i a n 9 [l]=some V:=(by simpa[j] using f 0 _ rfl);obtain⟨s,Q,l0,L,F,b0⟩:=(w9.str underlying9).out f0;have f1:DataW.trod e prog w 0 i a n 3 [m]=some W:=by simpa[c] using f 1 _ rfl
    obtain⟨t,R,l1,M,G,b1⟩:=(w9.int underlying3).out f1;have A:DataW.trod e prog w 0 i a n 3 [o]=some X:=by simpa[c] using f 2 _ rfl
    obtain⟨v,S,l2,N,I,b2⟩:=(w9.int underlying3).out A;have f3:DataW.trod e prog w 0 i a n 3 [c3]=some Y:=by simpa[c] using f 3 _ rfl
    obtain⟨y,T,l3,O,J,b3⟩:=(w9.int underlying3).out f3;have B:DataW.trod e prog w 0 i a n 44 [p]=some Z:=by simpa[d] using f 4 _ rfl
    obtain⟨z,U,l4,P,K,b4⟩:=tj.out B;refine⟨⟨s,t,v,y,z⟩,(Q.append (R.append (S.append (T.append U)))),rfl,fun u b=>?_,⟨F,G,I,J,K⟩,?_⟩
    · have b:u∈[l]++[m]++[o]++[c3]++[p]:=b
      simp only[AS] at b;rcases b with(((b|b)|b)|b)|b
      · exact L u b
      · exact M u b
      · exact N u b
      · exact O u b
      · exact P u b
    · subst E
      simp only[AO,List.map_nil,Rows.uptoBulk,Rows.uptoBulkAll,dD];omega⟩
def uE : w9 prog 39 1 (fun l:(List Me)=>[AV.sl 5 (l.map U8)]) (dG kP) (Y6 dD):=w9.slice underlying39 l8 o9 uR
set_option maxRecDepth 100000 in
def tt : w9 prog 41 4 ft j7 dQ:=⟨fun {H f w i a fuel p x} h=>by
  obtain⟨q,n,_,B,e,k,g⟩:=DataW.trod_struct underlying41 h;have z:p.length=4:=e.trans l8;have A:q.length=4:=k;have c:prog.cellsOf 3=1:=l8;have j:prog.cellsOf 9=1:=l8;have d:prog.cellsOf 39=1:=l8
  match p,z,q,A with
  |[l,m,o,c3],_,[P,Q,R,S],_ =>
    have f0:DataW.trod f prog w 0 i a n 9 [l]=some P:=(by simpa[j] using g 0 _ rfl);obtain⟨r,L,X,G,C,T⟩:=(w9.str underlying9).out f0;have f1:DataW.trod f prog w 0 i a n 3 [m]=some Q:=by simpa[c] using g 1 _ rfl
    obtain⟨s,M,Y,I,D,U⟩:=(w9.int underlying3).out f1;have y:DataW.trod f prog w 0 i a n 3 [o]=some R:=by simpa[c] using g 2 _ rfl
    obtain⟨t,N,l2,J,E,V⟩:=(w9.int underlying3).out y;have f3:DataW.trod f prog w 0 i a n 39 [c3]=some S:=by simpa[d] using g 3 _ rfl
    obtain⟨v,O,Z,K,F,W⟩:=uE.out f3;refine⟨⟨r,s,t,v⟩,(L.append (M.append (N.append O))),rfl,fun u b=>?_,⟨C,D,E,F⟩,?_⟩
    · have b:u∈[l]++[m]++[o]++[c3]:=b
      simp only[AS] at b;rcases b with((b|b)|b)|b
      · exact G u b
      · exact I u b
      · exact J u b
      · exact K u b
    · subst B
      simp only[AO,List.map_nil,Rows.uptoBulk,Rows.uptoBulkAll,dQ];omega⟩
def uT : w9 prog 22 1 (fun l:(List Cl)=>[AV.sl 4 (l.map ft)]) (dG j7) (Y6 dQ):=w9.slice underlying22 l8 o9 tt
set_option maxRecDepth 100000 in
def u4 : w9 prog 70 2 eV kW dj:=⟨fun {H j w l a fuel i x} h=>by
  obtain⟨m,n,_,s,d,e,k⟩:=DataW.trod_struct underlying70 h;have q:i.length=2:=d.trans l8;have r:m.length=2:=e;have c:prog.cellsOf 3=1:=l8
  match i,q,m,r with
  |[f,g],_,[C,D],_ =>
    have f0:DataW.trod j prog w 0 l a n 3 [f]=some C:=(by simpa[c] using k 0 _ rfl);obtain⟨o,A,G,y,t,E⟩:=(w9.int underlying3).out f0;have f1:DataW.trod j prog w 0 l a n 3 [g]=some D:=by simpa[c] using k 1 _ rfl
    obtain⟨p,B,I,z,v,F⟩:=(w9.int underlying3).out f1;refine⟨⟨o,p⟩,(A.append B),rfl,fun u b=>?_,⟨t,v⟩,?_⟩
    · have b:u∈[f]++[g]:=b
      simp only[AS] at b;rcases b with b|b
      · exact y u b
      · exact z u b
    · subst s
      simp only[AO,List.map_nil,Rows.uptoBulk,Rows.uptoBulkAll,dj];omega⟩
def th : w9 prog 66 1 (fun l:(List V)=>[AV.sl 2 (l.map eV)]) (dG kW) (Y6 dj):=w9.slice underlying66 l8 o9 u4
set_option maxRecDepth 100000 in
def uO : w9 prog 68 2 jD jv dT:=⟨fun {H k w m a fuel j x} h=>by
  obtain⟨o,n,_,t,d,f,l⟩:=DataW.trod_struct underlying68 h;have r:j.length=2:=d.trans l8;have s:o.length=2:=f;have e:prog.cellsOf 3=1:=l8;have c:prog.cellsOf 66=1:=l8
  match j,r,o,s with
  |[g,i],_,[D,E],_ =>
    have f0:DataW.trod k prog w 0 m a n 3 [g]=some D:=(by simpa[e] using l 0 _ rfl);obtain⟨p,B,I,z,v,F⟩:=(w9.int underlying3).out f0;have f1:DataW.trod k prog w 0 m a n 66 [i]=some E:=by simpa[c] using l 1 _ rfl
    obtain⟨q,C,J,A,y,G⟩:=th.out f1;refine⟨⟨p,q⟩,(B.append C),rfl,fun u b=>?_,⟨v,y⟩,?_⟩
    · have b:u∈[g]++[i]:=b
      simp only[AS] at b;rcases b with b|b
      · exact z u b
      · exact A u b
    · subst t
      simp only[AO,List.map_nil,Rows.uptoBulk,Rows.uptoBulkAll,dT];omega⟩
def tv : w9 prog 23 1 (fun l:(List Ob)=>[AV.sl 2 (l.map jD)]) (dG jv) (Y6 dT):=w9.slice underlying23 l8 o9 uO
set_option maxRecDepth 100000 in
def uc : w9 prog 25 3 cE j0 eZ:=⟨fun {H g w k a fuel p x} h=>by
  obtain⟨q,n,_,A,e,j,i⟩:=DataW.trod_struct underlying25 h;have y:p.length=3:=e.trans l8;have z:q.length=3:=j;have f:prog.cellsOf 3=1:=l8;have c:prog.cellsOf 22=1:=l8;have d:prog.cellsOf 23=1:=l8
  match p,y,q,z with
  |[l,m,o],_,[L,M,N],_ =>
    have f0:DataW.trod g prog w 0 k a n 22 [l]=some L:=(by simpa[c] using i 0 _ rfl);obtain⟨r,I,R,E,B,O⟩:=uT.out f0;have f1:DataW.trod g prog w 0 k a n 23 [m]=some M:=by simpa[d] using i 1 _ rfl
    obtain⟨s,J,S,F,C,P⟩:=tv.out f1;have v:DataW.trod g prog w 0 k a n 3 [o]=some N:=by simpa[f] using i 2 _ rfl
    obtain⟨t,K,l2,G,D,Q⟩:=(w9.int underlying3).out v;refine⟨⟨r,s,t⟩,(I.append (J.append K)),rfl,fun u b=>?_,⟨B,C,D⟩,?_⟩
    · have b:u∈[l]++[m]++[o]:=b
      simp only[AS] at b;rcases b with(b|b)|b
      · exact E u b
      · exact F u b
      · exact G u b
    · subst A
      simp only[AO,List.map_nil,Rows.uptoBulk,Rows.uptoBulkAll,eZ];omega⟩
def u5 : w9 prog 26 1 (fun l:(List Int)=>[AV.sl 1 (l.map (kU .u8))]) (dG cO) (Y6 V8):=w9.slice underlying26 l8 o9 (w9.u8 underlying5)
end
def P8 (N:Nat) (b:(List Int)) (a:ByteArray):Option (Int×Bool×(List Int)) :=
  bif AE (b.length+a.size) 140737488355328 then some ((a.size:Int),true,b++O8 a)else none
def R9 (N:Nat) (a:(List Int)) (b:Int):Option (Bool×(List Int)) :=
  bif AE ((a.length+[b].length)*1) 140737488355328 then some (true,a++[b])else none
def K8 (N:Nat) (a:(List Int)) (b:ByteArray):Option (List Int) :=
  (P8 N a b).bind fun c=>(R9 N c.2.2 32).bind fun d=>some d.2
def H5 (N:Nat):List Int->Nat->(List Int)->Option ((List Int))
  |[],d,c=>some c
  |x10::rest7,d,c=>(strconv_Itoa N x10).bind fun a=>(K8 N c a).bind fun b=>H5 N rest7 (d+1) b
def G6 (N:Nat) (a:(List Int)) (b:(List Int)):Option (List Int) :=
  (H5 N b 0 a).bind fun c=>some c
def F5 (N:Nat):List Ins->Nat->(List Int)->Option ((List Int))
  |[],g,f=>some f
  |x15::rest12,g,f=>((G6 N f [x15.op,x15.a]).bind fun b=>(bif x15.op=14 then(K8 N b x15.name).bind fun c=>some c else some b).bind fun e=>some e:Option (List Int)).bind fun d=>F5 N rest12 (g+1) d
def Y0 (N:Nat) (c:(List Int)) (a:Me):Option (List Int) :=
  (K8 N c a.name).bind fun d=>(G6 N d [a.args,a.aL,a.aQ,(a.code.length:Int)]).bind fun e=>(F5 N a.code 0 e).bind fun b=>some b
def O4 (N:Nat):List Me->Nat->(List Int)->Option ((List Int))
  |[],b,a=>some a
  |x30::rest27,b,a=>(Y0 N a x30).bind fun c=>O4 N rest27 (b+1) c
def O3 (N:Nat):List Cl->Nat->(List Int)->Option ((List Int))
  |[],e,d=>some d
  |x13::rest10,e,d=>(K8 N d x13.name).bind fun a=>(G6 N a [x13.aJ,x13.aD,(x13.a8.length:Int)]).bind fun b=>(O4 N x13.a8 0 b).bind fun c=>O3 N rest10 (e+1) c
def O5 (N:Nat):List V->Nat->(List Int)->Option ((List Int))
  |[],b,a=>some a
  |x62::rest59,b,a=>(G6 N a [x62.k,x62.n]).bind fun c=>O5 N rest59 (b+1) c
def O6 (N:Nat):List Ob->Nat->(List Int)->Option ((List Int))
  |[],b,a=>some a
  |x47::rest44,b,a=>(G6 N a [x47.cls,(x47.aD.length:Int)]).bind fun c=>(O5 N x47.aD 0 c).bind fun d=>O6 N rest44 (b+1) d
def fQ (N:Nat) (a:Wd):Option (List Int) :=
  (G6 N [] [a.aR,(a.a7.length:Int)]).bind fun d=>(O3 N a.a7 0 d).bind fun e=>(G6 N e [(a.heap.length:Int)]).bind fun c=>(O6 N a.heap 0 c).bind fun b=>bif !b.isEmpty then some (O8 (strOfNums b))else none
def F3 (N:Nat) (b:l7):Option (ByteArray×l7) :=
  (strings_Cut N b.s ⟨#[32]⟩).bind fun a=>(bif !a.2.2 then some true else some (decide (a.1=⟨#[]⟩))).bind fun c=>bif c then some (⟨#[]⟩,⟨b.s,false⟩)else some (a.1,⟨a.2.1,b.fN⟩)
def j6 (N:Nat) (d:l7):Option (Int×l7) :=
  (F3 N d).bind fun a=>(strconv_Atoi N a.1).bind fun b=>(bif !b.2 then some true else(strconv_Itoa N b.1).bind fun e=>some (!e=a.1)).bind fun f=>(bif f then some ⟨a.2.s,false⟩else some a.2).bind fun c=>some (b.1,c)
def D5 (N:Nat) (b:l7) (c:Int):Option (Int×l7) :=
  (j6 N b).bind fun a=>(bif a.1<0 then some true else some (decide (c<a.1))).bind fun d=>bif d then some (0,⟨a.2.s,false⟩)else some (a.1,a.2)
def D7 (N:Nat):Nat->Nat->l7->(List Ins)->Option ((l7×(List Ins)))
  |0,e,d,c=>some (d,c)
  |h+1,e,d,c=>(j6 N d).bind fun a=>(j6 N a.2).bind fun b=>(bif a.1=14 then(F3 N b.2).bind fun f=>some (f.2,f.1)else some (b.2,AK)).bind fun(i,g)=>bif AE ((c.length+[(⟨a.1,b.1,0,0,g⟩:Ins)].length)*48) 140737488355328 then D7 N h (e+1) i (c++[⟨a.1,b.1,0,0,g⟩])else none
def M3 (N:Nat) (h:l7):Option (Me×l7) :=
  (F3 N h).bind fun c=>(j6 N c.2).bind fun d=>(j6 N d.2).bind fun e=>(j6 N e.2).bind fun f=>(D5 N f.2 60).bind fun g=>(D7 N (g.1-((0:Nat):Int)).toNat 0 g.2 []).bind fun(a,b)=>some (⟨c.1,d.1,e.1,f.1,b⟩,a)
def u7 (N:Nat):Nat->Nat->l7->(List Me)->Option ((l7×(List Me)))
  |0,d,c,a=>some (c,a)
  |e+1,d,c,a=>(M3 N c).bind fun b=>bif AE ((a.length+[b.1].length)*64) 140737488355328 then u7 N e (d+1) b.2 (a++[b.1])else none
def D8 (N:Nat):Nat->Nat->l7->(List Cl)->Option ((l7×(List Cl)))
  |0,j,i,f=>some (i,f)
  |g+1,j,i,f=>(F3 N i).bind fun a=>(j6 N a.2).bind fun b=>(j6 N b.2).bind fun c=>(D5 N c.2 8).bind fun d=>(u7 N (d.1-((0:Nat):Int)).toNat 0 d.2 []).bind fun(h,e)=>bif AE ((f.length+[(⟨a.1,b.1,c.1,e⟩:Cl)].length)*56) 140737488355328 then D8 N g (j+1) h (f++[⟨a.1,b.1,c.1,e⟩])else none
def u6 (N:Nat):Nat->Nat->l7->(List V)->Option ((l7×(List V)))
  |0,e,d,a=>some (d,a)
  |f+1,e,d,a=>(j6 N d).bind fun b=>(j6 N b.2).bind fun c=>bif AE ((a.length+[(⟨b.1,c.1⟩:V)].length)*16) 140737488355328 then u6 N f (e+1) c.2 (a++[⟨b.1,c.1⟩])else none
def D9 (N:Nat):Nat->Nat->l7->(List Ob)->Option ((l7×(List Ob)))
  |0,d,c,a=>some (c,a)
  |g+1,d,c,a=>(j6 N c).bind fun b=>(D5 N b.2 6).bind fun e=>(u6 N (e.1-((0:Nat):Int)).toNat 0 e.2 []).bind fun(h,f)=>bif AE ((a.length+[(⟨b.1,f⟩:Ob)].length)*32) 140737488355328 then D9 N g (d+1) h (a++[⟨b.1,f⟩])else none
def Y7 (N:Nat) (h:l7):Option (Wd×l7) :=
  (j6 N h).bind fun f=>(D5 N f.2 12).bind fun g=>(D8 N (g.1-((0:Nat):Int)).toNat 0 g.2 []).bind fun(b,c)=>(D5 N b 60).bind fun a=>(D9 N (a.1-((0:Nat):Int)).toNat 0 a.2 []).bind fun(d,e)=>some (⟨c,e,f.1⟩,d)
def R4 (N:Nat) (b:ByteArray):Nat->Nat->Option (J4 Bool Unit)
  |0,a=>some (.next ())
  |c+1,a=>((hA b (a:Int)).bind fun d=>bif(d.toNat:Int)<=32 then some true else(hA b (a:Int)).bind fun e=>some (126<(e.toNat:Int)):Option Bool).bind fun f=>bif f then some (.ret false)else R4 N b c (a+1)
def gR (N:Nat) (a:ByteArray):Option Bool :=
  (bif(a.size:Int)<1 then some true else some (decide (12<(a.size:Int)))).bind fun b=>bif b then some false else(R4 N a ((a.size:Int)-((0:Nat):Int)).toNat 0).bind fun o=>match o with|.ret r=>some r|.next ()=>some true
def U0 (N:Nat) (a:Wd):Nat->Int->Int->Int->Option (Int)
  |0,_,_,_=>none
  |c+1,b,g,h=>(bif 0<=b then bif b<(a.a7.length:Int)then some (decide (h<=(a.a7.length:Int)))else some false else some false).bind fun d=>bif d then(H7 a.a7 b).bind fun e=>(H7 a.a7 b).bind fun f=>U0 N a c f.aJ (wr (g+e.aD)) (wr (h+1))else some g
def Y4 (N:Nat) (a:Wd) (b:Int):Option Int :=
  (U0 N a N b 0 0).bind fun c=>some c
def l5 (N:Nat) (j:(List Me)) (k:ByteArray) (l:(Me->ByteArray->Option Int)):Nat->Int->Int->Option (Int)
  |0,_,_=>none
  |c+1,a,b=>bif a<b then(bif 0<=wr (a+b)then bif C9 (wr (a+b)/2)then(H7 j (wr (a+b)/2)).bind fun i=>(l i k).bind fun d=>(bif d<0 then some (wr (wr (a+b)/2+1),b)else some (a,wr (a+b)/2)).bind fun(g,h)=>some (g,h)else none else none).bind fun(e,f)=>l5 N j k l c e f else some a
def o6 (N:Nat) (a:(List Me)) (f:ByteArray) (g:Me->ByteArray->Option Int):Option (Int×Bool) :=
  (l5 N a f g N 0 (a.length:Int)).bind fun d=>(bif d<(a.length:Int)then(H7 a d).bind fun e=>(g e f).bind fun b=>some (decide (b=0))else some false).bind fun c=>some (d,c)
def cmp_isNaN_string (N:Nat) (a:ByteArray):Option Bool :=
  some (!a=a)
def kf (N:Nat) (a:ByteArray) (b:ByteArray):Option Int :=
  (cmp_isNaN_string N a).bind fun d=>(cmp_isNaN_string N b).bind fun c=>bif d then bif c then some 0 else some (-1)else bif c then some 1 else bif Q6 a b then some (-1)else bif !(Q6 a b||a=b)then some 1 else some 0
def T9 (N:Nat) (a:Me) (b:ByteArray):Option Int :=
  (kf N a.name b).bind fun c=>some c
def Q9 (N:Nat) (a:Wd) (i:ByteArray):Nat->Int->Int->Option (J4 (Int×Int) Unit)
  |0,_,_=>none
  |k+1,c,j=>(bif 0<=c then bif c<(a.a7.length:Int)then some (decide (j<=(a.a7.length:Int)))else some false else some false).bind fun d=>bif d then(H7 a.a7 c).bind fun f=>(o6 N f.a8 i fun e g=>T9 N e g).bind fun b=>bif b.2 then some (.ret (c,b.1))else(H7 a.a7 c).bind fun h=>Q9 N a i k h.aJ (wr (j+1))else some (.next ())
def jf (N:Nat) (a:Wd) (b:Int) (c:ByteArray):Option (Int×Int) :=
  (Q9 N a c N b 0).bind fun o=>match o with|.ret r=>some r|.next ()=>some (-1,-1)
def iJ (N:Nat) (b:Wd) (a:Me):Option Bool :=
  (jf N b 3 a.name).bind fun c=>(bif 0<=c.2 then(H7 b.a7 3).bind fun e=>(H7 e.a8 c.2).bind fun f=>bif a.aQ=f.aQ then bif a.args=1 then bif a.aL=0 then some (decide ((a.code.length:Int)=0))else some false else some false else some false else some false).bind fun d=>some d
def M5 (N:Nat) (a:Int) (b:Int):Option Bool :=
  (bif 0<=a then some (decide (a<b))else some false).bind fun c=>some c
def jX (N:Nat) (y:Wd) (z:Int) (e:Me) (d:Ins):Option Int :=
  ((bif d.op=1 then some (decide (d.op=1))else(bif d.op=6 then some (decide (d.op=6))else(bif d.op=7 then some (decide (d.op=7))else(bif d.op=8 then some (decide (d.op=8))else(bif d.op=9 then some (decide (d.op=9))else(bif d.op=10 then some (decide (d.op=10))else some (decide (d.op=17))).bind fun q=>some q).bind fun p=>some p).bind fun n=>some n).bind fun m=>some m).bind fun B=>some B).bind fun A=>(bif A then some (.next (d.a=0,false))else(bif d.op=2 then(M5 N d.a e.args).bind fun f=>some (.next (f,false))else(bif d.op=3 then some (decide (d.op=3))else some (decide (d.op=11))).bind fun s=>(bif s then(M5 N d.a e.aL).bind fun g=>some (.next (g,false))else(bif d.op=4 then some (decide (d.op=4))else some (decide (d.op=12))).bind fun t=>(bif t then(Y4 N y z).bind fun h=>(M5 N d.a h).bind fun i=>some (.next (i,false))else(bif d.op=5 then(bif -1073741824<=d.a then some (decide (d.a<=1073741824))else some false).bind fun u=>some (.next (u,false))else(bif d.op=13 then(bif d.a=0 then some true else bif 4<=d.a then some (decide (d.a<(y.a7.length:Int)))else some false).bind fun v=>some (.next (v,false))else(bif d.op=14 then(M5 N d.a 5).bind fun j=>some (.next (j,true))else(bif d.op=15 then some (decide (d.op=15))else some (decide (d.op=16))).bind fun w=>bif w then(M5 N d.a (e.code.length:Int)).bind fun k=>some (.next (k,false))else some (.ret 1):Option (J4 Int (Bool×Bool))).bind fun o=>match o with|.ret r=>some (.ret r)|.next (v68,v69)=>some (.next (v68,v69)):Option (J4 Int (Bool×Bool))).bind fun o=>match o with|.ret r=>some (.ret r)|.next (v59,v60)=>some (.next (v59,v60)):Option (J4 Int (Bool×Bool))).bind fun o=>match o with|.ret r=>some (.ret r)|.next (v52,v53)=>some (.next (v52,v53)):Option (J4 Int (Bool×Bool))).bind fun o=>match o with|.ret r=>some (.ret r)|.next (v44,v45)=>some (.next (v44,v45)):Option (J4 Int (Bool×Bool))).bind fun o=>match o with|.ret r=>some (.ret r)|.next (v35,v36)=>some (.next (v35,v36)):Option (J4 Int (Bool×Bool))).bind fun o=>match o with|.ret r=>some (.ret r)|.next (v26,v27)=>some (.next (v26,v27)):Option (J4 Int (Bool×Bool))).bind fun o=>match o with|.ret r=>some (.ret r)|.next (v22,v23)=>some (.next (v22,v23)):Option (J4 Int (Bool×Bool))).bind fun o=>match o with|.ret r=>some r|.next (v1,v2)=>bif !v1 then some 3 else(bif v2 then(gR N d.name).bind fun l=>bif !l then some true else bif !v2 then bif !d.name=⟨#[]⟩then some true else bif !d.b=0 then some true else some (!d.c=0)else bif !d.b=0 then some true else some (!d.c=0)else bif !v2 then bif !d.name=⟨#[]⟩then some true else bif !d.b=0 then some true else some (!d.c=0)else bif !d.b=0 then some true else some (!d.c=0)).bind fun x=>bif x then some 2 else some 0
def jZ (N:Nat) (b:Ins):Option (Int×Int) :=
  (bif b.op=9 then some (decide (b.op=9))else(bif b.op=11 then some (decide (b.op=11))else(bif b.op=12 then some (decide (b.op=12))else(bif b.op=16 then some (decide (b.op=16))else some (decide (b.op=17))).bind fun c=>some c).bind fun f=>some f).bind fun e=>some e).bind fun d=>bif d then some (1,0)else bif b.op=10 then some (1,2)else bif b.op=14 then some (wr (b.a+1),1)else bif b.op=15 then some (0,0)else some (0,1)
def K4 (N:Nat):Nat->Nat->(List Int)->Option ((List Int))
  |0,a,b=>some b
  |c+1,a,b=>(H7 b (a:Int)).bind fun d=>K4 N c (a+1) (b.set (a:Int).toNat (-1))
def N8 (N:Nat) (i:Me):Nat->(List Int)->(List J3)->Option (J4 ((List Int)×Y2) (List Int))
  |0,_,_=>none
  |j+1,g,e=>bif 0<(e.length:Int)then((H7 e 0).bind fun b=>(H7 e 0).bind fun d=>bif 0<=(1:Int)&&1<=(e.length:Int)then(bif b.f0<0 then some true else some (decide ((i.code.length:Int)<=b.f0))).bind fun k=>bif k then some (.ret ([],⟨9,(i.code.length:Int)⟩))else(H7 g b.f0).bind fun q=>bif 0<=q then(H7 g b.f0).bind fun s=>bif !s=d.f1 then some (.ret ([],⟨8,b.f0⟩))else some (.next (g,e.drop (1:Int).toNat))else(H7 g b.f0).bind fun t=>(H7 i.code b.f0).bind fun f=>(jZ N f).bind fun c=>(bif d.f1<c.1 then some true else bif f.op=17 then some (!d.f1=1)else some false).bind fun l=>bif l then some (.ret ([],⟨8,b.f0⟩))else bif 12<wr (d.f1+wr (c.2-c.1))then some (.ret ([],⟨4,b.f0⟩))else(bif !f.op=15 then some (!f.op=17)else some false).bind fun m=>(bif m then bif AE (((e.drop (1:Int).toNat).length+[(⟨wr (b.f0+1),wr (d.f1+wr (c.2-c.1))⟩:J3)].length)*16) 140737488355328 then some (e.drop (1:Int).toNat++[⟨wr (b.f0+1),wr (d.f1+wr (c.2-c.1))⟩])else none else some (e.drop (1:Int).toNat)).bind fun h=>(bif f.op=15 then some true else some (decide (f.op=16))).bind fun n=>(bif n then bif AE ((h.length+[(⟨f.a,wr (d.f1+wr (c.2-c.1))⟩:J3)].length)*16) 140737488355328 then some (h++[⟨f.a,wr (d.f1+wr (c.2-c.1))⟩])else none else some h).bind fun p=>some (.next (g.set b.f0.toNat d.f1,p))else none:Option (J4 ((List Int)×Y2) ((List Int)×(List J3)))).bind fun o=>match o with|.ret r=>some (.ret r)|.next (v29,v30)=>N8 N i j v29 v30 else some (.next g)
def jV (N:Nat) (a:Me):Option ((List Int)×Y2) :=
  bif 0<=(a.code.length:Int)&&(a.code.length:Int)<=140737488355328&&(a.code.length:Int)*8<=140737488355328 then(K4 N (((AJ (a.code.length:Int).toNat (0:Int)).length:Int)-((0:Nat):Int)).toNat 0 (AJ (a.code.length:Int).toNat 0)).bind fun b=>(N8 N a N b [⟨0,0⟩]).bind fun o=>match o with|.ret r=>some r|.next v22=>some (v22,⟨0,0⟩)else none
def Q8 (N:Nat) (c:Wd) (d:Int) (e:Me):List Ins->Nat->Option (J4 Y2 Unit)
  |[],a=>some (.next ())
  |x28::rest25,a=>(jX N c d e x28).bind fun b=>bif !b=0 then some (.ret ⟨b,(a:Int)⟩)else Q8 N c d e rest25 (a+1)
def jh (N:Nat) (e:Wd) (b:Int) (a:Me):Option Y2 :=
  (bif b<0 then some true else some (decide ((e.a7.length:Int)<=b))).bind fun g=>bif g then some ⟨6,0⟩else(gR N a.name).bind fun f=>bif !f then some ⟨7,0⟩else(bif a.args<0 then some true else bif 4<a.args then some true else bif a.aL<0 then some true else some (decide (6<a.aL))).bind fun h=>bif h then some ⟨3,0⟩else bif !a.aQ=0 then some ⟨1,0⟩else(bif(a.code.length:Int)<1 then some true else some (decide (60<(a.code.length:Int)))).bind fun d=>bif d then some ⟨5,0⟩else(Q8 N e b a a.code 0).bind fun o=>match o with|.ret r=>some r|.next ()=>(jV N a).bind fun c=>some c.2
def jc (N:Nat) (a:V) (d:Int):Option Int :=
  ((bif a.k=0 then some (decide (a.k=0))else(bif a.k=1 then some (decide (a.k=1))else some (decide (a.k=2))).bind fun f=>some f).bind fun e=>(bif e then bif !a.n=0 then some (.ret 2)else some (.next ())else(bif a.k=3 then(bif a.n< -1073741824 then some true else some (decide (1073741824<a.n))).bind fun b=>bif b then some (.ret 3)else some (.next ())else bif a.k=4 then(bif a.n<0 then some true else some (decide (d<=a.n))).bind fun c=>bif c then some (.ret 6)else some (.next ())else some (.ret 1):Option (J4 Int Unit)).bind fun o=>match o with|.ret r=>some (.ret r)|.next ()=>some (.next ()):Option (J4 Int Unit)).bind fun o=>match o with|.ret r=>some (.ret r)|.next ()=>some (.next ()):Option (J4 Int Unit)).bind fun o=>match o with|.ret r=>some r|.next ()=>some 0
def U4 (N:Nat) (c:Wd):List V->Nat->Option (J4 Int Unit)
  |[],a=>some (.next ())
  |x29::rest26,a=>(jc N x29 (c.heap.length:Int)).bind fun b=>bif !b=0 then some (.ret b)else U4 N c rest26 (a+1)
def U9 (N:Nat) (a:Wd):List Ob->Nat->Option (J4 Int Unit)
  |[],e=>some (.next ())
  |x7::rest4,e=>(bif !x7.cls=0 then bif x7.cls<4 then some true else bif(a.a7.length:Int)<=x7.cls then some true else(Y4 N a x7.cls).bind fun b=>some (!(x7.aD.length:Int)=b)else(Y4 N a x7.cls).bind fun c=>some (!(x7.aD.length:Int)=c)).bind fun d=>bif d then some (.ret 8)else(U4 N a x7.aD 0).bind fun o=>match o with|.ret r=>some (.ret r)|.next ()=>U9 N a rest4 (e+1)
def lJ (N:Nat) (a:Wd):Option Int :=
  (U9 N a a.heap 0).bind fun o=>match o with|.ret r=>some r|.next ()=>some 0
def Q7 (N:Nat) (c:Wd):List Cl->Nat->(List (ByteArray×Bool))->Option (J4 Int Unit)
  |[],a,b=>some (.next ())
  |x24::rest21,a,b=>((gR N x24.name).bind fun d=>bif !d then some true else bif cZ x24.name b then some true else bif(a:Int)<(c.a7.length:Int)then(H7 c.a7 (a:Int)).bind fun g=>some (!x24.name=g.name)else some false:Option Bool).bind fun e=>bif e then some (.ret 7)else bif AE (b.length+1) 140737488355328 then(bif(a:Int)<(c.a7.length:Int)then(H7 c.a7 (a:Int)).bind fun h=>bif !x24.aJ=h.aJ then some true else bif !x24.aD=0 then some true else bif(c.a7.length:Int)<=(a:Int)then bif x24.aJ<0 then some true else bif(a:Int)<=x24.aJ then some true else bif !x24.aJ=0 then bif x24.aJ<4 then some true else bif x24.aD<0 then some true else some (decide (6<x24.aD))else bif x24.aD<0 then some true else some (decide (6<x24.aD))else bif x24.aD<0 then some true else some (decide (6<x24.aD))else bif(c.a7.length:Int)<=(a:Int)then bif x24.aJ<0 then some true else bif(a:Int)<=x24.aJ then some true else bif !x24.aJ=0 then bif x24.aJ<4 then some true else bif x24.aD<0 then some true else some (decide (6<x24.aD))else bif x24.aD<0 then some true else some (decide (6<x24.aD))else bif x24.aD<0 then some true else some (decide (6<x24.aD))).bind fun f=>bif f then some (.ret 3)else Q7 N c rest21 (a+1) (bh x24.name true b)else none
def R3 (N:Nat) (i:Wd) (j:Wd) (c:Nat) (e:Cl):List Me->Nat->Option (J4 Int Unit)
  |[],a=>some (.next ())
  |x86::rest83,a=>((bif 0<(a:Int)then(H7 e.a8 (wr ((a:Int)-1))).bind fun h=>some (!Q6 h.name x86.name)else some false).bind fun f=>bif f then some (.ret 7)else(bif !x86.aQ=0 then bif(c:Int)=3 then(iJ N j x86).bind fun d=>some d else some false else some false).bind fun g=>bif g then some (.next ())else(jh N i (c:Int) x86).bind fun b=>bif !b.err=0 then some (.ret b.err)else some (.next ()):Option (J4 Int Unit)).bind fun o=>match o with|.ret r=>some (.ret r)|.next ()=>R3 N i j c e rest83 (a+1)
def R5 (N:Nat) (b:Wd) (d:Wd):List Cl->Nat->Option (J4 Int Unit)
  |[],a=>some (.next ())
  |x72::rest69,a=>(Y4 N b (a:Int)).bind fun c=>bif 6<c then some (.ret 3)else bif 8<(x72.a8.length:Int)then some (.ret 5)else(R3 N b d a x72 x72.a8 0).bind fun o=>match o with|.ret r=>some (.ret r)|.next ()=>R5 N b d rest69 (a+1)
def M9 (N:Nat) (a:Wd):Option Int :=
  (kZ N).bind fun c=>(bif(a.a7.length:Int)<(c.a7.length:Int)then some true else bif 12<(a.a7.length:Int)then some true else some (decide (60<(a.heap.length:Int)))).bind fun e=>bif e then some 5 else(bif a.aR<0 then some true else some (decide (1073741824<a.aR))).bind fun d=>bif d then some 3 else(Q7 N c a.a7 0 []).bind fun o=>match o with|.ret r=>some r|.next ()=>(R5 N a c a.a7 0).bind fun o=>match o with|.ret r=>some r|.next ()=>(lJ N a).bind fun b=>some b
def Y1 (N:Nat) (c:(List Int)):Option (Wd×Int) :=
  (Y7 N ⟨strOfNums c,true⟩).bind fun a=>(bif !a.2.fN then some true else some (!a.2.s=⟨#[]⟩)).bind fun d=>bif d then some (⟨[],[],0⟩,2)else(M9 N a.1).bind fun b=>bif !b=0 then some (⟨[],[],0⟩,b)else some (a.1,0)
def H8 (N:Nat):List Int->Nat->ByteArray->Option (ByteArray)
  |[],c,b=>some b
  |x10::rest7,c,b=>(strconv_Itoa N x10).bind fun a=>bif b.size+a.size<=4611686018427387904 then bif(b++a).size+(⟨#[32]⟩:ByteArray).size<=4611686018427387904 then H8 N rest7 (c+1) ((b++a)++⟨#[32]⟩)else none else none
def H6 (N:Nat) (a:(List Int)) (b:ByteArray):Option ByteArray :=
  (H8 N a 0 b).bind fun c=>some c
def J7 (N:Nat):List Ins->Nat->ByteArray->Option (ByteArray)
  |[],d,c=>some c
  |x47::rest44,d,c=>((H6 N [x47.op,x47.a] c).bind fun b=>(bif x47.op=14 then bif b.size+x47.name.size<=4611686018427387904 then bif(b++x47.name).size+(⟨#[32]⟩:ByteArray).size<=4611686018427387904 then some ((b++x47.name)++⟨#[32]⟩)else none else none else some b).bind fun f=>some f:Option ByteArray).bind fun e=>J7 N rest44 (d+1) e
def I4 (N:Nat):List Me->Nat->ByteArray->Option (ByteArray)
  |[],b,a=>some a
  |x30::rest27,b,a=>bif a.size+x30.name.size<=4611686018427387904 then bif(a++x30.name).size+(⟨#[32]⟩:ByteArray).size<=4611686018427387904 then(H6 N [x30.args,x30.aL,x30.aQ,(x30.code.length:Int)] ((a++x30.name)++⟨#[32]⟩)).bind fun c=>(J7 N x30.code 0 c).bind fun d=>I4 N rest27 (b+1) d else none else none
def J9 (N:Nat):List Cl->Nat->ByteArray->Option (ByteArray)
  |[],d,a=>some a
  |x13::rest10,d,a=>bif a.size+x13.name.size<=4611686018427387904 then bif(a++x13.name).size+(⟨#[32]⟩:ByteArray).size<=4611686018427387904 then(H6 N [x13.aJ,x13.aD,(x13.a8.length:Int)] ((a++x13.name)++⟨#[32]⟩)).bind fun b=>(I4 N x13.a8 0 b).bind fun c=>J9 N rest10 (d+1) c else none else none
def M4 (N:Nat):List V->Nat->ByteArray->Option (ByteArray)
  |[],b,a=>some a
  |x86::rest83,b,a=>(H6 N [x86.k,x86.n] a).bind fun c=>M4 N rest83 (b+1) c
def M0 (N:Nat):List Ob->Nat->ByteArray->Option (ByteArray)
  |[],b,a=>some a
  |x71::rest68,b,a=>(H6 N [x71.cls,(x71.aD.length:Int)] a).bind fun c=>(M4 N x71.aD 0 c).bind fun d=>M0 N rest68 (b+1) d
def jb (N:Nat) (a:Wd):Option ByteArray :=
  (H6 N [a.aR,(a.a7.length:Int)] ⟨#[]⟩).bind fun d=>(J9 N a.a7 0 d).bind fun e=>(H6 N [(a.heap.length:Int)] e).bind fun b=>(M0 N a.heap 0 b).bind fun c=>some c
def jW (N:Nat):Option Bool :=
  (jd N).bind fun g=>(fQ N g).bind fun f=>(Y1 N f).bind fun e=>(bif e.2=0 then bif(e.1.a7.length:Int)=4 then(jd N).bind fun a=>(jb N a).bind fun b=>bif strOfNums f=b then(M9 N e.1).bind fun c=>bif c=0 then(M9 N ⟨[],[],0⟩).bind fun d=>some (decide (d=5))else some false else some false else some false else some false).bind fun h=>some h
def J6 (N:Nat) (c:(List Ins)):List Ins->Nat->Option (J4 Bool Unit)
  |[],a=>some (.next ())
  |x10::rest7,a=>(H7 c (a:Int)).bind fun b=>bif !bu (dU x10) (dU b)then some (.ret false)else J6 N c rest7 (a+1)
def jQ (N:Nat) (a:(List Ins)) (b:(List Ins)):Option Bool :=
  bif !(a.length:Int)=(b.length:Int)then some false else(J6 N b a 0).bind fun o=>match o with|.ret r=>some r|.next ()=>some true
def I9 (N:Nat) (c:Cl):List Me->Nat->Option (J4 Bool Unit)
  |[],b=>some (.next ())
  |x35::rest32,b=>(H7 c.a8 (b:Int)).bind fun a=>(bif !x35.name=a.name then some true else bif !x35.args=a.args then some true else bif !x35.aL=a.aL then some true else bif !x35.aQ=a.aQ then some true else(jQ N x35.code a.code).bind fun d=>some (!d)).bind fun e=>bif e then some (.ret false)else I9 N c rest32 (b+1)
def I8 (N:Nat) (d:Wd):List Cl->Nat->Option (J4 Bool Unit)
  |[],b=>some (.next ())
  |x16::rest13,b=>(H7 d.a7 (b:Int)).bind fun a=>(bif !x16.name=a.name then some true else bif !x16.aJ=a.aJ then some true else bif !x16.aD=a.aD then some true else some (!(x16.a8.length:Int)=(a.a8.length:Int))).bind fun c=>bif c then some (.ret false)else(I9 N a x16.a8 0).bind fun o=>match o with|.ret r=>some (.ret r)|.next ()=>I8 N d rest13 (b+1)
def I5 (N:Nat) (e:Wd) (b:Nat):List V->Nat->Option (J4 Bool Unit)
  |[],a=>some (.next ())
  |x74::rest71,a=>(H7 e.heap (b:Int)).bind fun c=>(H7 c.aD (a:Int)).bind fun d=>bif !bu (eV x74) (eV d)then some (.ret false)else I5 N e b rest71 (a+1)
def I6 (N:Nat) (b:Wd):List Ob->Nat->Option (J4 Bool Unit)
  |[],a=>some (.next ())
  |x55::rest52,a=>((H7 b.heap (a:Int)).bind fun d=>bif !x55.cls=d.cls then some true else(H7 b.heap (a:Int)).bind fun e=>some (!(x55.aD.length:Int)=(e.aD.length:Int)):Option Bool).bind fun c=>bif c then some (.ret false)else(I5 N b a x55.aD 0).bind fun o=>match o with|.ret r=>some (.ret r)|.next ()=>I6 N b rest52 (a+1)
def V7 (N:Nat) (a:Wd) (b:Wd):Option Bool :=
  (bif !a.aR=b.aR then some true else bif !(a.a7.length:Int)=(b.a7.length:Int)then some true else some (!(a.heap.length:Int)=(b.heap.length:Int))).bind fun c=>bif c then some false else(I8 N b a.a7 0).bind fun o=>match o with|.ret r=>some r|.next ()=>(I6 N b a.heap 0).bind fun o=>match o with|.ret r=>some r|.next ()=>some true
def kh (N:Nat) (c:Wd) (i:(List Int)):Option Bool :=
  (jW N).bind fun j=>bif !j then some false else(M9 N c).bind fun k=>(bif k=0 then(fQ N c).bind fun l=>(Y1 N l).bind fun b=>(bif !b.2=0 then some true else(V7 N b.1 c).bind fun d=>some (!d)).bind fun g=>bif g then some (.ret false)else some (.next ())else some (.next ()):Option (J4 Bool Unit)).bind fun o=>match o with|.ret r=>some r|.next ()=>(Y1 N i).bind fun a=>bif !a.2=0 then some ((a.1.a7.length:Int)=0)else((M9 N a.1).bind fun e=>bif e=0 then(fQ N a.1).bind fun f=>some (strOfNums f=strOfNums i)else some false:Option Bool).bind fun h=>some h
def newRow (a:AV):List (List AV):=[[.str ⟨#[79,98,106,101,99,116]⟩,.int (-1),.int 0,.aC],[.str ⟨#[78,105,108]⟩,.int 0,.int 0,.aC],[.str ⟨#[66,111,111,108]⟩,.int 0,.int 0,.aC],[.str ⟨#[73,110,116]⟩,.int 0,.int 0,a]]
def ur : ∀k:Nat,k<5->∃x p,la[k]?=some x/\([3,1,2,4,5]:List Int)[k]?=some p/\I1[k]?=some ⟨x,1,0,p,[]⟩
 |0,_=>⟨_,_,rfl,rfl,rfl⟩
 |1,_=>⟨_,_,rfl,rfl,rfl⟩
 |2,_=>⟨_,_,rfl,rfl,rfl⟩
 |3,_=>⟨_,_,rfl,rfl,rfl⟩
 |4,_=>⟨_,_,rfl,rfl,rfl⟩
 |k+5,h=>absurd h d9
set_option maxRecDepth 100000 in
def na (N:Nat) (r:Wd) (h:jd N=some r):Spec prog 10 [] [] (.agg (cE r)) [] []:=by
 obtain rfl:=Option.some.inj h;refine Spec.of ff func10 rfl ntmps10 l8 rfl rfl rfl fun f a=>?_
 (repeat (first|refine bj a ?_|refine bz a ?_|refine cV a ?_|refine cH a ?_|refine cI a ?_|refine cJ a ?_|refine c6 a ?_))
 (try refine Or.inr ?_)
 refine Exists.intro (newRow .aC) (A5 (by repeat (first|exact trivial|exact rfl|(refine A5 ?_ ?_))) ?_)
 (repeat (first|refine bj a ?_|refine bz a ?_|refine cV a ?_|refine cH a ?_|refine cI a ?_|refine cJ a ?_|refine c6 a ?_))
 refine Exists.intro (List.map gr la) (A5 (by repeat (first|exact trivial|exact rfl|(refine A5 ?_ ?_))) ?_);refine P7 (fun B=>?_);show j4 prog f _ _ _ _;refine j4.gh (Gh.fO (r:=8) (i:=3) (off:=3) (j:=104) (j':=105) (isz:=5) (ie:=46) rfl rfl rfl rfl rfl rfl rfl rfl) (fun _=>?_);refine j4.fK (ι:=Hd) (fun g=>[(0,.ptr 0 0),(1,.ptr 1 0)]) (fun g=>[(0,.box [.aC,.aC,.int 0] 25),(1,.box [.aF 8,.aC,.int 0] 25),(8,.row 4 (newRow (.aU g.v)) 41),(104,.row 5 (I1.map U8) 46),(105,.eqv 104 g.v)]) (fun z u H E=>?_) (by intro q;rw[a];rfl) ?_
 ·refine j4.j8 fun y C s G D=>?_;refine j4.dn (ι:={ q:Nat×Hd // q.1<=5 }) (fun q=>[(0,.ptr 0 0),(1,.ptr 1 0),(10,.aF 10),(11,.int 5),(12,.int q.1.1)]) (fun q=>[(0,.box [.aC,.aC,.int 0] 25),(1,.box [.aF 8,.aC,.int 0] 25),(8,.row 4 (newRow (.aU q.1.2.v)) 41),(10,.row 1 (la.map gr) 9),(104,.row 5 ((I1.take q.1.1).map U8) 46),(105,.eqv 104 q.1.2.v)]) (fun q=>5-q.1.1) ⟨(0,⟨none,0,0⟩),d9⟩ [] ⟨⟨rfl,rfl,rfl,rfl,rfl,trivial⟩,⟨rfl,rfl,rfl,rfl,rfl,rfl,trivial⟩,rfl,rfl⟩ (by intro q;rw[a];rfl) ?_;rintro⟨⟨k,hd⟩,m⟩ A nl w F;have m:k<=5:=m
  (repeat (first|refine bj a ?_|refine bz a ?_|refine cV a ?_|refine cH a ?_|refine cI a ?_|refine cJ a ?_|refine c6 a ?_))
  refine p6 (fun c=>?_) (fun l=>?_)
  ·have c:k<5:=by have:(k:Int)<5:=c;omega
   obtain⟨x,p,o,n,t⟩:=ur k c
   (repeat (first|refine bj a ?_|refine bz a ?_|refine cV a ?_|refine cH a ?_|refine cI a ?_|refine cJ a ?_|refine c6 a ?_))
   refine eY (i:=(k:Int)) (by rw[K9];exact o) ?_;refine fM o ?_;show j4 prog f _ _ _ _;refine j4.snoc (nF a l8 ?_);refine A5 o9 (A5 (by show(3:Int)<4;decide) ?_);refine A5 (by show 3<4;decide) (fun d b=>?_);have b:(newRow (.aU hd.v))[3]?=some d:=b;obtain rfl:d=[.str ⟨#[73,110,116]⟩,.int 0,.int 0,.aU hd.v]:=(Option.some.inj b).symm;refine A5 rfl ?_;refine Exists.intro (List.map bg [3,1,2,4,5]) (A5 (by repeat (first|exact trivial|exact rfl|(refine A5 ?_ ?_))) ?_);refine eY (i:=(k:Int)) (by rw[K9];exact n) ?_;refine fM n ?_;refine Exists.intro (List.map U8 [⟨x,1,0,p,[]⟩]) (A5 (by repeat (first|exact trivial|exact rfl|(refine A5 ?_ ?_))) ?_);refine A5 ?_ (Exists.intro (List.map U8 (I1.take k++[⟨x,1,0,p,[]⟩])) (A5 (ln (X9 _)) ?_))
   ·show((List.map U8 (I1.take k)).length+1)*64<=_;rw[AN,List.length_take];omega
   refine A5 o9 (A5 (by show(3:Int)<4;decide) ?_);refine A5 (by show 3<4;decide) (A5 ?_ ?_)
   ·intro d b;have b:(newRow (.aU hd.v))[3]?=some d:=b;obtain rfl:d=[.str ⟨#[73,110,116]⟩,.int 0,.int 0,.aU hd.v]:=(Option.some.inj b).symm;show 3<4;omega
   show K7 f _ _ _;refine K7.gh (Gh.aw 8 106 rfl rfl rfl (fun _=>rfl) rfl) (fun g=>?_);refine K7.done ?_;show j4 prog f _ _ _ _
   (repeat (first|refine bj a ?_|refine bz a ?_|refine cV a ?_|refine cH a ?_|refine cI a ?_|refine cJ a ?_|refine c6 a ?_))
   refine Or.inl (A5 ⟨d9,d9⟩ ?_);refine nl _ _ ?_;refine K7.done ?_;have e:I1.take k++[⟨x,1,0,p,[]⟩]=I1.take (k+1):=by rw[List.take_add_one,t];rfl
   refine⟨⟨(k+1,g),c⟩,[(104,31),(105,106)],by show 5-(k+1)<5-k;omega,⟨⟨rfl,rfl,rfl,rfl,rfl,trivial⟩,⟨rfl,rfl,rfl,rfl,?_,rfl,trivial⟩,rfl,rfl⟩⟩;exact congrArg (fun q=>some (Obj.row 5 (List.map U8 q) 46)) e
  ·have e:k=5:=by have:¬((k:Int)<5):=l;omega
   subst e
   (repeat (first|refine bj a ?_|refine bz a ?_|refine cV a ?_|refine cH a ?_|refine cI a ?_|refine cJ a ?_|refine c6 a ?_))
   refine w _ _ _ ?_;refine s _ _ ?_;refine u _ _ ?_;refine K7.done ?_;exact⟨hd,[],trivial,⟨⟨rfl,rfl,trivial⟩,⟨rfl,rfl,rfl,rfl,rfl,trivial⟩,rfl,rfl⟩⟩
 intro g;show j4 prog f _ _ _ _;refine j4.eb 8 3 3 104 105 rfl rfl rfl rfl rfl rfl rfl rfl ?_;refine j4.ay 8 (List.map ft G8.a7) rfl (by repeat (first|exact trivial|exact rfl|(refine A5 ?_ ?_))) ?_;refine j4.bB 8 rfl ?_
 (repeat (first|refine bj a ?_|refine bz a ?_|refine cV a ?_|refine cH a ?_|refine cI a ?_|refine cJ a ?_|refine c6 a ?_))
 exact⟨[],_,rfl,(by repeat (first|exact trivial|exact rfl|(refine A5 ?_ ?_))),trivial,rfl,rfl,rfl,rfl,rfl⟩
end Go.Proofs.YtibjcppjfkamhaaDoor
