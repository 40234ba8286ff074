import Derived.Orders
import Derived.Still
import Derived.Test.YtibjcppjfkamhaaDoorProg
import Derived.KernelRfl
import Derived.Test.YtibjcppjfkamhaaDoorRows
import Derived.Deep.Slices
import Derived.JoinedCond
import Derived.Shelf.Strings.Builder1
import Derived.Shelf.Small.Bits
import Derived.Shelf.Strings.BuilderF
import Derived.Shelf.Strings.BuilderK
import Derived.Shelf.Strconv.Atoi
import Derived.Shelf.Strconv.Itoa0
import Derived.Shelf.Strconv.Itoa1
import Derived.Shelf.LaysM
import Derived.Shelf.Strconv.Itoa2
import Derived.Shelf.Strconv.Itoa3
import Derived.Shelf.Strconv.AtoiErrFast
import Derived.Shelf.Strconv.ParseIntEmpty
import Derived.Shelf.Strconv.AtoiFail
import Derived.Shelf.Strconv.Clone
import Derived.Shelf.Strconv.SyntaxError
import Derived.Shelf.LaysC
import Derived.Shelf.Strconv.ToError
import Derived.Shelf.Strconv.AtoiErr
import Derived.Shelf.Strconv.Lower
import Derived.Shelf.Strconv.ParseUint10
import Derived.Shelf.Strconv.ParseUint10Empty
import Derived.Shelf.Strconv.ParseUint10Any
import Derived.Shelf.Strconv.ParseInt10
import Derived.Shelf.Strconv.AtoiLong
import Derived.Shelf.Strconv.AtoiInnerAll
import Derived.Shelf.Strconv.RangeError
import Derived.Shelf.Strconv.ToErrorRange
import Derived.Shelf.Strconv.AtoiAll
import Derived.Shelf.Strconv.ErrVarAll
import Derived.Shelf.Strconv.ParseUintEmpty
import Derived.Shelf.Strconv.ParseUint10b64
import Derived.Shelf.Strconv.ParseUint10b32
import Derived.Shelf.Strconv.ParseUint10b16
import Derived.Shelf.Strconv.ParseUint10b8
import Derived.Shelf.Strconv.ParseUint10At
import Derived.Shelf.Strconv.ParseInt10At32
import Derived.Shelf.Strconv.ParseInt10At16
import Derived.Shelf.Strings.Search1
import Derived.Shelf.Strings.Search2
import Derived.Shelf.Strings.Cut
import Derived.Shelf.Strings.Shaped
import Derived.Shelf.Strings.BuilderCap
import Derived.Lib.ItoaNum
import Derived.Lib.AtoiAll
import Derived.Lib.IndexMore
import Derived.Lib.ItoaLen
import Derived.Lib.Builder
import Derived.Lib.UnsafeStr
import Derived.Lib.Walk
import Derived.Laws.Externs
import Derived.Shelf.RegionOpenPlain
import Derived.Lib.AtoiAllCases
import Derived.Stop.LaidErr
import Derived.Shelf.Vars
import Derived.MakeChecks
import Derived.Test.YtibjcppjfkamhaaDoorA
set_option linter.unusedVariables false
set_option linter.defProp false
set_option linter.unusedSimpArgs false
namespace Go.Proofs.YtibjcppjfkamhaaDoor
open Go.RowKit Go.Proofs.Tryd
open _root_.And renaming intro->A5
open _root_.Bool renaming and_eq_true->A7,not_true->AQ
open _root_.ByteArray renaming empty->AK
open _root_.List renaming getElem?_eq_getElem->A8,getElem?_eq_some_iff->AB,all_eq_true->AD,mem_cons->AF,append_assoc->AG,mem_map->AI,replicate->AJ,getElem?_set->AL,length_map->AM,map_cons->AN,mem_of_getElem?->AO,mem_append->AR,getElem?_eq_none->AS,ext_getElem?->AT,length_cons->AX,getElem?_map->AY,getElem?_drop->AZ
open _root_.Nat renaming beq->A4,eq_of_beq_eq_true->A9,le_refl->AA,ble->AE,blt->AH,le_of_ble_eq_true->AP
open _root_.Option renaming bind_some->A0,map_eq_some_iff->AW
def top : Nat:=1000
def e6 : Os->Os->Prop
 |[],_=>True
 |(k,o)::r,os=>lk os k=some o/\e6 r os
theorem hJ {os:Os}:∀{need:Os},e6 need os->∀id o,lk need id=some o->lk os id=some o
 |(k,x)::r,h,id,o,hl=>by
  rw[j5] at hl;split at hl
  ·rename_i e;subst e;cases hl;exact h.1
  ·exact hJ h.2 id o hl
def Z4 : AV->Bool
 |.int _=>true
 |.ik _ _=>true
 |.bool _=>true
 |.str _=>true
 |.any=>true
 |.aU _=>true
 |.bY _=>true
 |_=>false
def jk : AV->Bool
 |.aS l=>l.all Z4
 |.agg l=>l.all Z4
 |a=>Z4 a
def jX {c c':Ctx} {w w':World} {v:Value} {a:AV} (h:Z4 a=true) (b:Rd c w v a):Rd c' w' v a:=by
 cases a<;>first|cases h|skip
 ·exact Rd.bP v
 ·obtain⟨rfl,h⟩:=b.aP;exact .fz (.int h)
 ·rw[b.eS];exact .fz (.ik _ _)
 ·rw[b.ai];exact .fz (.bool _)
 ·obtain⟨rfl,h⟩:=b.ao;exact .fz (.str h)
 ·rcases b.fh with⟨rfl,rfl⟩|⟨t,p,rfl,rfl⟩
  ·exact .fz .bf
  ·exact .fz (.cG t p)
 ·rw[b.fb];exact .fz (.aU _)
theorem jS {c c':Ctx} {w w':World}:∀{us:List Value} {a_:List AV},a_.all Z4=true->l6 c w us a_->l6 c' w' us a_
 |_,_,_,.nil=>.nil
 |_,_,h,.cons x t=>by
  simp only[List.all_cons,A7] at h;exact .cons (jX h.1 x) (jS h.2 t)
def rJ {c c':Ctx} {w w':World} {v:Value} {a:AV} (h:jk a=true) (b:Rd c w v a):Rd c' w' v a:=by
 unfold jk at h;split at h
 ·obtain⟨us,rfl,d⟩:=b.cZ;exact .aS (jS h d)
 ·obtain⟨us,rfl,d⟩:=b.bH;exact .agg (jS h d)
 ·exact jX h b
def jd : Obj->Prop
 |.aH=>True
 |.row _ ls _=>∀c∈ls,c.all Z4=true
 |.deep _ _ b l _ _=>∀c∈l,∀(off:Nat) (a:AV),c[off]?=some a->match lk b off with
  |none=>Z4 a=true
  |some _=>∃isz ls,a=.sl isz ls/\∀d∈ls,d.all Z4=true
 |_=>False
def gI : Os->Prop
 |[]=>True
 |p::r=>jd p.2/\gI r
theorem gI.at : ∀{l:Os},gI l->∀{id:Nat} {o:Obj},lk l id=some o->jd o
 |(k,x)::r,h,id,o,hl=>by
  rw[j5] at hl;split at hl
  ·cases hl;exact h.1
  ·exact gI.at h.2 hl
def jl : AV->Bool
 |.aS l=>l.all fun a=>match a with|.aF _=>true|.agg b=>b.all Z4|a=>Z4 a
 |.aF _=>true
 |.agg b=>b.all Z4
 |a=>Z4 a
def oa {Φ b:Nat->Prop} {w w':World} {v:Value} {a:AV} (h:Z4 a=true) (c:Rf Φ w v a):Rf b w' v a:=by
 cases c<;>first|cases h|skip
 ·exact .any _
 ·exact .int (by assumption)
 ·exact .ik _ _
 ·exact .bool _
 ·exact .str (by assumption)
 ·exact .bf
 ·exact .cG _ _
 ·exact .aU _
theorem kz {Φ a:Nat->Prop} {w w':World}:∀{us:List Value} {a_:List AV},a_.all Z4=true->o9 Φ w us a_->o9 a w' us a_
 |_,_,_,.nil=>.nil
 |_,_,h,.cons x t=>by
  simp only[List.all_cons,A7] at h;exact .cons (oa h.1 x) (kz h.2 t)
theorem jd.rep {c c':Ctx} {w:World} {id:Nat} {o:Obj} (r:jd o) (h:V3 c w id o) (q:c'.hd=c.hd) (I:c'.μ=c.μ):V3 c' w id o:=by
 cases o with
 |aH=>trivial
 |row sz ls e =>
  obtain⟨css,s,f,t⟩:=h;exact⟨css,by rw[q];exact s,f,fun i us b n d=>kz (r b (AO d)) (t i us b n d)⟩
 |deep sz e v l J sh =>
  obtain⟨css,s,f,t,E⟩:=h;refine⟨css,by rw[q];exact s,⟨f.len,fun i us b n d=>⟨(f.cell i us b n d).1,fun off u a g j m=>?_⟩,fun i us b off isz ie u n d g j m=>?_,fun i off x us u g j m=>by rw[q];exact f.hole i off x us u g j m,f.apart⟩,by rw[q];exact t,by rw[q];exact E⟩
  ·have:=r b (AO d) off a j;rw[m] at this;exact oa this ((f.cell i us b n d).2 off u a g j m)
  ·obtain⟨ls,A,css',F,G,H⟩:=f.inner i us b off isz ie u n d g j m;have:=r b (AO d) off _ A;rw[g] at this;obtain⟨z,D,e1,B⟩:=this;cases e1;exact⟨ls,A,css',F,G,fun k us' p C y=>kz (B p (AO y)) (H k us' p C y)⟩
 |_=>exact r.elim
def tB {c c':Ctx} {w:World} {v:Value} {a:AV} (b:jl a=true) (h:Rd c w v a) (j:c'.hd=c.hd):Rd c' w v a:=by
 have aF:∀{v:Value} {id:Nat},Rd c w v (.aF id)->Rd c' w v (.aF id):=fun {v id} h=>by
  obtain⟨A,n,cap,e1,f,g,i⟩:=h.aj;rw[e1];exact .aF (by rw[j];exact f) g i
 have agg:∀{v:Value} {d:List AV},d.all Z4=true->Rd c w v (.agg d)->Rd c' w v (.agg d):=fun {v d} b h=>by
  obtain⟨us,rfl,e⟩:=h.bH;exact .agg (jS b e)
 unfold jl at b;split at b
 ·rename_i l;obtain⟨us,rfl,e⟩:=h.cZ;refine .aS ?_;clear h
  induction l generalizing us with
  |nil=>cases e;exact .nil
  |cons a l ih =>
   cases e with|cons h t =>
   simp only[List.all_cons,A7] at b;refine .cons ?_ (ih b.2 _ t);cases a<;>first|exact aF h|exact agg b.1 h|exact jX b.1 h
 ·exact aF h
 ·exact agg b h
 ·exact jX b h
structure Z8 (P:Program) (f:Nat) (ins:List AV) (os:Os) (K:Kt):Prop where
 out:(∃(ins0 ins':List AV) (g need upd:Os) (news:List Nat) (av:AV),Spec P f need ins' av upd news/\dG os ins ins0 g/\ck ins0 ins'/\e6 need os/\(need.all fun p=>(lk g p.1).isNone)=true/\(need.all fun p=>eF news p.2.ids)=true /\
  K av ((g++need).map (·.1)) news (upd++y8 g)) \/
 (∃(ins0 ins':List AV) (g:Os) (av:AV),Spec P f [] ins' av [] []/\du os ins ins0 g/\ck ins0 ins'/\jk av=true/\K av (g.map (·.1)) [] []) \/
 (∃(ins0 ins':List AV) (g upd:Os) (news:List Nat) (av:AV),Spec P f [] ins' av upd news/\du os ins ins0 g/\ck ins0 ins'/\jl av=true/\gI upd/\K av (g.map (·.1)) news upd)
section
variable {P:Program} {tab:E5} {et:Q8} {o:Oper} {ev:Ev} {os:Os} {K:Kt}
theorem Z8.fz {f:Nat} {ins a:List AV} {need upd:Os} {news:List Nat} {av:AV} (h:Spec P f need a av upd news) (b:ck (I6 os ins).1 a) (e:e6 need os) (hd:(need.all fun p=>(lk (I6 os ins).2 p.1).isNone)=true)
  (d:(need.all fun p=>eF news p.2.ids)=true) (c:K av (((I6 os ins).2++need).map (·.1)) news (upd++y8 (I6 os ins).2)):Z8 P f ins os K :=
 ⟨.inl ⟨_,a,_,need,upd,news,av,h,qW ins,b,e,hd,d,c⟩⟩
theorem Z8.a_ {f:Nat} {ins a:List AV} {need upd:Os} {news:List Nat} {av:AV} (h:Spec P f need a av upd news) (b:ck ins a) (g:e6 need os)
  (e:(need.all fun p=>eF news p.2.ids)=true) (d:K av (need.map (·.1)) news upd):Z8 P f ins os K :=
 ⟨.inl ⟨ins,a,[],need,upd,news,av,h,⟨fun _ _ h=>(by cases h),fun _ _ h=>(by cases h),fun c w us _ h=>l6.mono (c:=c) (c':=c.fz []) (fun _ _=>rfl) (fun _ h=>Or.inl h) (fun _ _=>⟨rfl,rfl⟩) h⟩,b,g,AD.2 fun _ _=>rfl,e,by simpa[y8] using d⟩⟩
def kx {c:Go.Call} {f:Operand} {g:Nat} {d:List Value} {e:Operand->Value} {w:World} (l:o.op=.call c) (j:c.callee=.value f) (a:ax P g=true) (e1:e f=.func (.func g) #[] d.toArray) :
  (execOp e o).run P w=.ok (.enter g (c.args.toList.map e++d).toArray) w:=by
 unfold ax at a;split at a
 ·rename_i fn i;simp only[A7,Bool.not_eq_true',beq_eq_false_iff_ne,ne_eq] at a;have b:fn.body.isNone=false:=by cases m:fn.body<;>simp_all
  have k:c.args.map e++d.toArray=(c.args.toList.map e++d).toArray:=by
   apply Array.toList_inj.1;simp
  simp[execOp,l,resolve,j,e1,Deferred.ofValue,invoke,callFunc,i,a.2,k];intro h;rw[h] at b;cases b
 ·cases a
def tP {c:Go.Call} {f:Operand} {g:Nat} {d:List AV} (D:o.op=.call c) (y:c.callee=.value f) (N:ev f=.fn g d) {l k:List AV} {gz:Os} {av:AV} (a:Spec P g [] k av [] [])
  (J:du os (c.args.toList.map ev++d) l gz) (B:ck l k) (z:jk av=true) (L:K av (gz.map (·.1)) [] []):G8 P o ev os K:=by
 intro _;obtain⟨p,C,a⟩:=a;refine⟨av,gz,[],[],fun q w H a8 I=>?_,J.sub,fun id A=>(by cases A),L⟩;have rf:Rd q w (H f) (.fn g d):=by
  have:=I f (by simp[D,Op.operands,Go.Call.operands,y])
  rwa [N] at this
 obtain⟨s,e1,t⟩:=rf.gk;have n:l6 q w (c.args.toList.map H++s) (c.args.toList.map ev++d):=(iL fun x O=>I x (by simp[D,Op.operands,Go.Call.operands,y];exact .inr (by simpa using O))).append t;have i:=hX B (J.run q w _ a8 n);have R:=aD.freeze a8;have m:∀(id:Nat) (o:Obj),lk ([]:Os) id=some o->False:=fun id o h=>(by cases h);have G:F6 (q.fz gz) w []:=⟨fun id o h=>(m id o h).elim,fun id o b h=>(m id o h).elim,fun id F o Q b _ h=>(m id o h).elim,R.a8.aX⟩;have j:=a (q.fz gz) w (c.args.toList.map H++s).toArray G (by simpa using i);rw[kx D y p e1];refine j.mono fun e w' ⟨v,c',M,r,E⟩=>⟨v,M,q,⟨r.bO,r.tape,r.output,r.size,fun _ h=>h,fun _ h=>.inl h,fun b u _=>r.aK b u fun⟨id,o,h,_⟩=>m id o h,fun _ _=>⟨rfl,rfl⟩,
  ⟨fun id o h=>(m id o h).elim,fun id o b h=>(m id o h).elim,fun id F o Q b _ h=>(m id o h).elim,fun b u=>Nat.lt_of_lt_of_le (a8.aX b u) r.size⟩,fun id o b h=>(m id o h).elim⟩,rJ z E⟩
def qs {c:Go.Call} {f:Operand} {g:Nat} {d:List AV} (O:o.op=.call c) (G:c.callee=.value f) (r:ev f=.fn g d) {n m:List AV} {gz upd:Os} {news:List Nat} {av:AV} (a:Spec P g [] m av upd news)
  (U:du os (c.args.toList.map ev++d) n gz) (M:ck n m) (J:jl av=true) (L:gI upd) (W:K av (gz.map (·.1)) news upd):G8 P o ev os K:=by
 intro _;obtain⟨q,t,a⟩:=a;refine⟨av,gz,upd,news,fun y w S a8 T=>?_,U.sub,t,W⟩;have rf:Rd y w (S f) (.fn g d):=by
  have:=T f (by simp[O,Op.operands,Go.Call.operands,G])
  rwa [r] at this
 obtain⟨z,e1,B⟩:=rf.gk;have p:l6 y w (c.args.toList.map S++z) (c.args.toList.map ev++d):=(iL fun x Z=>T x (by simp[O,Op.operands,Go.Call.operands,G];exact .inr (by simpa using Z))).append B;have k:=hX M (U.run y w _ a8 p);have p1:=aD.freeze a8;have D:∀(id:Nat) (o:Obj),lk ([]:Os) id=some o->False:=fun id o h=>(by cases h);have R:F6 (y.fz gz) w []:=⟨fun id o h=>(D id o h).elim,fun id o b h=>(D id o h).elim,fun id u o E b _ h=>(D id o h).elim,p1.a8.aX⟩;have l:=a (y.fz gz) w (c.args.toList.map S++z).toArray R (by simpa using k);rw[kx O G q e1];refine l.mono fun e w' ⟨v,c',X,j,Q⟩=>⟨v,X,{ c' with Φ:=y.Φ },⟨j.bO,j.tape,j.output,j.size,fun _ h=>h,fun _ h=>.inl h,fun b A _=>j.aK b A fun⟨id,o,h,_⟩=>D id o h,fun i Y=>j.ctx i Y,
  ⟨fun id o h=>(L.at h).rep (j.a8.rep id o h) rfl rfl,fun id o b h r=>?_,fun id u o E b N h V r=>?_,fun b A=>Nat.lt_of_lt_of_le (a8.aX b A) j.size⟩,fun id o b h r=>?_⟩,tB J Q rfl⟩
 ·have s:aI c' id o b:=by cases o<;>exact r
  have:=j.a8.lt id o b h s;exact⟨this.1,fun A=>this.2 (j.aX b (.inl A))⟩
 ·have H:aI c' id o b:=by cases o<;>exact r
  intro I;have C:aI c' u E b:=by cases E<;>exact I
  exact j.a8.sep id u o E b N h V H C
 ·have s:aI c' id o b:=by cases o<;>exact r
  rcases j.ab id o b h s with F|⟨i,x,F,_⟩
  ·exact .inl F
  ·exact(D i x F).elim
def tQ {c:Go.Call} {f:Operand} {g:Nat} {caps:List AV} (ho:o.op=.call c) (hc:c.callee=.value f) (hf:ev f=.fn g caps) (h:Z8 P g (c.args.toList.map ev++caps) os K):G8 P o ev os K:=by
 rcases h.out with⟨ins0,ins',gz,need,upd,news,av,hspec,hz,hle,hs,hd,hfr,hK⟩|⟨ins0,ins',gz,av,hspec,hz,hle,hfl,hK⟩|⟨ins0,ins',gz,upd,news,av,hspec,hz,hle,hfl,hfu,hK⟩
 case inr.inl=>exact tP ho hc hf hspec hz hle hfl hK
 case inr.inr=>exact qs ho hc hf hspec hz hle hfl hfu hK
 intro _;obtain⟨hcall,hnews,hspec⟩:=hspec;have hsub:=hJ hs;obtain⟨s1,s2,s3⟩:=hC hz.sub hsub;have hnone:∀id x,lk need id=some x->lk gz id=none:=fun id x h=>by
  have:=AD.1 hd _ (J2 h);simpa using this
 refine⟨av,gz++need,upd++y8 gz,news,fun cx w ρ a8 hr=>?_,s1,fun id hid=>?_,hK⟩
 ·have rf:Rd cx w (ρ f) (.fn g caps):=by
   have:=hr f (by simp[ho,Op.operands,Go.Call.operands,hc])
   rwa [hf] at this
  obtain⟨cus,e1,hcus⟩:=rf.gk;have hargs:l6 cx w (c.args.toList.map ρ++cus) (c.args.toList.map ev++caps):=(iL fun x hx=>hr x (by simp[ho,Op.operands,Go.Call.operands,hc];exact .inr (by simpa using hx))).append hcus;have hargs':=hX hle (hz.run cx w _ (a8.sub s3) hargs);have p1:=(aD.freeze (a8.sub s3)).ct s3;have ok1:F6 (cx.fz gz) w need:=by
   have hfrm:=a8.frame (fun _ _ h=>h) p1 (fun _ h=>(by cases h)) (fun _ _ _ _ _ h=>(by cases h));refine hfrm.sub fun id x hl=>?_;have hg:lk (y8 gz) id=none:=by
    have:=hB gz id;rw[hnone id x hl] at this;cases hq:lk (y8 gz) id with
    |none=>rfl
    |some y=>rw[hq] at this;cases this
   rw[x9,hg];simpa using s2 id x hl
  have hcalls:=hspec (cx.fz gz) w (c.args.toList.map ρ++cus).toArray ok1 (by simpa using hargs');rw[kx ho hc hcall e1];refine hcalls.mono fun e w' ⟨v,c',he,hp,hrd⟩=>⟨v,he,c',?_,hrd⟩;have:=aD.trans a8 p1 hp (fun _ h=>(by cases h)) hnews (fun id x hl=>by
   have hg:lk (y8 gz) id=none:=by
    have:=hB gz id;rw[hnone id x hl] at this;cases hq:lk (y8 gz) id with
    |none=>rfl
    |some y=>rw[hq] at this;cases this
   rw[x9,hg];simpa using s2 id x hl) (fun _ _ _ _ _ h=>(by cases h)) (fun id x hl hu y hy=>by
   rw[x9] at hl;cases hg:lk (y8 gz) id with
   |some z =>
    rw[hg] at hl;simp at hl;subst hl;rw[eb hg];simp[Obj.ids]
   |none =>
    rw[hg] at hl;simp at hl;rw[x9] at hl;cases hgz:lk gz id with
    |some z =>
     rw[hgz] at hl;simp at hl;subst hl;rw[hz.ids id z hgz];simp
    |none =>
     rw[hgz] at hl;simp at hl;exact Y1 (AD.1 hfr _ (J2 hl)) y hy)
  simpa using this
 ·rw[x9];have:=hnews id hid;cases hu:lk upd id with
  |none=>rw[hu] at this;cases this
  |some x=>rfl
def gY (os:Os):AV->Bool
 |.aF id=>match lk os id with
  |some (.deep _ _ _ _ _ _)=>true
  |_=>false
 |.ep id _ _ _=>match lk os id with
  |some (.deep _ _ _ _ _ _)=>true
  |_=>false
 |_=>false
def uk (tab:E5) (t:TypeId):Bool:=match lk tab t with
 |some ti=>match lk tab ti.elem with
  |some te=>A4 te.kind 1 && A4 te.len 1
  |none=>false
 |none=>false
def eI {b:Bool} {X Y Z:Prop} (h:bif b then X else Y) (a:b=true->X->Z) (c:b=false->Y->Z):Z:=by
 cases b
 ·exact c rfl h
 ·exact a rfl h
def pQ (tab:E5) (t:TypeId):Bool:=match lk tab t with
 |some ti=>A4 ti.kind 2
 |none=>false
def pU (tab:E5) (t:TypeId) (x:AV):Bool :=
 match lk tab t with
 |some ti=>match x with
  |.str _=>A4 ti.kind 4
  |.mp _=>A4 ti.kind 8
  |_=>A4 ti.kind 2
 |none=>false
def lv (P:Program) (tab:E5) (d:Nat) (c:Go.Call) (ev:Ev) (os:Os) (K:Kt):Prop :=
 match c.callee with
 |.builtin b=>match b,c.args.toList,c.argTypes.toList with
  |.len,[x],[t]=>bif gY os (ev x) then(match pQ tab t with
    |true=>lp os (ev x) K
    |false=>False) else match pU tab t (ev x) with
   |true=>mN os (ev x) K
   |false=>False
  |.append,[x,y],[t,e]=>bif gY os (ev x) then lF tab os d t e (ev x) (ev y) K else bif uc (ev y) then ku tab os d t e (ev x) (ev y) K else kN tab os d t e (ev x) (ev y) K
  |.min,[x,y],_=>mQ (ev x) (ev y) K
  |.max,[x,y],_=>mW (ev x) (ev y) K
  |_,_,_=>False
 |.value f=>match ev f with
  |.fn g a=>Z8 P g (c.args.toList.map ev++a) os K
  |_=>False
 |.invoke _ _=>False
def qv (n:D5 P tab) (d:Nat) {c:Go.Call} (e:o.op=.call c) (h:lv P tab d c ev os K):G8 P o ev os K:=by
 unfold lv at h;obtain⟨callee,args,argTypes⟩:=c;split at h
 ·rename_i b w;simp only at w;subst w;split at h
  ·rename_i x t i u;have a:args=#[x]:=by simpa using congrArg List.toArray i
   have k:argTypes=#[t]:=(by simpa using congrArg List.toArray u);subst a k;refine eI h (fun _ h=>?_) fun _ h=>?_
   ·split at h
    ·rename_i q;unfold pQ at q;split at q
     ·rename_i ti l;exact u4 n l (A9 q) e h
     ·cases q
    ·exact h.elim
   split at h
   ·rename_i j;refine uU n e ?_ h;unfold pU at j;split at j
    ·rename_i ti l;rw[l];split at j
     ·rename_i s m;rw[m];exact A9 j
     ·rename_i s m;rw[m];exact A9 j
     ·rename_i r p;have:=A9 j;cases m:ev x<;>first|exact this|exact absurd m (r _)|exact absurd m (p _)
    ·cases j
   ·exact h.elim
  ·rename_i x y t B i u;have a:args=#[x,y]:=by simpa using congrArg List.toArray i
   have k:argTypes=#[t,B]:=(by simpa using congrArg List.toArray u);subst a k;exact eI h (fun _ h=>sY n d e h) fun _ h=>eI h (fun _ h=>sc n d e h) fun _ h=>qe n d e h
  ·rename_i x y i;have a:args=#[x,y]:=by simpa using congrArg List.toArray i
   subst a;exact uQ e h
  ·rename_i x y i;have a:args=#[x,y]:=by simpa using congrArg List.toArray i
   subst a;exact uM e h
  ·exact h.elim
 ·rename_i f z;split at h
  ·rename_i g v A;exact tQ e z A h
  ·exact h.elim
 ·exact h.elim
def dR (P:Program) (tab:E5) (et:Q8) (d:Nat) (op:Op) (ev:Ev) (os:Os) (K:Kt):Prop :=
 match op with
 |.move x=>K (ev x) [] [] []
 |.assign x=>K (ev x) [] [] []
 |.pick c a b=>lu ev c a b K
 |.alloc t=>lW tab d t K
 |.box t x=>mM d t (ev x) K
 |.build t e=>lb tab ev t e K
 |.buildSlice t n e=>bif uk tab t then(kU tab os ev d t n e K\/jB tab os ev d t n e K) else jB tab os ev d t n e K
 |.load t x=>bif gY os (ev x) then lV tab os t (ev x) K else ly tab os t (ev x) (mg os K)
 |.store t x y=>bif gY os (ev x) then lS tab os t (ev x) (ev y) K else kO tab os t (ev x) (ev y) K
 |.nilCheck x=>mO (ev x) K
 |.binOp op t x y _=>bif lK y then mX tab op t (ev x) (ev y) K else mZ tab et op t (ev x) (ev y) (fun av=>K av [] [] [])
 |.unOp op _ x=>mb op (ev x) K
 |.convert s t x=>mE tab s t (ev x) K
 |.makeFunc fn f c=>mG ev fn f c K
 |.makeSlice t x y=>ln tab d t (ev x) (ev y) K
 |.slice t x h g none=>bif gY os (ev x) then kS tab os d t (ev x) (I4 ev h) (I4 ev g) K else ld tab os d t (ev x) (I4 ev h) (I4 ev g) K
 |.fieldAddr s x f=>kj tab s (ev x) f K
 |.field s x f=>ll tab s (ev x) f K
 |.indexAddr t x i=>bif gY os (ev x) then ke tab os t (ev x) (ev i) K else ko tab os t (ev x) (ev i) K
 |.index t x i=>lZ tab t (ev x) (ev i) K
 |.extract x i=>lC (ev x) i K
 |.makeMap _ none=>o4 d K
 |.lookup t x k false=>kM tab os t (ev x) (ev k) K
 |.mapUpdate t x k v=>kn tab os t (ev x) (ev k) (ev v) K
 |.call c=>lv P tab d c ev os K
 |_=>False
def bD (hT:D5 P tab) (hE:R5 P et) (d:Nat) (h:dR P tab et d o.op ev os K):G8 P o ev os K:=by
 cases ho:o.op<;>rw[ho] at h<;>simp only[dR] at h
 case move x=>exact oy (.inl ho) h
 case assign x=>exact oy (.inr ho) h
 case pick c a b=>exact tc ho h
 case alloc t=>exact rI hT d ho h
 case box t x=>exact ua d ho h
 case build t ps=>exact tD hT ho h
 case buildSlice t n ps=>exact eI h (fun _ h=>h.elim (fun h=>qS hT d ho h) fun h=>nL hT d ho h) fun _ h=>nL hT d ho h
 case load t x=>exact eI h (fun _ h=>r7 hT ho h) fun _ h=>(tW hT ho h).res
 case store t x y=>exact eI h (fun _ h=>qV hT ho h) fun _ h=>qb hT ho h
 case nilCheck x=>exact ud ho h
 case binOp op t x y ty=>exact eI h (fun hy h=>uH hT ho hy h) fun _ h=>uX hT hE ho h
 case unOp op t x=>exact um ho h
 case convert s t x=>exact uC hT ho h
 case makeFunc fn f c=>exact tJ ho h
 case makeSlice t x y=>exact tZ hT d ho h
 case slice t x lo hi mx=>cases mx with
  |none=>exact eI h (fun _ h=>qh hT d ho h) fun _ h=>r4 hT d ho h
  |some m=>exact h.elim
 case fieldAddr s x f=>exact sH hT ho h
 case field s x f=>exact tE hT ho h
 case indexAddr t x i=>exact eI h (fun _ h=>s0 hT ho h) fun _ h=>sF hT ho h
 case index t x i=>exact rA hT ho h
 case extract x i=>exact sd ho h
 case makeMap t r=>cases r with
  |none=>exact sb d ho h
  |some r=>exact h.elim
 case lookup t x k b=>cases b with
  |false=>exact qq hT ho h
  |true=>exact h.elim
 case mapUpdate t x k v=>exact sK hT ho h
 case call c=>exact qv hT d ho h
end
def oL {p:Prop} [Decidable p] {X Y:Prop} (a:p->X) (b:¬p->Y):dW (decide p) X Y:=by
 by_cases h:p
 ·rw[Aj h];exact a h
 ·rw[Ai h];exact b h
def y7 (a:List Nat) (ts:Ts):Bool:=match a with
 |[]=>true
 |_=>ts.all fun p=>eF a p.2.ids
def y5 (a:List Nat) (b os:Os):Bool:=match a with
 |[]=>true
 |_=>a.all (fun i=>AH i top) && os.all fun p=>(lk b p.1).isSome || eF a p.2.ids
def cd (n:Nat):Option Tmp->Bool
 |none=>true
 |some d=>AH d n
def T9 : Option Tmp->AV->Ts->Ts
 |none,_,ts=>ts
 |some d,av,ts=>(d,av)::ts
def force (a:AV) (K:AV->Prop):Prop :=
 match a with
 |.any=>K .any
 |.int n=>K (.int n)
 |.ik k n=>K (.ik k n)
 |.bool b=>K (.bool b)
 |.str s=>K (.str s)
 |.sl sz ls=>K (.sl sz ls)
 |.ptr id off=>K (.ptr id off)
 |.fp d=>K (.fp d)
 |.aF id=>K (.aF id)
 |.bX id n=>K (.bX id n)
 |.bn id n sz=>K (.bn id n sz)
 |.ep id i sz off=>K (.ep id i sz off)
 |.fn f d=>K (.fn f d)
 |.agg d=>K (.agg d)
 |.aS d=>K (.aS d)
 |.aC=>K .aC
 |.cS b=>K (.cS b)
 |.aN=>K .aN
 |.aG=>K .aG
 |.mp id=>K (.mp id)
 |.bF id=>K (.bF id)
 |.np id=>K (.np id)
 |.bY b=>K (.bY b)
 |.aU v=>K (.aU v)
def force_eq (a:AV) (K:AV->Prop):force a K↔K a:=by cases a<;>exact Iff.rfl
def dK : Os->Os->(Os->Prop)->Prop
 |[],os,K=>K os
 |(k,o)::r,os,K=>dK r os fun x=>K ((k,o)::x)
theorem dq : ∀(a os:Os) (K:Os->Prop),dK a os K↔K (a++os)
 |[],_,_=>Iff.rfl
 |(k,o)::r,os,K=>by rw[dK,dq r os];rfl
def Y0 : Ts->(Ts->Prop)->Prop
 |[],K=>K []
 |(k,a)::r,K=>Y0 r fun x=>K ((k,a)::x)
theorem gA : ∀(ts:Ts) (K:Ts->Prop),Y0 ts K↔K ts
 |[],_=>Iff.rfl
 |(k,a)::r,K=>by rw[Y0,gA r]
def gG (ops:List Oper) (ts:Ts) (j:Nat):Option Bool :=
 match ops[j]? with
 |some o=>match o.dst with
  |some d=>match lk ts d with
   |some (.bool b)=>some b
   |_=>none
  |none=>none
 |none=>none
def gN (ops:List Oper) (ts:Ts) (j:Nat):Bool :=
 match ops[j]? with
 |some o=>match o.dst with
  |some d=>match lk ts d with
   |some (.aS [])=>true
   |_=>false
  |none=>false
 |none=>false
def dv (ops:List Oper) (o:Oper) (ts:Ts) (X Y:Prop):Prop :=
 match o.guard with
 |none=>X
 |some (j,true)=>match gN ops ts j with
  |true=>Y
  |false=>match gG ops ts j with
   |some b=>dW b X Y
   |none=>False
 |some (j,false)=>match gN ops ts j with
  |true=>Y
  |false=>match gG ops ts j with
   |some b=>dW b Y X
   |none=>False
def ee (P:Program) (tab:E5) (et:Q8) (n:Nat) (ops:List Oper):List Oper->Ts->Os->(Ts->Os->Prop)->Prop
 |[],ts,os,K=>K ts os
 |o::rest,ts,os,K=>match o.dst with
  |some d=>match AH d n with
   |true=>dv ops o ts
    (dR P tab et d o.op (X5 ts) os fun av _ a b=>match y7 a ts && y5 a b os with
     |true=>force av fun av=>dK b os fun os=>ee P tab et n ops rest ((d,av)::ts) os K
     |false=>False)
    (ee P tab et n ops rest ((d,.aS [])::ts) os K)
   |false=>False
  |none=>dv ops o ts
   (dR P tab et 0 o.op (X5 ts) os fun av _ a b=>match y7 a ts && y5 a b os with
    |true=>dK b os fun os=>ee P tab et n ops rest ts os K
    |false=>False)
   (ee P tab et n ops rest ts os K)
section
variable {P:Program} {tab:E5} {et:Q8} {Γ:H7}
theorem ch.put {c c':Ctx} {w w':World} {ts:Ts} {a:Act} {need upd:Os} {news:List Nat} {v:Value} {av:AV} {dst:Option Tmp} (h:ch c w ts a) (k:F6 c w need) (l:aD c w c' w' need upd news) (j:∀t x,lk ts t=some x->∀id∈news,id ∉ x.ids)
  (m:Rd c' w' v av) (hd:cd a.tmps.size dst=true):ch c' w' (T9 dst av ts) (a.put dst v):=by
 cases dst with
 |none =>
  intro t x e;obtain⟨u,f,g⟩:=h t x e;exact⟨u,f,g.post l k (j t x e)⟩
 |some d =>
  intro t x e;have i:d<a.tmps.size:=AP hd;simp only[T9,j5] at e;by_cases b:d=t
  ·rw[Af b] at e;cases e;subst b;exact⟨v,by simp[Act.put,i],m⟩
  ·rw[Ae b] at e;obtain⟨u,f,g⟩:=h t x e;exact⟨u,by simp[Act.put,Array.getElem?_setIfInBounds_ne b,f],g.post l k (j t x e)⟩
def hA {b:List Nat} {ts:Ts} (h:y7 b ts=true):∀t x,lk ts t=some x->∀id∈b,id ∉ x.ids:=by
 intro t x d id a;unfold y7 at h;split at h
 ·cases a
 ·exact Y1 (AD.1 h _ (J2 d)) id a
def Y5 {b:List Nat} {d os:Os} (h:y5 b d os=true):(∀id o,lk os id=some o->lk d id=none->∀x∈b,x ∉ o.ids)/\∀x∈b,x<top:=by
 unfold y5 at h;split at h
 ·exact⟨fun _ _ _ _ _ h=>(by cases h),fun _ h=>(by cases h)⟩
 ·simp only[A7] at h;refine⟨fun id o e f x a=>?_,fun x a=>?_⟩
  ·have:=AD.1 h.2 _ (J2 e);simp only[f,Option.isSome_none,Bool.false_or] at this;exact Y1 this x a
  ·exact AP (AD.1 h.1 x a)
def kH (Γ:H7) (c:Ctx):Prop:=∀id,top<=id->c.μ id=Γ.c.μ id/\c.hd id=Γ.c.hd id
structure pZ (Γ:H7) (ts:Ts) (os:Os) (c:Ctx) (a:Act) (w:World):Prop where
 rel:vC Γ ts os c a w
 same:kH Γ c
def l9 (Γ:H7) (ts:Ts) (os:Os) (a:Act) (w:World):Prop:=∃c,pZ Γ ts os c a w
theorem bE.inst {r:Result Next} {R:Value->World->Prop} (h:bE P r R):∃v w,R v w:=by
 unfold bE at h;split at h
 ·exact⟨_,_,h⟩
 ·exact⟨_,_,h⟩
 ·obtain⟨e,w',b,⟨v,_,a⟩,_⟩:=h [];exact⟨v,w',a⟩
 ·exact h.elim
def kk {c:Ctx} {w:World} {ops:List Oper} {ts:Ts} {a:Act} {j:Nat} {b:Bool} (h:ch c w ts a) (e:gG ops ts j=some b):yielded ops.toArray a.tmps j=some b:=by
 unfold gG at e;split at e
 ·rename_i o k;split at e
  ·rename_i d hd;split at e
   ·rename_i l i;cases e;obtain⟨v,f,g⟩:=h d _ i;rw[g.ai] at f;unfold yielded;simp[k,hd,f]
   ·cases e
  ·cases e
 ·cases e
def kl {c:Ctx} {w:World} {ops:List Oper} {ts:Ts} {a:Act} {j:Nat} (h:ch c w ts a) (b:gN ops ts j=true):yielded ops.toArray a.tmps j=none:=by
 unfold gN at b;split at b
 ·rename_i o i;split at b
  ·rename_i d hd;split at b
   ·rename_i g;obtain⟨v,e,f⟩:=h d _ g;obtain⟨us,rfl,_⟩:=f.cZ;unfold yielded;simp[i,hd,e]
   ·cases b
  ·cases b
 ·cases b
def nh {c:Ctx} {w:World} {ops:List Oper} {o:Oper} {ts:Ts} {a:Act} {X Y:Prop} (h:ch c w ts a) (d:dv ops o ts X Y):(Region.wanted o (yielded ops.toArray a.tmps)=true/\X)\/(Region.wanted o (yielded ops.toArray a.tmps)=false/\Y):=by
 unfold dv at d;unfold Region.wanted;split at d
 ·rename_i e;rw[e];exact .inl ⟨rfl,d⟩
 ·rename_i j e;rw[e];split at d
  ·rename_i g;have:=kl h g;exact .inr ⟨by simp[this],d⟩
  split at d
  ·rename_i b f;have:=kk h f;cases b
   ·exact .inr ⟨by simp[this],d⟩
   ·exact .inl ⟨by simp[this],d⟩
  ·exact d.elim
 ·rename_i j e;rw[e];split at d
  ·rename_i g;have:=kl h g;exact .inr ⟨by simp[this],d⟩
  split at d
  ·rename_i b f;have:=kk h f;cases b
   ·exact .inl ⟨by simp[this],d⟩
   ·exact .inr ⟨by simp[this],d⟩
  ·exact d.elim
def hZ (a:Act) (dst:Option Tmp) (v:Value):(a.put dst v).tmps.size=a.tmps.size:=by cases dst<;>simp[Act.put]
def put_defers (a:Act) (dst:Option Tmp) (v:Value):(a.put dst v).defers=a.defers:=by cases dst<;>simp[Act.put]
def oS {o:Oper} {ts:Ts} {os:Os} {a:Act} {w:World} {K:Kt} (h:G8 P o (X5 ts) os K) (H:l9 Γ ts os a w)
  {u:Act->World->Prop} {Q:Exit->Act->World->Prop} (F:∀av rd l p,K av rd l p->(∀v w' c',y7 l ts=true->y5 l p os=true->cd Γ.n o.dst=true->pZ Γ (T9 o.dst av ts) (p++os) c' (a.put o.dst v) w'->u (a.put o.dst v) w')/\y7 l ts=true/\y5 l p os=true/\cd Γ.n o.dst=true) :
  o.wp P a w u Q:=by
 obtain⟨c,⟨hd,D,k,a8,i⟩,f⟩:=H;have g:∀x∈o.op.operands.toList,Rd c w (a.eval x) (X5 ts x):=fun x _=>gM k x;obtain⟨av,need,upd,news,j,b,d,q⟩:=h ⟨c,w,a.eval,a8,g⟩;obtain⟨e,f1,y,z⟩:=F _ _ _ _ q;have r:=j c w a.eval (a8.sub b) g;unfold Oper.wp;refine r.upon fun v w' ⟨c',m,I⟩=>?_;obtain⟨A,E⟩:=Y5 y;refine e v w' c' f1 y z ⟨⟨by rw[put_defers];exact hd,by rw[hZ];exact D,k.put (a8.sub b) m (hA f1) I (by rw[D];exact z),a8.frame b m d A,i.post a8 b m d A⟩,fun id s=>?_⟩;have t:id ∉ news:=fun G=>by have:=E id G;omega
 have B:=m.ctx id t;have C:=f id s;exact⟨B.1.trans C.1,B.2.trans C.2⟩
def iA {o:Oper} {ts:Ts} {os:Os} {a:Act} {w:World} (j:l9 Γ ts os a w) (hd:cd Γ.n o.dst=true):l9 Γ (T9 o.dst (.aS []) ts) os (a.put o.dst undef) w:=by
 obtain⟨c,⟨e,d,f,b,g⟩,i⟩:=j;exact⟨c,⟨by rw[put_defers];exact e,by rw[hZ];exact d,f.put (need:=[]) (upd:=[]) (news:=[]) (b.sub fun _ _ h=>by cases h) (aD.refl b.aX) (fun _ _ _ _ h=>by cases h) (Rd.aS (us:=[]) .nil) (by rw[d];exact hd),b,g⟩,i⟩
theorem hM (m:D5 P tab) (j:R5 P et) {ops:List Oper} {Q:Exit->Act->World->Prop} {l2:List Oper}:∀(l:List Oper) (ts:Ts) (os:Os) (K:Ts->Os->Prop) (a:Act) (w:World),ee P tab et Γ.n ops l ts os K->l9 Γ ts os a w ->
  (∀s r u w',K s r->l9 Γ s r u w'->wpList P ops.toArray Q l2 u w')->wpList P ops.toArray Q (l++l2) a w
 |[],ts,os,K,a,w,h,t,k=>k ts os a w h t
 |o::rest,ts,os,K,a,w,h,t,k=>by
  obtain⟨c,b⟩:=t;have f:l9 Γ ts os a w:=⟨c,b⟩;rw[List.cons_append];unfold wpList;unfold ee at h;split at h
  ·rename_i d hd;split at h
   ·rename_i q;rcases nh b.rel.ts h with⟨i,h⟩|⟨i,h⟩
    ·rw[Af i];refine .inl (oS (bD m j _ h) f fun av rd x y e=>?_);split at e
     ·rename_i g;simp only[A7] at g;rw[force_eq,dq] at e;refine⟨fun v w' c' _ _ _ p=>hM m j rest _ _ K _ _ e ⟨c',by rw[hd] at p⊢;exact p⟩ k,g.1,g.2,by rw[hd];exact q⟩
     ·exact e.elim
    ·rw[Ae (by rw[i];simp)];have:=iA (o:=o) f (by rw[hd];exact q);exact hM m j rest _ _ K _ _ h (by rw[hd] at this⊢;exact this) k
   ·exact h.elim
  ·rename_i hd;rcases nh b.rel.ts h with⟨i,h⟩|⟨i,h⟩
   ·rw[Af i];refine .inl (oS (bD m j _ h) f fun av rd x y e=>?_);split at e
    ·rename_i g;simp only[A7] at g;rw[dq] at e;refine⟨fun v w' c' _ _ _ p=>hM m j rest _ _ K _ _ e ⟨c',by rw[hd] at p⊢;exact p⟩ k,g.1,g.2,by rw[hd];rfl⟩
    ·exact e.elim
   ·rw[Ae (by rw[i];simp)];have:=iA (o:=o) f (by rw[hd];rfl);exact hM m j rest _ _ K _ _ h (by rw[hd] at this⊢;exact this) k
def r8 (j:D5 P tab) (g:R5 P et) {ops:List Oper} {Q:Exit->Act->World->Prop} (l:List Oper) (ts:Ts) (os:Os) (K:Ts->Os->Prop) (a:Act) (w:World) (h:ee P tab et Γ.n ops l ts os K) (m:l9 Γ ts os a w)
  (i:∀d b e w',K d b->l9 Γ d b e w'->Q .normal e w'):wpList P ops.toArray Q l a w:=by
 have:=hM j g (l2:=[]) l ts os K a w h m fun d b e w' k f=>i d b e w' k f
 rwa [List.append_nil] at this
inductive Ex : Type where
 |normal
 |exit (id:Nat)
 |ret
def ez : Exit->Ex->Prop
 |.normal,.normal=>True
 |.exit i,.exit j=>i=j
 |.ret,.ret=>True
 |_,_=>False
abbrev Qt := Ex->Ts->Os->Prop
structure j4 (P:Program) (Γ:H7) (c:Code) (ts:Ts) (os:Os) (Q:Qt):Prop where
 run:∀a w,l9 Γ ts os a w->c.wp P (fun e a' w'=>∃ex ts' os',ez e ex/\Q ex ts' os'/\l9 Γ ts' os' a' w') a w
def cT (P:Program) (tab:E5) (et:Q8) (Γ:H7) (n:Nat):Code->Ts->Os->Qt->Prop
 |.skip,ts,os,Q=>Q .normal ts os
 |.seq x y,ts,os,Q=>cT P tab et Γ n x ts os fun e d a=>match e with
  |.normal=>j4 P Γ y d a Q
  |.exit id=>Q (.exit id) d a
  |.ret=>Q .ret d a
 |.cond c x y,ts,os,Q=>match X5 ts c with
  |.bool b=>dW b (j4 P Γ x ts os Q) (j4 P Γ y ts os Q)
  |_=>False
 |.block id c,ts,os,Q=>cT P tab et Γ n c ts os fun e d a=>match e with
  |.normal=>Q .normal d a
  |.exit f=>match A4 f id with
   |true=>Q .normal d a
   |false=>Q (.exit f) d a
  |.ret=>Q .ret d a
 |.loop c,ts,os,Q=>j4 P Γ (.loop c) ts os Q
 |.region id ops false,ts,os,Q=>Y0 ts fun ts=>ee P tab et n ops.toList ops.toList ts os (Q .normal)
 |.region id ops true,ts,os,Q=>j4 P Γ (.region id ops true) ts os Q
 |.exit id,ts,os,Q=>Q (.exit id) ts os
 |.ret,ts,os,Q=>Q .ret ts os
 |_,_,_,_=>False
theorem j4.mono {c:Code} {ts:Ts} {os:Os} {Q f:Qt} (h:j4 P Γ c ts os Q) (k:∀e ts os,Q e ts os->f e ts os):j4 P Γ c ts os f :=
 ⟨fun a w l=>wp_mono (h.run a w l) fun e m w' ⟨ex,d,b,g,i,j⟩=>⟨ex,d,b,g,k _ _ _ i,j⟩⟩
theorem lq (u:D5 P tab) (t:R5 P et):∀(c:Code) (ts:Ts) (os:Os) (Q:Qt),cT P tab et Γ Γ.n c ts os Q->j4 P Γ c ts os Q
 |.skip,ts,os,Q,h=>⟨fun a w k=>wp_skip ⟨.normal,ts,os,trivial,h,k⟩⟩
 |.seq x y,ts,os,Q,h=>by
  refine⟨fun a w k=>wp_seq (wp_mono ((lq u t x ts os _ h).run a w k) fun e r w' ⟨ex,f,d,o,g,m⟩=>?_)⟩;cases e<;>cases ex<;>simp only[ez] at o<;>first|exact o.elim|skip
  ·exact g.run r w' m
  ·subst o;exact⟨.exit _,f,d,rfl,g,m⟩
  ·exact⟨.ret,f,d,trivial,g,m⟩
 |.cond c x y,ts,os,Q,h=>by
  unfold cT at h;split at h
  ·rename_i b q;refine⟨fun a w k=>?_⟩;obtain⟨A,l⟩:=k;have p:=gM l.rel.ts c;rw[q] at p;cases b
   ·exact wp_cond_false p.ai (h.run a w ⟨A,l⟩)
   ·exact wp_cond_true p.ai (h.run a w ⟨A,l⟩)
  ·exact h.elim
 |.block id c,ts,os,Q,h=>by
  refine⟨fun a w k=>wp_block (wp_mono ((lq u t c ts os _ h).run a w k) fun e r w' ⟨ex,f,d,o,g,m⟩=>?_)⟩
  match e,ex,o,g with
  |.normal,.normal,_,g=>exact⟨.normal,f,d,trivial,g,m⟩
  |.exit i,.exit j,o,g =>
   have s:i=j:=o;subst s;simp only at g;split at g
   ·rename_i q;have B:=A9 q;simp only[Exit.inBlock,Af B];exact⟨.normal,f,d,trivial,g,m⟩
   ·rename_i q;have v:¬i=id:=fun e=>by rw[e] at q;simp at q
    simp only[Exit.inBlock,Ae v];exact⟨.exit i,f,d,rfl,g,m⟩
  |.ret,.ret,_,g=>exact⟨.ret,f,d,trivial,g,m⟩
 |.loop c,ts,os,Q,h=>h
 |.region id ops false,ts,os,Q,h=>⟨fun a w k=>wp_region_list (by
   have:=r8 u t (Q:=fun e r w'=>∃ex f d,ez e ex/\Q ex f d/\l9 Γ f d r w') ops.toList ts os (Q .normal) a w ((gA ts _).1 h) k fun f d r w' C z=>⟨.normal,f,d,trivial,C,z⟩;simpa using this)⟩
 |.region id ops true,ts,os,Q,h=>h
 |.exit id,ts,os,Q,h=>⟨fun a w k=>wp_exit ⟨.exit id,ts,os,rfl,h,k⟩⟩
 |.ret,ts,os,Q,h=>⟨fun a w k=>wp_ret ⟨.ret,ts,os,trivial,h,k⟩⟩
 |.rangeFunc _ _ _ _,_,_,_,h=>h.elim
 |.scope _,_,_,_,h=>h.elim
 |.label _,_,_,_,h=>h.elim
 |.goto _,_,_,_,h=>h.elim
 |.refuse _,_,_,_,h=>h.elim
end
section
mutual
def AV.ar (ρ:Nat->Nat):AV->AV
 |.ptr id off=>.ptr (ρ id) off
 |.aF id=>.aF (ρ id)
 |.bX id n=>.bX (ρ id) n
 |.bn id n sz=>.bn (ρ id) n sz
 |.ep id i sz off=>.ep (ρ id) i sz off
 |.mp id=>.mp (ρ id)
 |.bF id=>.bF (ρ id)
 |.np id=>.np (ρ id)
 |.fn f b=>.fn f (AV.bV ρ b)
 |.agg b=>.agg (AV.bV ρ b)
 |.aS b=>.aS (AV.bV ρ b)
 |a=>a
def AV.bV (ρ:Nat->Nat):List AV->List AV
 |[]=>[]
 |a::l=>a.ar ρ::AV.bV ρ l
end
def Ctx.b9 (c:Ctx) (ρ:Nat->Nat):Ctx:={ c with μ:=fun i=>c.μ (ρ i),hd:=fun i=>c.hd (ρ i) }
section
variable {c:Ctx} {w:World} {ρ:Nat->Nat}
mutual
theorem Rd.aW : ∀(a:AV) {v:Value},Rd c w v (a.ar ρ)->Rd (c.b9 ρ) w v a
 |.ptr id off,_,h=>by rw[h.bK];exact .ptr rfl
 |.aF id,_,h=>by obtain⟨A,n,cap,e1,d,j,l⟩:=h.aj;rw[e1];exact .aF d j l
 |.bX id n,_,h=>by obtain⟨A,m,cap,e1,d,j,l,q⟩:=h.dA;rw[e1];exact .bX d j l q
 |.bn id n sz,_,h=>by obtain⟨A,m,cap,e1,d,j,l,q⟩:=h.j0;rw[e1];exact .bn d j l q
 |.ep id i sz off,_,h=>by obtain⟨g,r,m,cap,e1,d⟩:=h.ff;rw[e1];exact .ep d
 |.mp id,_,h=>by rw[h.gp];exact .mp rfl
 |.bF id,_,h=>by obtain⟨A,n,cap,vs,e1,d,j,l⟩:=h.eX;rw[e1];exact .bF d j l
 |.np id,_,h=>by
  rcases h.pk with e|e
  ·rw[e];exact .gq
  ·rw[e];exact .gr rfl
 |.bY b,_,h=>by cases h with|fz h=>exact .fz h
 |.fn f o,_,h=>by obtain⟨us,e,p⟩:=Rd.gk h;rw[e];exact .fn (l6.aW o p)
 |.agg o,_,h=>by obtain⟨us,e,p⟩:=Rd.bH h;rw[e];exact .agg (l6.aW o p)
 |.aS o,_,h=>by obtain⟨us,e,p⟩:=Rd.cZ h;rw[e];exact .aS (l6.aW o p)
 |.any,_,_=>Rd.bP _
 |.int n,_,h=>by cases h with|fz h=>exact .fz h
 |.ik k n,_,h=>by cases h with|fz h=>exact .fz h
 |.bool b,_,h=>by cases h with|fz h=>exact .fz h
 |.str s,_,h=>by cases h with|fz h=>exact .fz h
 |.sl sz ls,_,h=>by cases h with|fz h=>exact .fz h
 |.fp o,_,h=>by cases h with|fz h=>exact .fz h
 |.aC,_,h=>by cases h with|fz h=>exact .fz h
 |.cS b,_,h=>by cases h with|fz h=>exact .fz h
 |.aN,_,h=>by cases h with|fz h=>exact .fz h
 |.aG,_,h=>by cases h with|fz h=>exact .fz h
 |.aU v,_,h=>by cases h with|fz h=>exact .fz h
theorem l6.aW : ∀(a_:List AV) {vs:List Value},l6 c w vs (AV.bV ρ a_)->l6 (c.b9 ρ) w vs a_
 |[],_,h=>by cases h;exact .nil
 |a::l,_,h=>by cases h with|cons h t=>exact .cons (Rd.aW a h) (l6.aW l t)
end
end
def Obj.ar (ρ:Nat->Nat):Obj->Obj
 |.box b e=>.box (AV.bV ρ b) e
 |.eqv j v=>.eqv (ρ j) v
 |.aw sz ls e i off x=>.aw sz ls e i off (ρ x)
 |.deep sz e a l d sh=>.deep sz e a l (d.map fun p=>(p.1,p.2.1,ρ p.2.2)) (ρ sh)
 |o=>o
def kr {ρ:Nat->Nat} {f:List (Nat×Nat×Nat)} {i off:Nat}:O8 (f.map fun p=>(p.1,p.2.1,ρ p.2.2)) i off↔O8 f i off:=by
 constructor
 ·rintro⟨x,d⟩;obtain⟨⟨a,b,y⟩,g,e⟩:=AI.1 d;cases e;exact⟨y,g⟩
 ·rintro⟨x,d⟩;exact⟨ρ x,AI.2 ⟨_,d,rfl⟩⟩
def iJ {ρ:Nat->Nat} {css:List (List Value)} {f:List (Nat×Nat×TypeId)} {g:List (Nat×Nat×Nat)} {i off:Nat} {v:Value}:O5 css f (g.map fun p=>(p.1,p.2.1,ρ p.2.2)) i off v↔O5 css f g i off v :=
 ⟨fun⟨us,p,a,b,d,e⟩=>⟨us,p,a,b,d,fun h=>e (kr.2 h)⟩,fun⟨us,p,a,b,d,e⟩=>⟨us,p,a,b,d,fun h=>e (kr.1 h)⟩⟩
theorem iM.aW {c:Ctx} {w:World} {ρ:Nat->Nat} {id sz e sh:Nat} {a:List (Nat×Nat×TypeId)} {l:List (List AV)} {m:List (Nat×Nat×Nat)} (h:iM c.Φ c.hd w (ρ id) sz e a l (m.map fun p=>(p.1,p.2.1,ρ p.2.2)) (ρ sh)) :
  iM (c.b9 ρ).Φ (c.b9 ρ).hd w id sz e a l m sh:=by
 obtain⟨css,r,g,s,t⟩:=h;refine⟨css,r,⟨g.len,g.cell,fun i us q off isz ie u d f k n o=>g.inner i us q off isz ie u d f k n fun h=>o (kr.1 h),fun i off x us u d f k=>g.hole i off (ρ x) us u (AI.2 ⟨_,d,rfl⟩) f k,fun i off v y j z b d f=>g.apart i off v y j z b (iJ.2 d) (iJ.2 f)⟩,
  fun v=>(s v).trans ⟨fun⟨i,off,h⟩=>⟨i,off,iJ.1 h⟩,fun⟨i,off,h⟩=>⟨i,off,iJ.2 h⟩⟩,fun i off v b d=>t i off v b (iJ.2 d)⟩
theorem V3.aW {c:Ctx} {w:World} {ρ:Nat->Nat} {id:Nat} {o:Obj} (h:V3 c w (ρ id) (o.ar ρ)):V3 (c.b9 ρ) w id o:=by
 cases o with
 |aH=>trivial
 |iu g G=>exact h
 |box f e=>obtain⟨us,a,b⟩:=h;exact⟨us,a,l6.aW f b⟩
 |au l=>exact h
 |deep sz e d l k sh=>exact iM.aW h
 |row sz ls e=>exact h
 |pins sz l e=>exact h
 |nest sz e isz ie l=>exact h
 |aw sz ls e i off x=>obtain⟨v,a,b⟩:=h;exact⟨v,Rd.aW (.aF x) a,b⟩
 |eqv j v=>exact h
def U1 {c:Ctx} {ρ:Nat->Nat} {id:Nat} {o:Obj} {b:Nat}:aI (c.b9 ρ) id o b↔aI c (ρ id) (o.ar ρ) b:=by cases o<;>exact Iff.rfl
def rn (l:List (Nat×Nat)) (i:Nat):Nat:=match lk l i with
 |some j=>j
 |none=>i
def k6 (l:List (Nat×Nat)):Bool:=l.all fun p=>AH p.1 top
def jY {l:List (Nat×Nat)} (h:k6 l=true) {i:Nat} (b:top<=i):rn l i=i:=by
 unfold rn;split
 ·rename_i j a;have:=AP (AD.1 h _ (J2 a));simp only at this;omega
 ·rfl
def iZ (ρ:Nat->Nat) (os:Os):Bool:=os.all fun p=>os.all fun q=>A4 p.1 q.1 || !Nat.beq (ρ p.1) (ρ q.1)
def qn {ρ:Nat->Nat} {os:Os} (h:iZ ρ os=true) {i j:Nat} {o g:Obj} (d:lk os i=some o) (f:lk os j=some g) (b:i≠j):ρ i≠ρ j:=by
 have a:=AD.1 (AD.1 h _ (J2 d)) _ (J2 f);simp only[Bool.or_eq_true,Bool.not_eq_true'] at a;rcases a with a|a
 ·exact absurd (A9 a) b
 ·intro e;rw[e] at a;simp at a
def pS : Option AV->AV->Prop
 |some a,b=>gm a b
 |none,b=>b=.any
def k4 (ρ:Nat->Nat) (ts:Ts):Ts->Prop
 |[]=>True
 |(t,a)::r=>pS (lk ts t) (a.ar ρ)/\k4 ρ ts r
def gV (ρ:Nat->Nat) (os:Os):Os->Prop
 |[]=>True
 |(id,o)::r=>lk os (ρ id)=some (o.ar ρ)/\gV ρ os r
theorem jR {ρ:Nat->Nat} {os:Os}:∀{a:Os},gV ρ os a->∀id o,lk a id=some o->lk os (ρ id)=some (o.ar ρ)
 |(k,x)::r,h,id,o,hl=>by
  rw[j5] at hl;split at hl
  ·rename_i e;subst e;cases hl;exact h.1
  ·exact jR h.2 id o hl
theorem F6.aW {c:Ctx} {w:World} {os a:Os} {ρ:Nat->Nat} (h:F6 c w os) (e:gV ρ os a) (l:iZ ρ a=true):F6 (c.b9 ρ) w a:=by
 have e:=jR e;exact⟨fun id o d=>(h.rep _ _ (e id o d)).aW,fun id o b d g=>h.lt _ _ b (e id o d) (U1.1 g),fun id k o m b j d f g i=>h.sep _ _ _ _ b (qn l d f j) (e id o d) (e k m f) (U1.1 g) (U1.1 i),h.aX⟩
section
variable {P:Program} {tab:E5} {et:Q8} {Γ:H7}
structure U9 (ts:Ts) (os:Os) (ts2:Ts) (os2:Os) (rl:List (Nat×Nat)):Prop where
 t:k4 (rn rl) ts ts2
 o:gV (rn rl) os os2
 inj:iZ (rn rl) os2=true
 top:k6 rl=true
theorem oD {ts:Ts} {ρ:Nat->Nat}:∀{a:Ts},k4 ρ ts a->∀t x,lk a t=some x->pS (lk ts t) (x.ar ρ)
 |(k,y)::r,h,t,x,hl=>by
  rw[j5] at hl;split at hl
  ·rename_i e;subst e;cases hl;exact h.1
  ·exact oD h.2 t x hl
theorem ch.aW {c:Ctx} {w:World} {ts d:Ts} {a:Act} {ρ:Nat->Nat} (h:ch c w ts a) (m:∀t x,lk d t=some x->t<a.tmps.size) (n:k4 ρ ts d):ch (c.b9 ρ) w d a:=by
 intro t x j;have e:=oD n t x j;have i:=m t x j;cases g:lk ts t with
 |some b =>
  rw[g] at e;obtain⟨v,k,l⟩:=h t b g;exact⟨v,k,Rd.aW x (mF e l)⟩
 |none =>
  rw[g] at e;refine⟨a.tmps[t],by simp[i],Rd.aW x ?_⟩;have f:x.ar ρ=.any:=e;rw[f];exact Rd.bP _
theorem U9.rel {ts:Ts} {os:Os} {f:Ts} {g:Os} {l:List (Nat×Nat)} (h:U9 ts os f g l) (v:(f.all fun p=>AH p.1 Γ.n)=true) {a:Act} {w:World} (y:l9 Γ ts os a w):l9 Γ f g a w:=by
 obtain⟨c,⟨m,k,q,r,d⟩,s⟩:=y;have j:=jR h.o;refine⟨c.b9 (rn l),⟨m,k,q.aW (fun t x i=>by rw[k];exact AP (AD.1 v _ (J2 i))) h.t,r.aW h.o h.inj,⟨d.bO,d.tape,d.output,d.size,d.aX,d.aV,d.aK,fun id o b i u=>d.ab _ _ b (j id o i) (U1.1 u)⟩⟩,fun id e=>?_⟩;have:=s id e;rw[<-jY h.top e] at this;simpa[Ctx.b9,jY h.top e] using this
theorem j4.sub {c:Code} {ts b:Ts} {os d:Os} {Q:Qt} (i:List (Nat×Nat)) (h:U9 ts os b d i) (f:(b.all fun p=>AH p.1 Γ.n)=true) (e:j4 P Γ c b d Q):j4 P Γ c ts os Q :=
 ⟨fun a w g=>e.run a w (h.rel f g)⟩
def exists_least {p:Nat->Prop} (h:∃n,p n):∃n,p n/\∀m,p m->n<=m:=by
 obtain⟨n,f⟩:=h
 induction n using Nat.strongRecOn with
 |_ n ih =>
  by_cases a:∃m,m<n/\p m
  ·obtain⟨m,b,d⟩:=a;exact ih m b d
  ·exact⟨n,f,fun m e=>by
    rcases Nat.lt_or_ge m n with h|h
    ·exact absurd ⟨m,h,e⟩ a
    ·exact h⟩
theorem j4.loop {ι:Type} (St:ι->Ts) (g:ι->Os) (m:ι->Nat) {c:Code} {ts:Ts} {os:Os} {Q:Qt} (t:ι) (B:List (Nat×Nat)) (G:U9 ts os (St t) (g t) B) (D:∀i,((St i).all fun p=>AH p.1 Γ.n)=true)
  (M:∀i,j4 P Γ c (St i) (g i) fun e f d=>match e with
   |.normal=>∃j E,m j<m i/\U9 f d (St j) (g j) E
   |.exit id=>Q (.exit id) f d
   |.ret=>Q .ret f d):j4 P Γ (.loop c) ts os Q:=by
 refine⟨fun a w q=>?_⟩;let I:Act->World->Prop:=fun a w=>∃i,l9 Γ (St i) (g i) a w;have v:I a w:=⟨t,G.rel (D t) q⟩;have l:∀a w,∃n,I a w->(∃i,m i=n/\l9 Γ (St i) (g i) a w)/\∀i,l9 Γ (St i) (g i) a w->n<=m i:=by
  intro a w;by_cases s:I a w
  ·obtain⟨i,J⟩:=s;obtain⟨n,⟨j,C,u⟩,H⟩:=exists_least (p:=fun n=>∃i,m i=n/\l9 Γ (St i) (g i) a w) ⟨m i,i,rfl,J⟩;exact⟨n,fun _=>⟨⟨j,C,u⟩,fun k K=>H (m k) ⟨k,rfl,K⟩⟩⟩
  ·exact⟨0,fun h=>absurd h s⟩
 refine wp_loop I (fun a w=>Classical.choose (l a w)) v fun a w s=>?_;obtain⟨⟨i,C,u⟩,_⟩:=Classical.choose_spec (l a w) s;refine wp_mono ((M i).run a w u) fun e F w' ⟨ex,f,d,A,o,b⟩=>?_
 match e,ex,A,o with
 |.normal,.normal,_,o =>
  obtain⟨j,E,L,r⟩:=o;have z:=r.rel (D j) b;refine⟨⟨j,z⟩,?_⟩;have:=(Classical.choose_spec (l F w') ⟨j,z⟩).2 j z;omega
 |.exit x,.exit y,A,o=>exact⟨.exit y,f,d,A,o,b⟩
 |.ret,.ret,_,o=>exact⟨.ret,f,d,trivial,o,b⟩
theorem j4.bG {c:Code} {ts:Ts} {os:Os} {Q:Qt} (t:Nat) {a:AV} (g:lk ts t=some a) (h:bG [a]->j4 P Γ c ts os Q):j4 P Γ c ts os Q:=by
 refine⟨fun x w f=>?_⟩;have e:=f;obtain⟨i,b,_⟩:=e;obtain⟨v,_,d⟩:=b.ts t a g;refine(h ?_).run x w f;cases d with
 |fz d=>exact(o9.cons d .nil).bG
 |_=>trivial
end
end
section
variable {P:Program} {tab:E5} {et:Q8} {Γ:H7}
theorem l9.ghost {ts:Ts} {os need upd:Os} {news:List Nat} {a:Act} {w:World} (ex:Ts) (J:l9 Γ ts os a w) (e:e6 need os) (p:y7 news ts=true) (q:y5 news upd os=true) (f:(news.all fun i=>(lk upd i).isSome)=true)
  (I:∀c,F6 c w need->∃c',aD c w c' w need upd news/\∀t x,lk ex t=some x->∃y,lk ts t=some y/\∀v,Rd c w v y->Rd c' w v x):l9 Γ (ex++ts) (upd++os) a w:=by
 obtain⟨c,⟨D,E,B,l,F⟩,G⟩:=J;have m:=hJ e;have k:∀id∈news,(lk upd id).isSome=true:=fun id h=>by simpa using AD.1 f id h
 obtain⟨c',b,o⟩:=I c (l.sub m);obtain⟨A,C⟩:=Y5 q;refine⟨c',⟨D,E,fun t x d=>?_,l.frame m b k A,F.post l m b k A⟩,fun id r=>?_⟩
 ·rw[x9] at d;cases n:lk ex t with
  |some y =>
   rw[n] at d;simp at d;subst d;obtain⟨z,K,u⟩:=o t y n;obtain⟨v,g,j⟩:=B t z K;exact⟨v,g,u v j⟩
  |none =>
   rw[n] at d;simp at d;obtain⟨v,g,j⟩:=B t x d;exact⟨v,g,j.post b (l.sub m) (hA p t x d)⟩
 ·have s:id ∉ news:=fun H=>by have:=C id H;omega
  have g:=b.ctx id s;have j:=G id r;exact⟨g.1.trans j.1,g.2.trans j.2⟩
def lG {t0 t:Nat} {x y:AV} (h:lk [(t0,x)] t=some y):t=t0/\y=x:=by
 rw[j5] at h;split at h
 ·rename_i e;cases h;exact⟨e.symm,rfl⟩
 ·cases h
theorem l9.bT {ts:Ts} {os:Os} (t id sz e:Nat) (d:lk ts t=some .aC) (k:y7 [id] ts=true) (l:y5 [id] [(id,.row sz [] e)] os=true) {a:Act} {w:World} (u:l9 Γ ts os a w):l9 Γ ((t,.aF id)::ts) ((id,.row sz [] e)::os) a w:=by
 refine l9.ghost (need:=[]) (upd:=[(id,.row sz [] e)]) (news:=[id]) [(t,.aF id)] u trivial k l (by simp[j3]) fun c a8=>⟨c.aB id (.slice none 0 0),?_,fun E x z=>?_⟩
 ·have m:(c.aB id (.slice none 0 0)).hd id=.slice none 0 0:=by simp[Ctx.aB]
  have f:∀b,¬aI (c.aB id (.slice none 0 0)) id (.row sz [] e) b:=fun b p=>by
   have g:((c.aB id (.slice none 0 0)).hd id).ownBlock=some b:=p;rw[m] at g;cases g
  refine⟨rfl,rfl,rfl,AA _,fun _ h=>h,fun _ h=>.inl h,fun _ _ _=>rfl,fun i q=>⟨rfl,by have:i≠id:=(by simpa using q);simp[Ctx.aB,this]⟩,⟨fun i o d=>?_,fun i o b d j=>?_,fun i C o D b s d r j=>?_,a8.aX⟩,fun i o b d j=>?_⟩<;>rw[j5] at d<;>split at d<;>first|(rename_i e1;subst e1;cases d)|cases d
  ·exact⟨[],by rw[m];exact⟨.inl ⟨rfl,rfl⟩,o7,o7⟩,rfl,fun i us B h=>by simp at h⟩
  ·exact absurd j (f b)
  ·exact absurd j (f b)
  ·exact absurd j (f b)
 ·obtain⟨rfl,rfl⟩:=lG z;exact⟨_,d,fun v y=>by rw[y.ah];exact .aF (n:=0) (cap:=0) (A:=none) (by simp[Ctx.aB]) (AA _) (by simp[maxLen])⟩
theorem j4.bT {c:Code} {ts:Ts} {os:Os} {Q:Qt} (t id sz e:Nat) (f:lk ts t=some .aC) (b:y7 [id] ts=true) (d:y5 [id] [(id,.row sz [] e)] os=true) (h:j4 P Γ c ((t,.aF id)::ts) ((id,.row sz [] e)::os) Q):j4 P Γ c ts os Q :=
 ⟨fun a w g=>h.run a w (l9.bT t id sz e f b d g)⟩
theorem j4.freeze {c:Code} {ts:Ts} {os:Os} {Q:Qt} (t id:Nat) {sz e:Nat} {ls:List (List AV)} (d:lk ts t=some (.aF id)) (b:lk os id=some (.row sz ls e)) (h:j4 P Γ c ((t,.sl sz ls)::ts) ((id,.aH)::os) Q):j4 P Γ c ts os Q:=by
 refine⟨fun a w f=>h.run a w (l9.ghost (need:=[(id,.row sz ls e)]) (upd:=[(id,.aH)]) (news:=[]) [(t,.sl sz ls)] f ⟨b,trivial⟩ rfl rfl rfl fun c a8=>⟨c.fz [(id,.row sz ls e)],aD.freeze a8,fun j x i=>?_⟩)⟩;obtain⟨rfl,rfl⟩:=lG i;exact⟨_,d,fun v g=>jZ a8 (j3 _ _ _) g⟩
def entry : Nat->List AV->Ts
 |_,[]=>[]
 |k,a::l=>(k,a)::entry (k+1) l
theorem od : ∀(l:List AV) (k t:Nat) (x:AV),lk (entry k l) t=some x->k<=t/\l[t-k]?=some x
 |[],k,t,x,h=>by cases h
 |a::l,k,t,x,h=>by
  unfold entry at h;rw[j5] at h;split at h
  ·rename_i e;subst e;cases h;exact⟨AA _,o7⟩
  ·obtain⟨d,b⟩:=od l (k+1) t x h;refine⟨d9,?_⟩;rw[show t-k=(t-(k+1))+1 by omega];simpa using b
def ja : List AV->Ts
 |[]=>[]
 |[a]=>[(0,a)]
 |[a,b]=>[(0,a),(1,b)]
 |[a,b,c]=>[(0,a),(1,b),(2,c)]
 |[a,b,c,d]=>[(0,a),(1,b),(2,c),(3,d)]
 |[a,b,c,d,e]=>[(0,a),(1,b),(2,c),(3,d),(4,e)]
 |[a,b,c,d,e,f]=>[(0,a),(1,b),(2,c),(3,d),(4,e),(5,f)]
 |[a,b,c,d,e,f,g]=>[(0,a),(1,b),(2,c),(3,d),(4,e),(5,f),(6,g)]
 |[a,b,c,d,e,f,g,h]=>[(0,a),(1,b),(2,c),(3,d),(4,e),(5,f),(6,g),(7,h)]
 |l=>entry 0 l
def qo (l:List AV):ja l=entry 0 l:=by
 unfold ja;split<;>rfl
def fH (tab:E5) (ts:Ts) (os:Os):List ResultVar->Option (List AV)
 |[]=>some []
 |.tmp t::r=>match lk ts t,fH tab ts os r with
  |some a,some l=>some (a::l)
  |_,_=>none
 |.cell t ty::r=>match lk ts t,lk tab ty,fH tab ts os r with
  |some (.ptr id off),some ti,some l=>match lk os id with
   |some (.box b _)=>match eG ti b off with
    |some a=>some (a::l)
    |none=>none
   |_=>none
  |_,_,_=>none
def lJ : List AV->AV
 |[a]=>a
 |l=>.aS l
theorem kP (o:D5 P tab) {c:Ctx} {w:World} {ts:Ts} {os:Os} {a:Act} (d:ch c w ts a) (a8:F6 c w os):∀(l:List ResultVar) (r:List AV),fH tab ts os l=some r ->
  ∃vs:List Value,(l.mapM (fun x=>match x with
     |ResultVar.tmp t=>pure (a.tmps.getD t undef)
     |ResultVar.cell D t=>do loadVar t (<-asAddr (a.tmps.getD D undef)):ResultVar->Sem Value)).run P w=.ok vs w/\l6 c w vs r
 |[],r,h=>by cases h;exact⟨[],o7,.nil⟩
 |.tmp t::l,r,h=>by
  unfold fH at h;split at h
  ·rename_i x C B f;cases h;obtain⟨vs,i,k⟩:=kP o d a8 l C f;obtain⟨v,g,m⟩:=d t x B;refine⟨v::vs,?_,.cons m k⟩;have q:a.tmps.getD t undef=v:=by simp[Array.getD_eq_getD_getElem?,g]
   rw[List.mapM_cons];simp only[Sem.run_bind,Sem.run_pure,Result.andThen_ok,i,q]
  ·cases h
 |.cell t ty::l,r,h=>by
  unfold fH at h;split at h
  ·rename_i id off ti C B A f;split at h
   ·rename_i J e s;split at h
    ·rename_i x z;cases h;obtain⟨vs,i,k⟩:=kP o d a8 l C f;obtain⟨v,g,m⟩:=d t _ B;obtain⟨us,E,F⟩:=a8.rep id _ s;obtain⟨y,n,G⟩:=fw (b:=c.μ id) (p:=0) (o ty ti A) z F (fun j u I=>by
      unfold World.cell?;simp only[Nat.zero_add,E];simpa using I)
     rw[Nat.zero_add] at n;refine⟨y::vs,?_,.cons G k⟩;rw[m.bK] at g;simp only[Instr.loadAt,Instr.sureAddr,pure_bind] at n;have q:a.tmps.getD t undef=.pointer (some ⟨c.μ id,off,none⟩):=by simp[Array.getD_eq_getD_getElem?,g]
     rw[List.mapM_cons];have H:∀x:Addr,asAddr (.pointer (some x))=pure x:=fun _=>rfl;simp only[Sem.run_bind,Sem.run_pure,Result.andThen_ok,q,H,n,i]
    ·cases h
   ·cases h
  ·cases h
def jw : List Value->Value
 |[v]=>v
 |l=>.tuple l.toArray
def u5 {c:Ctx} {w:World}:∀{vs:List Value} {r:List AV},l6 c w vs r->Rd c w (jw vs) (lJ r)
 |_,_,.nil=>.aS .nil
 |_,_,.cons h .nil=>h
 |_,_,.cons h (.cons k t)=>.aS (.cons h (.cons k t))
def sS {fn:Func} {tmps:Array Value} {w:World} {vs:List Value} (h:(fn.results.toList.mapM (fun x=>match x with
     |ResultVar.tmp t=>pure (tmps.getD t undef)
     |ResultVar.cell b t=>do loadVar t (<-asAddr (tmps.getD b undef)):ResultVar->Sem Value)).run P w=.ok vs w):(results fn tmps).run P w=.ok (jw vs) w:=by
 unfold results;rw[Array.mapM_eq_mapM_toList];simp only[Sem.run_bind,Sem.run_map,Sem.run_pure];refine Eq.trans (congrArg (fun r:Result (List Value)=>(r.andThen fun a w'=>Result.ok a.toArray w').andThen fun a w'=>Result.ok (if h:a.size=1 then a[0] else Value.tuple a) w') h) ?_;simp only[Result.andThen_ok];congr 1;cases vs with
 |nil=>rfl
 |cons v vs=>cases vs with
  |nil=>rfl
  |cons u vs=>rfl
structure Fin (tab:E5) (rs:List ResultVar) (ts:Ts) (os:Os) (av:AV) (upd:Os) (news:List Nat) (rl:List (Nat×Nat)) (r:List AV):Prop where
 res:fH tab ts os rs=some r
 out:gm (lJ r) (av.ar (rn rl))
 obj:gV (rn rl) os upd
 inj:iZ (rn rl) upd=true
 top:k6 rl=true
 mem:(upd.all fun p=>news.elem p.1 || AE Go.Proofs.YtibjcppjfkamhaaDoor.top p.1)=true
 ids:(av.ids.all fun i=>(lk upd i).isSome || AE Go.Proofs.YtibjcppjfkamhaaDoor.top i)=true
 iz:(upd.all fun p=>p.2.ids.all fun i=>(lk upd i).isSome || AE Go.Proofs.YtibjcppjfkamhaaDoor.top i)=true
def mP (tab:E5) (b:List ResultVar) (av:AV) (upd:Os) (news:List Nat):Qt:=fun e ts os =>
 match e with
 |.exit _=>False
 |.normal=>∃a r,Fin tab b ts os av upd news a r
 |.ret=>∃a r,Fin tab b ts os av upd news a r
theorem Spec.of (hT:D5 P tab) {f n:Nat} {fn:Func} {c:Code} (E:P.funcs[f]?=some fn) (D:fn.body=some c) (hn:fn.ntmps=n) (hc:ax P f=true) {need upd:Os} {ins:List AV} {av:AV} {news:List Nat}
  (g:AE ins.length n=true) (G:(need.all fun p=>AE top p.1 && (lk upd p.1).isSome)=true) (H:(news.all fun i=>(lk upd i).isSome)=true)
  (h:∀Γ:H7,Γ.n=n->j4 P Γ c (ja ins) need (mP tab fn.results.toList av upd news)):Spec P f need ins av upd news:=by
 refine⟨hc,fun id F=>by simpa using AD.1 H id F,fun J w args a8 m=>calls_of_wp E D ?_⟩;have hsz:args.size=ins.length:=by simpa using m.length
 have hle:=AP g;let Γ:H7:=⟨J,w,need,n⟩;have A:l9 Γ (entry 0 ins) need { tmps:=args++Array.replicate (fn.ntmps-args.size) undef,defers:=[] } w:=by
  refine⟨J,⟨rfl,?_,fun t x C=>?_,a8,⟨rfl,rfl,rfl,AA _,fun _ h=>h,fun _ h=>.inl h,fun _ _=>rfl,fun id o b V L=>.inr ⟨id,o,V,L⟩⟩⟩,fun _ _=>⟨rfl,rfl⟩⟩
  ·show(args++Array.replicate (fn.ntmps-args.size) undef).size=n;rw[Array.size_append,Array.size_replicate,hn];omega
  ·obtain⟨_,L⟩:=od ins 0 t x C;rw[Nat.sub_zero] at L;obtain⟨v,W,N⟩:=m.get L;refine⟨v,?_,N⟩;have M:args[t]?=some v:=by simpa using W
   have Y:t<args.size:=(Array.getElem?_eq_some_iff.1 M).1;show(args++Array.replicate (fn.ntmps-args.size) undef)[t]?=some v;rw[Array.getElem?_append_left Y,M]
 rw[<-qo] at A;refine wp_mono ((h Γ rfl).run _ w A) fun e a' w' ⟨ex,ts',os',hm,S,I⟩=>?_;have K:(∃u r,Fin tab fn.results.toList ts' os' av upd news u r)->a'.defers=[]/\∃v,(results fn a'.tmps).run P w'=.ok v w'/\∃U c',Ending.returned v=.returned U/\aD J w c' w' need upd news/\Rd c' w' U av:=by
  rintro⟨u,r,a⟩;obtain⟨y,⟨V,L,W,N,z⟩,h6⟩:=I;obtain⟨vs,g1,g2⟩:=kP hT W N fn.results.toList r a.res;have hso:=jR a.obj;have hu:=N.aW a.obj a.inj;have O:∀id o,lk upd id=some o->id∈news\/top<=id:=fun id o g=>by
   have:=AD.1 a.mem _ (J2 g);simp only[Bool.or_eq_true] at this;exact this.imp (fun h=>by simpa using h) fun h=>AP h
  let c':Ctx:={ Φ:=y.Φ,μ:=fun i=>if(lk upd i).isSome then y.μ (rn u i) else J.μ i,hd:=fun i=>if(lk upd i).isSome then y.hd (rn u i) else J.hd i };have s:∀i,(lk upd i).isSome=true->c'.μ i=(y.b9 (rn u)).μ i/\c'.hd i=(y.b9 (rn u)).hd i:=fun i hi=>by simp[c',Ctx.b9,hi]
  have d:∀b,Γ.aF b->w.heap.size<=b\/Touch J need upd b:=fun b D=>D.imp (fun h=>h) fun⟨id,o,q1,q2⟩=>⟨id,o,q1,by
   have:=AD.1 G _ (J2 q1);simp only[A7] at this;exact this.2,q2⟩
  have k:∀l:List Nat,(l.all fun i=>(lk upd i).isSome || AE Go.Proofs.YtibjcppjfkamhaaDoor.top i)=true->∀x∈l,c'.μ x=(y.b9 (rn u)).μ x/\c'.hd x=(y.b9 (rn u)).hd x:=fun l g x C=>by
   by_cases B:(lk upd x).isSome=true
   ·exact s x B
   ·have:=AD.1 g x C;simp only[Bool.or_eq_true] at this;have ht:=AP (this.resolve_left B);have h7:=h6 x ht;simp only[c',Ae B,Ctx.b9,jY a.top ht];exact⟨h7.1.symm,h7.2.symm⟩
  have j:∀id o b,lk upd id=some o->(aI c' id o b↔aI (y.b9 (rn u)) id o b):=fun id o b g=>iB (s id (by rw[g];rfl)) (k _ (AD.1 a.iz _ (J2 g)));refine⟨V,jw vs,?_,jw vs,c',rfl,⟨z.bO,z.tape,z.output,z.size,z.aX,fun b D=>?_,fun b D hnt=>z.aK b fun ho=>?_,fun id F=>?_,⟨fun id o g=>?_,fun id o b g E=>?_,fun id T o o' b Z g Q E X=>?_,N.aX⟩,fun id o b g E=>?_⟩,?_⟩
  ·exact sS g1
  ·exact(z.aV b D).imp (fun h=>h) (d b)
  ·rcases d b ho with h|h
   ·exact absurd D (Nat.not_lt.2 h)
   ·exact hnt h
  ·by_cases B:(lk upd id).isSome=true
   ·obtain⟨o,ho⟩:=Option.isSome_iff_exists.1 B;rcases O id o ho with C|C
    ·exact absurd C F
    ·have:=h6 id C;rw[(s id B).1,(s id B).2];simpa[Ctx.b9,jY a.top C] using this
   ·simp[c',B]
  ·exact(hu.rep id o g).aK (s id (by rw[g];rfl)) (fun _ _=>rfl) (fun _ h=>h) (fun _ _=>rfl) (k _ (AD.1 a.iz _ (J2 g)))
  ·exact hu.lt id o b g ((j id o b g).1 E)
  ·exact hu.sep id T o o' b Z g Q ((j id o b g).1 E) ((j T o' b Q).1 X)
  ·exact d b (z.ab _ _ b (hso id o g) (U1.1 ((j id o b g).1 E)))
  ·have q:=(mF a.out (u5 g2)).aW;exact Rd.mono (c:=y.b9 (rn u)) (c':=c') (fun _ _=>rfl) (fun _ h=>h) (k _ a.ids) q
 match e,ex,hm,S with
 |.normal,.normal,_,S=>exact K S
 |.ret,.ret,_,S=>exact K S
end
def waits (o:Oper) (i:Nat):Bool:=o.after.toList.any fun e=>Region.binds .any e && A4 e.on i
def gL (ops:List Oper):Nat->Oper->Nat->Bool
 |0,o,i=>waits o i
 |n+1,o,i=>waits o i || o.after.toList.any fun e=>Region.binds .any e && (match ops[e.on]? with
  |some m=>gL ops n m i
  |none=>false)
def J5 (ops:List Oper) (o:Oper) (i:Nat):Bool:=gL ops 12 o i
def oQ {o:Oper} {e:_} (b:e∈o.after.toList) (a:Region.binds .any e=true):waits o e.on=true:=by
 unfold waits;exact List.any_eq_true.2 ⟨e,b,by simp[a]⟩
def oB {ops:List Oper} {o:Oper} {i:Nat} (h:waits o i=true):J5 ops o i=true:=by unfold J5 gL;rw[h];rfl
def al (ops:List Oper) (o:Oper):List Nat :=
 (o.op.operands.toList.filterMap fun|.tmp t=>some t|_=>none) ++
 (match o.guard with
  |some (g,_)=>match ops[g]? with
   |some x=>x.dst.toList
   |none=>[]
  |none=>[])
def ba (ops:List Oper) (x y:Oper):Bool :=
 (match x.dst with
  |some d=>(al ops y).elem d || (y.dst == some d)
  |none=>false) ||
 (match y.dst with
  |some d=>(al ops x).elem d
  |none=>false)
def O6 (ops:List Oper):Bool :=
 (ops.zipIdx.all fun(o,k)=>o.after.toList.all fun e=>!Region.binds .any e || AH e.on k) &&
 (ops.zipIdx.all fun(y,k)=>ops.zipIdx.all fun(x,i)=>!Nat.blt i k || !ba ops x y || waits y i) &&
 (ops.all fun o=>match o.op with|.select _ _=>false|_=>true)
structure X3 (ops:List Oper) (σ:List Nat):Prop where
 nodup:σ.Nodup
 lt:∀i∈σ,i<ops.length
 wait:∀pre j post,σ=pre++j::post->∀o,ops[j]?=some o->∀i,waits o i=true->i∈post
theorem X3.cons {ops:List Oper} {d:List Nat} {k:Nat} {o:Oper} (h:X3 ops d) (f:ops[k]?=some o) (g:k ∉ d) (l:∀i,waits o i=true->i∈d):X3 ops (k::d):=by
 refine⟨List.nodup_cons.2 ⟨g,h.nodup⟩,fun i a=>?_,fun pre j post b x e i a=>?_⟩
 ·rcases AF.1 a with rfl|a
  ·exact(AB.1 f).1
  ·exact h.lt i a
 ·cases pre with
  |nil =>
   simp at b;obtain⟨rfl,rfl⟩:=b;rw[f] at e;cases e;exact l i a
  |cons p pre =>
   simp at b;exact h.wait pre j post b.2 x e i a
theorem X3.dm {ops:List Oper} {k:List Nat} (h:X3 ops k):∀(n:Nat) {pre post:List Nat} {j:Nat} (b:k=pre++j::post) {o:Oper} (d:ops[j]?=some o) {i:Nat} (a:gL ops n o i=true),i∈post
 |0,pre,post,j,b,o,d,i,a=>h.wait pre j post b o d i a
 |n+1,pre,post,j,b,o,d,i,a=>by
  unfold gL at a;rw[Bool.or_eq_true] at a;rcases a with a|a
  ·exact h.wait pre j post b o d i a
  ·obtain⟨e,q,a⟩:=List.any_eq_true.1 a;simp only[A7] at a;obtain⟨l,a⟩:=a;have p:=h.wait pre j post b o d e.on (oQ q l);obtain⟨r,s,g⟩:=List.append_of_mem p;split at a
   ·rename_i m f;have:=h.dm n (pre:=pre++j::r) (post:=s) (by rw[b,g];simp) f a;rw[g];simp[this]
   ·cases a
theorem X3.cM {ops:List Oper} {a:List Nat} (h:X3 ops a) {pre post:List Nat} {j:Nat} (b:a=pre++j::post) {o:Oper} (d:ops[j]?=some o) {i:Nat} (e:J5 ops o i=true):i∈post :=
 h.dm _ b d e
theorem X3.pg {ops:List Oper} {f:List Nat} (h:X3 ops f) {o:Oper} (j:∀i,waits o i=true->i∈f) {i:Nat} (a:J5 ops o i=true):i∈f:=by
 unfold J5 gL at a;rw[Bool.or_eq_true] at a;rcases a with a|a
 ·exact j i a
 ·obtain⟨e,k,a⟩:=List.any_eq_true.1 a;simp only[A7] at a;obtain⟨l,n,g⟩:=List.append_of_mem (j e.on (oQ k a.1));have b:=a.2;split at b
  ·rename_i m d;have:=h.dm _ g d b;rw[g];simp[this]
  ·cases b
def down : Nat->List Nat
 |0=>[]
 |k+1=>k::down k
def kJ {k i:Nat}:i∈down k↔i<k:=by
 induction k with
 |zero=>simp[down]
 |succ k ih=>simp only[down,AF,ih];omega
theorem lD {ops:List Oper} (h:O6 ops=true):∀k,k<=ops.length->X3 ops (down k)
 |0,_=>⟨by simp[down],by simp[down],fun pre j post d=>by simp[down] at d⟩
 |k+1,m=>by
  have ih:=lD h k d9;have l:ops[k]?=some ops[k]:=A8 d9;refine ih.cons l (by rw[kJ];omega) fun i g=>?_;rw[kJ];unfold O6 at h;simp only[A7] at h;have f:=AD.1 h.1.1 (ops[k],k) (by rw[List.mem_zipIdx_iff_getElem?];exact l);simp only[AD] at f;unfold waits at g;obtain⟨e,d,b⟩:=List.any_eq_true.1 g;simp only[A7] at b;have a:=f e d;rw[b.1] at a;simp only[AQ,Bool.false_or] at a;have:=AP a;have:=A9 b.2;omega
theorem X3.first {ops:List Oper} {p:List Nat} (h:X3 ops p) (W:Nat->Bool) {k:Nat} (D:∀i,i<k->W i=true->i∈p) (A:∀i∈p,W i=true->i<k)
  (E:∀i j o,i<j->j<k->W i=true->W j=true->ops[j]?=some o->J5 ops o i=true):p.find? W=(down k).find? W:=by
 have d:∀k,(down k).find? W=none\/∃j,(down k).find? W=some j/\j<k/\W j=true/\∀i,i<k->W i=true->i<=j:=by
  intro k
  induction k with
  |zero=>exact .inl rfl
  |succ k ih =>
   simp only[down,List.find?_cons];by_cases b:W k=true
   ·rw[b];exact .inr ⟨k,rfl,d9,b,fun i q _=>d9⟩
   ·simp only[b];rcases ih with ih|⟨j,x,y,n,z⟩
    ·exact .inl ih
    ·refine .inr ⟨j,x,d9,n,fun i q l=>?_⟩;rcases Nat.lt_or_eq_of_le (Nat.le_of_lt_succ q) with h|h
     ·exact z i h l
     ·subst h;exact absurd l b
 rcases d k with C|⟨j,x,y,n,z⟩
 ·rw[C,List.find?_eq_none];intro i q b;have r:=A i q b;have:=List.find?_eq_none.1 C i (kJ.2 r);exact this b
 ·rw[x];have B:=D j y n;obtain⟨pre,post,e⟩:=List.append_of_mem B;rw[e,List.find?_append];have g:pre.find? W=none:=by
   rw[List.find?_eq_none];intro m s b;have v:m∈p:=by rw[e];simp[s]
   have t:=A m v b;have F:=z m t b;have G:m≠j:=by
    rintro rfl;have a:=h.nodup;rw[e] at a;have:=(List.nodup_append.1 a).2.2 m s m o7;exact this rfl
   have f:ops[j]?=some (ops[j]'(h.lt j B)):=A8 _;have u:=h.cM e f (E m j _ d9 y b n f);have a:=h.nodup;rw[e] at a;exact(List.nodup_append.1 a).2.2 m s m (by simp[u]) rfl
  rw[g];simp[n]
structure L6 where
 av:AV
 need:Os
 upd:Os
 news:List Nat
 deriving Inhabited
section
variable (ops:List Oper) (R:Nat->L6) (ts0:Ts) (os0:Os)
def p9 : List Nat->Ts
 |[]=>ts0
 |k::σ=>match (ops[k]?).bind (·.dst) with
  |some d=>(d,(R k).av)::p9 σ
  |none=>p9 σ
def D9 : List Nat->Os
 |[]=>os0
 |k::σ=>(R k).upd++D9 σ
def cc (t:Nat) (k:Nat):Bool:=(ops[k]?).bind (·.dst) == some t
def eD (id:Nat) (k:Nat):Bool:=(lk (R k).upd id).isSome
theorem fR (t:Nat):∀a:List Nat,lk (p9 ops R ts0 a) t=match a.find? (cc ops t) with
  |some k=>some (R k).av
  |none=>lk ts0 t
 |[]=>rfl
 |k::a=>by
  rw[List.find?_cons];unfold p9;cases hd:(ops[k]?).bind (·.dst) with
  |none =>
   have:cc ops t k=false:=by unfold cc;rw[hd];rfl
   rw[this];exact fR t a
  |some d =>
   simp only;rw[j5];by_cases h:d=t
   ·subst h;have:cc ops d k=true:=by unfold cc;rw[hd];simp
    rw[this,Af rfl]
   ·have:cc ops t k=false:=by unfold cc;rw[hd];simpa using h
    rw[this,Ae h];exact fR t a
theorem ec (id:Nat):∀a:List Nat,lk (D9 R os0 a) id=match a.find? (eD R id) with
  |some k=>lk (R k).upd id
  |none=>lk os0 id
 |[]=>rfl
 |k::a=>by
  rw[List.find?_cons];unfold D9;rw[x9];cases b:lk (R k).upd id with
  |none =>
   have:eD R id k=false:=by unfold eD;rw[b];rfl
   rw[this];simpa using ec id a
  |some x =>
   have:eD R id k=true:=by unfold eD;rw[b];rfl
   rw[this];simp[b]
end
theorem ow : ∀(n:Nat) (l:List Nat),l.Nodup->(∀i∈l,i<n)->l.length<=n
 |0,l,_,h=>by
  cases l with
  |nil=>simp
  |cons a l=>exact absurd (h a o7) d9
 |n+1,l,d,h=>by
  have ih:=ow n (l.erase n) (d.erase n) fun i b=>by
   have f:=h i (List.mem_of_mem_erase b);have g:i≠n:=fun e=>by
    subst e;exact(d.not_mem_erase b).elim
   omega
  have:l.length<=(l.erase n).length+1:=by
   rw[List.length_erase];split<;>omega
  omega
def mentions (r:L6):List Nat:=r.av.ids++r.upd.flatMap fun p=>p.2.ids
def keys (os:Os):List Nat:=os.map (·.1)
def R4 {os:Os} {id:Nat} (h:(lk os id).isSome=true):id∈keys os:=by
 obtain⟨o,a⟩:=Option.isSome_iff_exists.1 h;exact AI.2 ⟨_,J2 a,rfl⟩
structure Comm (a b:L6):Prop where
 wr:∀id∈keys a.upd,id ∉ keys b.need
 ww:∀id∈keys a.upd,id ∉ keys b.upd
 nm:∀id∈a.news,id ∉ mentions b
def Rw (a b:L6):Prop:=∀id∈keys b.upd,id ∉ keys a.need
def O0 (ops:List Oper) (o:Oper) (ts:Ts) (b:Bool):Prop :=
 match o.guard with
 |none=>b=true
 |some (j,a)=>(gN ops ts j=true/\b=false)\/∃x,gG ops ts j=some x/\(x == a)=b
structure pP (P:Program) (Γ:H7) (ops:List Oper) (o:Oper) (ts:Ts) (os:Os) (r:L6):Prop where
 guard:O0 ops o ts true
 mr:gy P o (X5 ts) r.av r.need r.upd r.news
 need:∀id ob,lk r.need id=some ob->lk os id=some ob
 news:∀id∈r.news,(lk r.upd id).isSome=true
 mj:y7 r.news ts=true
 gl:y5 r.news r.upd os=true
structure nd (ops:List Oper) (o:Oper) (ts:Ts) (r:L6):Prop where
 guard:O0 ops o ts false
 eq:r=⟨.aS [],[],[],[]⟩
theorem O0.run {c:Ctx} {w:World} {ops:List Oper} {o:Oper} {ts:Ts} {a:Act} {b:Bool} (h:ch c w ts a) (e:O0 ops o ts b):Region.wanted o (yielded ops.toArray a.tmps)=b:=by
 unfold O0 at e;unfold Region.wanted;split at e
 ·rename_i g;rw[g,e]
 ·rename_i j d g;rw[g];rcases e with⟨f,rfl⟩|⟨x,f,i⟩
  ·have:=kl h f;simp only[this];rfl
  have:=kk h f;simp only[this];rw[<-i];cases x<;>cases d<;>rfl
structure en (P:Program) (ops:List Oper) (R:Nat->L6) (ts0:Ts) (os0:Os) (i k:Nat):Prop where
 upd:(R i).upd=[]
 news:(R i).news=[]
 pj:∀j,i<j->j<k->∀id∈keys (R j).upd,id ∉ keys (R i).need
 mr:∃o need',ops[i]?=some o/\gy P o (X5 (p9 ops R ts0 (down i))) (R i).av need' [] []/\(∀id ob,lk need' id=some ob->lk (D9 R os0 (down (k+1))) id=some ob)/\∀id∈keys need',id∈keys (R i).need
section
variable {P:Program} {Γ:H7} {ops:List Oper} {R:Nat->L6} {ts0:Ts} {os0:Os}
structure Lex (P:Program) (Γ:H7) (ops:List Oper) (R:Nat->L6) (ts0:Ts) (os0:Os) (n:Nat):Prop where
 ew:∀k o,k<n->ops[k]?=some o->pP P Γ ops o (p9 ops R ts0 (down k)) (D9 R os0 (down k)) (R k)\/nd ops o (p9 ops R ts0 (down k)) (R k)
 dst:∀k o,k<n->ops[k]?=some o->cd Γ.n o.dst=true
 comm:∀i k o,i<k->k<n->ops[k]?=some o->J5 ops o i=false->Comm (R i) (R k)/\(Rw (R i) (R k)\/en P ops R ts0 os0 i k)
def jK (hd:O6 ops=true) {i k:Nat} {x y:Oper} (f:ops[i]?=some x) (g:ops[k]?=some y) (b:i<k) (e:ba ops x y=true):waits y i=true:=by
 unfold O6 at hd;simp only[A7] at hd;have d:=AD.1 hd.1.2 (y,k) (by rw[List.mem_zipIdx_iff_getElem?];exact g);have a:=AD.1 d (x,i) (by rw[List.mem_zipIdx_iff_getElem?];exact f);simp only[e,AQ,Bool.or_false,Bool.or_eq_true,Bool.not_eq_true'] at a;rcases a with a|a
 ·have:AH i k=true:=Nat.ble_eq_true_of_le b;rw[this] at a;cases a
 ·exact a
def nu (hd:O6 ops=true) {m:List Nat} (l:X3 ops m) {k:Nat} {o:Oper} (A:ops[k]?=some o) (v:k ∉ m) (F:∀i,waits o i=true->i∈m) {t:Nat} (B:t∈al ops o) :
  lk (p9 ops R ts0 m) t=lk (p9 ops R ts0 (down k)) t:=by
 have f:∀i,cc ops t i=true->∃x,ops[i]?=some x/\x.dst=some t:=fun i b=>by
  unfold cc at b;cases d:ops[i]? with
  |none=>rw[d] at b;simp at b
  |some x=>rw[d] at b;exact⟨x,rfl,by simpa using b⟩
 have D:=l.first (cc ops t) (k:=k) (fun i b a=>by
   obtain⟨x,d,g⟩:=f i a;exact F i (jK hd d A b (by unfold ba;rw[g];simp[B]))) (fun i b a=>by
   obtain⟨x,d,g⟩:=f i a;rcases Nat.lt_or_ge i k with h|h
   ·exact h
   ·have E:i≠k:=fun e=>v (e▸b);have q:=jK hd A d d9 (by
     unfold ba;rw[g];cases o.dst<;>simp[B])
    obtain⟨pre,post,u⟩:=List.append_of_mem b;have:=l.wait pre i post u x d k q;exact absurd (by rw[u];simp[this]) v) (fun i j x n H a p d=>by
   obtain⟨y,G,r⟩:=f i a;obtain⟨z,C,s⟩:=f j p;rw[d] at C;cases C;exact oB (jK hd G d n (by unfold ba;rw[r,s];simp)))
 rw[fR,fR,D]
def qx {n:Nat} (u:Lex P Γ ops R ts0 os0 ops.length) {l:List Nat} (d:X3 ops l) {k:Nat} {o:Oper} (z:ops[k]?=some o) (y:k ∉ l) (C:∀i,waits o i=true->i∈l) {id:Nat} (g:id∈keys (R k).need) (r:∀j∈l,k<j->Rw (R k) (R j)) :
  lk (D9 R os0 l) id=lk (D9 R os0 (down k)) id:=by
 have q:k<ops.length:=(AB.1 z).1;have A:=d.first (eD R id) (k:=k) (fun i f b=>by
   cases a:J5 ops o i with
   |true=>exact d.pg C a
   |false=>exact absurd g ((u.comm i k o f q z a).1.wr id (R4 b))) (fun i f b=>by
   rcases Nat.lt_or_ge i k with h|h
   ·exact h
   ·have B:i≠k:=fun e=>y (e▸f);have p:=d.lt i f;have t:ops[i]?=some ops[i]:=A8 p;cases a:J5 ops ops[i] k with
    |true =>
     obtain⟨pre,post,v⟩:=List.append_of_mem f;have:=d.cM v t a;exact absurd (by rw[v];simp[this]) y
    |false=>exact absurd g (r i f d9 id (R4 b))) (fun i j x m D b s t=>by
   cases a:J5 ops x i with
   |true=>rfl
   |false=>exact absurd (R4 s) ((u.comm i j x m d9 t a).1.ww id (R4 b)))
 rw[ec,ec,A]
def rM (p:Lex P Γ ops R ts0 os0 ops.length) {g:List Nat} (e:X3 ops g) {k:Nat} {o:Oper} (A:ops[k]?=some o) (D:k ∉ g) (F:∀i,waits o i=true->i∈g) {m:Nat} (z:m∈g) (t:k<m) (hS:en P ops R ts0 os0 k m) (B:¬Rw (R k) (R m)) {id:Nat} (d:id∈keys (R k).need) :
  lk (D9 R os0 g) id=lk (D9 R os0 (down (m+1))) id:=by
 have s:k<ops.length:=(AB.1 A).1;have E:=e.lt m z;have C:=e.first (eD R id) (k:=m+1) (fun i q a=>by
   rcases Nat.lt_trichotomy i k with h|h|h
   ·cases b:J5 ops o i with
    |true=>exact e.pg F b
    |false=>exact absurd d ((p.comm i k o h s A b).1.wr id (R4 a))
   ·subst h;unfold eD at a;rw[hS.upd] at a;cases a
   ·rcases Nat.lt_or_ge i m with v|v
    ·exact absurd d (hS.pj i h v id (R4 a))
    ·have:i=m:=d9;subst this;exact z) (fun i q a=>by
   rcases Nat.lt_or_ge i (m+1) with h|h
   ·exact h
   ·have f:=e.lt i q;have l:ops[i]?=some ops[i]:=A8 f;cases b:J5 ops ops[i] k with
    |true =>
     obtain⟨pre,post,y⟩:=List.append_of_mem q;have:=e.cM y l b;exact absurd (by rw[y];simp[this]) D
    |false =>
     rcases(p.comm k i _ d9 f l b).2 with n|n
     ·exact absurd d (n id (R4 a))
     ·exact absurd (fun id d=>n.pj m t d9 id d) B) (fun i j x r G a u l=>by
   cases b:J5 ops x i with
   |true=>rfl
   |false=>exact absurd (R4 u) ((p.comm i j x r d9 l b).1.ww id (R4 a)))
 rw[ec,ec,C]
def rC (hd:O6 ops=true) (u:Lex P Γ ops R ts0 os0 ops.length) {m:List Nat} (b:X3 ops m) (d:∀i,i<ops.length->i∈m) :
  (∀t,lk (p9 ops R ts0 m) t=lk (p9 ops R ts0 (down ops.length)) t)/\∀id,lk (D9 R os0 m) id=lk (D9 R os0 (down ops.length)) id:=by
 refine⟨fun t=>?_,fun id=>?_⟩
 ·have l:∀i,cc ops t i=true->∃x,ops[i]?=some x/\x.dst=some t:=fun i a=>by
   unfold cc at a;cases h:ops[i]? with
   |none=>rw[h] at a;simp at a
   |some x=>rw[h] at a;exact⟨x,rfl,by simpa using a⟩
  have n:=b.first (cc ops t) (k:=ops.length) (fun i a _=>d i a) (fun i a _=>b.lt i a) (fun i j x e r f g h=>by
   obtain⟨y,v,p⟩:=l i f;obtain⟨z,s,q⟩:=l j g;rw[h] at s;cases s;exact oB (jK hd v h e (by unfold ba;rw[p,q];simp)))
  rw[fR,fR,n]
 ·have n:=b.first (eD R id) (k:=ops.length) (fun i a _=>d i a) (fun i a _=>b.lt i a) (fun i j x e r f g h=>by
   cases o:J5 ops x i with
   |true=>rfl
   |false=>exact absurd (R4 g) ((u.comm i j x e r h o).1.ww id (R4 f)))
  rw[ec,ec,n]
theorem l9.congr {ts g:Ts} {os f:Os} {a:Act} {w:World} (h:l9 Γ ts os a w) (q:∀t,lk g t=lk ts t) (i:∀id,lk f id=lk os id):l9 Γ g f a w:=by
 obtain⟨c,⟨j,k,l,m,d⟩,n⟩:=h;exact⟨c,⟨j,k,fun t x e=>l t x (by rw[<-q];exact e),m.sub fun id o e=>by rw[<-i];exact e,⟨d.bO,d.tape,d.output,d.size,d.aX,d.aV,d.aK,fun id o b e p=>d.ab id o b (by rw[<-i];exact e) p⟩⟩,n⟩
end
structure V where
 k:Int
 n:Int
 deriving DecidableEq,Inhabited
structure St where
 cls:Int
 name:ByteArray
 pos:Int
 deriving DecidableEq,Inhabited
structure Ins where
 op:Int
 a:Int
 b:Int
 c:Int
 name:ByteArray
 deriving DecidableEq,Inhabited
structure Me where
 name:ByteArray
 args:Int
 aO:Int
 aQ:Int
 code:List Ins
 deriving DecidableEq,Inhabited
structure Cl where
 name:ByteArray
 aJ:Int
 aE:Int
 aA:List Me
 deriving DecidableEq,Inhabited
structure Ob where
 cls:Int
 aE:List V
 deriving DecidableEq,Inhabited
structure Wd where
 a7:List Cl
 heap:List Ob
 aR:Int
 deriving DecidableEq,Inhabited
def Z0 (n:Int):List AV:=[.int n]
def gb (s:ByteArray):List AV:=[.str s]
def eV (v:V):List AV:=[.int v.k,.int v.n]
def fG (i:Ins):List AV:=[.int i.op,.int i.a,.int i.b,.int i.c,.str i.name]
def S9 (m:Me):List AV:=[.str m.name,.int m.args,.int m.aO,.int m.aQ,.sl 5 (m.code.map fG)]
def fe (c:Cl):List AV:=[.str c.name,.int c.aJ,.int c.aE,.sl 5 (c.aA.map S9)]
def im (o:Ob):List AV:=[.int o.cls,.sl 2 (o.aE.map eV)]
def cW (w:Wd):List AV:=[.sl 4 (w.a7.map fe),.sl 2 (w.heap.map im),.int w.aR]
section
variable {P:Program} {Γ:H7} {ops:List Oper} {R:Nat->L6} {ts0:Ts} {os0:Os}
def qm {o:Oper} {i:Nat}:waits o i=true↔∃e∈o.after,Region.binds .any e=true/\e.on=i:=by
 unfold waits;rw[List.any_eq_true];constructor
 ·rintro⟨e,b,a⟩;simp only[A7] at a;exact⟨e,by simpa using b,a.1,A9 a.2⟩
 ·rintro⟨e,b,a,rfl⟩;exact⟨e,by simpa using b,by simp[a]⟩
def nO (hd:O6 ops=true) {g:List Nat} (m:X3 ops g) {k:Nat} {o:Oper} (r:ops[k]?=some o) (q:k ∉ g) (u:∀i,waits o i=true->i∈g) {b:Bool} (h:O0 ops o (p9 ops R ts0 (down k)) b):O0 ops o (p9 ops R ts0 g) b:=by
 have e:∀t∈al ops o,lk (p9 ops R ts0 g) t=lk (p9 ops R ts0 (down k)) t:=fun t s=>nu hd m r q u s;unfold O0 at h⊢;split at h
 ·exact h
 ·rename_i j p n;rcases h with⟨c,l⟩|⟨x,c,l⟩
  ·refine .inl ⟨?_,l⟩;unfold gN at c⊢;cases f:ops[j]? with
   |none=>rw[f] at c;cases c
   |some y =>
    rw[f] at c;simp only at c⊢;cases a:y.dst with
    |none=>rw[a] at c;cases c
    |some d =>
     rw[a] at c;simp only at c⊢;rw[e d (by unfold al;rw[n];simp[f,a])];exact c
  refine .inr ⟨x,?_,l⟩;unfold gG at c⊢;cases f:ops[j]? with
  |none=>rw[f] at c;cases c
  |some y =>
   rw[f] at c;simp only at c⊢;cases a:y.dst with
   |none=>rw[a] at c;cases c
   |some d =>
    rw[a] at c;simp only at c⊢;rw[e d (by unfold al;rw[n];simp[f,a])];exact c
def sj (hd:O6 ops=true) (X:Lex P Γ ops R ts0 os0 ops.length) {q:List Nat} (l:X3 ops q) {k:Nat} {o:Oper} (B:ops[k]?=some o) (L:k ∉ q) (hw:∀i,waits o i=true->i∈q) {a:Act} {w:World}
  (hr:l9 Γ (p9 ops R ts0 q) (D9 R os0 q) a w) {K:Act->World->Prop} {Q:Exit->Act->World->Prop} (hK:∀a' w',l9 Γ (p9 ops R ts0 (k::q)) (D9 R os0 (k::q)) a' w'->K a' w'):wpOp P ops.toArray Q k K a w:=by
 have hkl:k<ops.length:=(AB.1 B).1;have J:=X.dst k o hkl B;obtain⟨c,b⟩:=hr;have G:=b.rel.ts;unfold wpOp;have ho':ops.toArray[k]?=some o:=by simpa using B
 simp only[ho'];have ets:∀v,l9 Γ (T9 o.dst (R k).av (p9 ops R ts0 q)) ((R k).upd++D9 R os0 q) (a.put o.dst v) w->True:=fun _ _=>trivial;have tsc:p9 ops R ts0 (k::q)=T9 o.dst (R k).av (p9 ops R ts0 q):=by
  rw[p9,B];cases N:o.dst<;>simp[T9,N]
 rcases X.ew k o hkl B with D|S
 ·rw[(nO hd l B L hw D.guard).run G,Af rfl];left;have hev:∀x∈o.op.operands.toList,Rd c w (a.eval x) (X5 (p9 ops R ts0 (down k)) x):=fun x M=>by
   have e:X5 (p9 ops R ts0 (down k)) x=X5 (p9 ops R ts0 q) x:=by
    cases x with
    |tmp t =>
     unfold X5;simp only;rw[nu hd l B L hw (by unfold al;rw[AR];left;rw[List.mem_filterMap];exact⟨.tmp t,M,rfl⟩)]
    |_=>rfl
   rw[e];exact gM G x
  have F:∃f,gy P o (X5 (p9 ops R ts0 (down k))) (R k).av f (R k).upd (R k).news/\∀id ob,lk f id=some ob->lk (D9 R os0 q) id=some ob:=by
   by_cases A:∀j∈q,k<j->Rw (R k) (R j)
   ·refine⟨(R k).need,D.mr,fun id ob h=>?_⟩;rw[qx (n:=0) X l B L hw (R4 (by rw[h];rfl)) A];exact D.need id ob h
   ·simp only[Classical.not_forall] at A;obtain⟨m,z,hkm,hN⟩:=A;have hml:=l.lt m z;have hmo:ops[m]?=some ops[m]:=A8 hml;have hS:en P ops R ts0 os0 k m:=by
     cases E:J5 ops ops[m] k with
     |true =>
      obtain⟨pre,post,O⟩:=List.append_of_mem z;have:=l.cM O hmo E;exact absurd (by rw[O];simp[this]) L
     |false=>exact(X.comm k m _ hkm hml hmo E).2.resolve_left hN
    obtain⟨o',f,ho2,ht,hn,hsub⟩:=hS.mr;rw[B] at ho2;cases ho2;refine⟨f,by rw[hS.upd,hS.news];exact ht,fun id ob h=>?_⟩;rw[rM X l B L hw z hkm hS hN (hsub _ (R4 (by rw[h];rfl)))];exact hn id ob h
  obtain⟨f,tri',g⟩:=F;have later:∀j∈q,¬j<k->∀x∈(R k).news,x ∉ mentions (R j):=fun j T y x M=>by
   have hne:j≠k:=fun e=>L (e▸T);have Z:=l.lt j T;have hjo:ops[j]?=some ops[j]:=A8 Z;cases E:J5 ops ops[j] k with
   |true =>
    obtain⟨pre,post,O⟩:=List.append_of_mem T;have:=l.cM O hjo E;exact absurd (by rw[O];simp[this]) L
   |false=>exact(X.comm k j _ d9 Z hjo E).1.nm x M
  have memd:∀j,j<k->∀p:Nat×AV,True:=fun _ _ _=>trivial;have V:∀j,j<k->(∃d,(ops[j]?).bind (·.dst)=some d/\(d,(R j).av)∈p9 ops R ts0 (down k))\/(ops[j]?).bind (·.dst)=none:=by
   have:∀n j,j<n->(∃d,(ops[j]?).bind (·.dst)=some d/\(d,(R j).av)∈p9 ops R ts0 (down n))\/(ops[j]?).bind (·.dst)=none:=by
    intro n
    induction n with
    |zero=>intro j h;omega
    |succ n ih =>
     intro j h;rcases Nat.lt_or_eq_of_le (Nat.le_of_lt_succ h) with h|h
     ·rcases ih j h with⟨d,W,Y⟩|W
      ·refine .inl ⟨d,W,?_⟩;simp only[down,p9];split
       ·exact List.mem_cons_of_mem _ Y
       ·exact Y
      ·exact .inr W
     ·subst h;cases N:(ops[j]?).bind (·.dst) with
      |none=>exact .inr rfl
      |some d=>refine .inl ⟨d,rfl,?_⟩;simp only[down,p9,N];simp
   exact fun j h=>this k j h
  have I:∀p∈ts0,p∈p9 ops R ts0 (down k):=by
   have:∀n,∀p∈ts0,p∈p9 ops R ts0 (down n):=by
    intro n
    induction n with
    |zero=>exact fun p h=>h
    |succ n ih =>
     intro p h;simp only[down,p9];split
     ·exact List.mem_cons_of_mem _ (ih p h)
     ·exact ih p h
   exact this k
  have U:∀j,j<k->∀p∈(R j).upd,p∈D9 R os0 (down k):=by
   have:∀n j,j<n->∀p∈(R j).upd,p∈D9 R os0 (down n):=by
    intro n
    induction n with
    |zero=>intro j h;omega
    |succ n ih =>
     intro j h p C;simp only[down,D9];rcases Nat.lt_or_eq_of_le (Nat.le_of_lt_succ h) with h|h
     ·exact List.mem_append_right _ (ih j h p C)
     ·subst h;exact List.mem_append_left _ C
   exact fun j h=>this k j h
  have H:∀p∈os0,p∈D9 R os0 (down k):=by
   have:∀n,∀p∈os0,p∈D9 R os0 (down n):=by
    intro n
    induction n with
    |zero=>exact fun p h=>h
    |succ n ih=>intro p h;simp only[down,D9];exact List.mem_append_right _ (ih p h)
   exact this k
  have mj:∀t x,lk (p9 ops R ts0 q) t=some x->∀id∈(R k).news,id ∉ x.ids:=by
   intro t x s id u;have key:∀p∈p9 ops R ts0 (down k),id ∉ p.2.ids:=fun p C=>by
    have r:=D.mj;unfold y7 at r;split at r
    ·rename_i e;rw[e] at u;cases u
    ·exact Y1 (AD.1 r p C) id u
   rw[fR] at s;cases r:q.find? (cc ops t) with
   |none=>rw[r] at s;exact key _ (I _ (J2 s))
   |some j =>
    rw[r] at s;simp only[Option.some.injEq] at s;subst s;have T:=List.mem_of_find?_eq_some r;by_cases y:j<k
    ·rcases V j y with⟨d,_,z⟩|hnn
     ·exact key _ z
     ·have:=List.find?_some r;unfold cc at this;rw[hnn] at this;simp at this
    ·intro z;exact later j T y id u (by unfold mentions;simp[z])
  have gl:(∀id ob,lk (D9 R os0 q) id=some ob->lk (R k).upd id=none->∀x∈(R k).news,x ∉ ob.ids)/\∀x∈(R k).news,x<top:=by
   refine⟨fun id ob s hu x M z=>?_,(Y5 D.gl).2⟩;have key:∀p∈D9 R os0 (down k),p.1=id->x ∉ p.2.ids:=fun p C O=>by
    have r:=D.gl;unfold y5 at r;split at r
    ·rename_i e;rw[e] at M;cases M
    ·simp only[A7] at r;have:=AD.1 r.2 p C;rw[O,hu] at this;simp only[Option.isSome_none,Bool.false_or] at this;exact Y1 this x M
   rw[ec] at s;cases r:q.find? (eD R id) with
   |none=>rw[r] at s;exact key _ (H _ (J2 s)) rfl z
   |some j =>
    rw[r] at s;simp only at s;have T:=List.mem_of_find?_eq_some r;by_cases y:j<k
    ·exact key _ (U j y _ (J2 s)) rfl z
    ·refine later j T y x M ?_;unfold mentions;rw[AR];right;rw[List.mem_flatMap];exact⟨_,J2 s,z⟩
  have hgo:=tri' c w a.eval (b.rel.a8.sub g) hev;unfold Oper.wp;refine hgo.upon fun v w' ⟨c',C,hv⟩=>hK _ _ ⟨c',?_,?_⟩
  ·have hn:=b.rel.n;refine⟨by rw[put_defers];exact b.rel.defers,by rw[hZ];exact hn,?_,?_,?_⟩
   ·rw[tsc];exact G.put (b.rel.a8.sub g) C mj hv (by rw[hn];exact J)
   ·exact b.rel.a8.frame g C D.news gl.1
   ·exact b.rel.inv.post b.rel.a8 g C D.news gl.1
  ·intro id u;have hno:id ∉ (R k).news:=fun z=>by have:=gl.2 id z;omega
   have W:=C.ctx id hno;have Y:=b.same id u;exact⟨W.1.trans Y.1,W.2.trans Y.2⟩
 ·rw[(nO hd l B L hw S.guard).run G,Ae o7];have hs:=iA (o:=o) ⟨c,b⟩ J;refine hK _ _ ?_;rw[tsc,D9,S.eq];exact hs
def oV (hd:O6 ops=true) (N:Lex P Γ ops R ts0 os0 ops.length) {Q:Exit->Act->World->Prop} (V:∀a w,l9 Γ (p9 ops R ts0 (down ops.length)) (D9 R os0 (down ops.length)) a w->Q .normal a w) :
  ∀(fuel:Nat) (b:Array Bool) (c:List Nat) (a:Act) (w:World),X3 ops c->(∀i,i<ops.length->(b.getD i true=true↔i∈c))->b.size=ops.length->c.length+fuel=ops.length ->
   l9 Γ (p9 ops R ts0 c) (D9 R os0 c) a w->wpAny P .any ops.toArray Q fuel b a w:=by
 have x:∀(b:Array Bool) (c:List Nat),X3 ops c->(∀i,i<ops.length->(b.getD i true=true↔i∈c))->b.size=ops.length->Region.ready .any ops.toArray b=[]->∀i,i<ops.length->i∈c:=by
  intro b c d m E q i
  induction i using Nat.strongRecOn with
  |_ i ih =>
   intro g;cases C:b.getD i true with
   |true=>exact(m i g).1 C
   |false =>
    exfalso;have O:i∈Region.ready .any ops.toArray b:=by
     rw[mem_ready];refine⟨C,ops[i],by simp[g],fun e H r=>?_⟩;have n:=hd;unfold O6 at n;simp only[A7] at n;have B:=AD.1 n.1.1 (ops[i],i) (by rw[List.mem_zipIdx_iff_getElem?];exact A8 g);simp only[AD] at B;have G:=B e (by simpa using H);rw[r] at G;simp only[AQ,Bool.false_or] at G;have J:e.on<i:=AP G;have M:=(m e.on d9).2 (ih e.on J d9);have v:e.on<b.size:=d9;simp only[Array.getD_eq_getD_getElem?,Array.getElem?_eq_getElem v,Option.getD_some] at M⊢;exact M
    rw[q] at O;cases O
 have y:∀(c:List Nat) (a:Act) (w:World),X3 ops c->(∀i,i<ops.length->i∈c)->l9 Γ (p9 ops R ts0 c) (D9 R os0 c) a w->Q .normal a w:=fun c a w d f q=>by
  obtain⟨e1,U⟩:=rC hd N d f;exact V a w (q.congr (fun t=>(e1 t).symm) fun id=>(U id).symm)
 intro fuel
 induction fuel with
 |zero =>
  intro b c a w d m E z q;have f:∀i,i<ops.length->i∈c:=fun i g=>Classical.byContradiction fun W=>by
   have:=ow ops.length (i::c) (List.nodup_cons.2 ⟨W,d.nodup⟩) fun j u=>by
    rcases AF.1 u with rfl|u
    ·exact g
    ·exact d.lt j u
   simp at this;omega
  refine⟨?_,y c a w d f q⟩;apply List.eq_nil_iff_forall_not_mem.2;intro i g;rw[mem_ready] at g;obtain⟨F,o,D,_⟩:=g;have l:i<ops.length:=by
   have:=(Array.getElem?_eq_some_iff.1 D).1;simpa using this
  have:=(m i l).2 (f i l);rw[F] at this;cases this
 |succ fuel ih =>
  intro b c a w d m E z q;refine⟨fun L=>y c a w d (x b c d m E L) q,fun i g=>?_⟩;rw[mem_ready] at g;obtain⟨F,o,D,k⟩:=g;have l:i<ops.length:=by
   have:=(Array.getElem?_eq_some_iff.1 D).1;simpa using this
  have A:ops[i]?=some o:=by simpa using D
  have p:i ∉ c:=fun h=>by
   have:=(m i l).2 h;rw[F] at this;cases this
  have S:∀j,waits o j=true->j∈c:=fun j u=>by
   obtain⟨e,H,C,rfl⟩:=qm.1 u;have n:=k e H C;have v:e.on<b.size:=Classical.byContradiction fun I=>by
    simp only[Array.getD_eq_getD_getElem?,Array.getElem?_eq_none (Nat.le_of_not_lt I),Option.getD_none] at n;cases n
   have B:b.getD e.on true=true:=by
    simp only[Array.getD_eq_getD_getElem?,Array.getElem?_eq_getElem v,Option.getD_some] at n⊢;exact n
   exact(m e.on d9).1 B
  refine sj hd N d A p S q fun T w' K=>ih _ (i::c) T w' (d.cons A p S) (fun j u=>?_) (by simpa using E) dB K;by_cases s:i=j
  ·subst s;have:i<b.size:=d9;simp[this]
  ·rw[getD_set_ne true s];rw[m j u,AF];exact⟨.inr,fun h=>h.resolve_left fun e=>s e.symm⟩
end
def eA (a b:List Nat):Bool:=a.all fun x=>!(b.elem x)
def Z5 {a b:List Nat} (h:eA a b=true):∀x∈a,x ∉ b:=fun x d c=>by
 have:=AD.1 h x d;simp at this;exact this c
structure cg where
 k:Nat
 need:List Nat
 writes:List Nat
 news:List Nat
def jo (ops:List Oper) (o:Oper) (a:List cg) (rd:List Nat) (b:Os) (av:AV):Bool :=
 a.all fun r=>(eA r.writes rd && eA r.writes (keys b) && eA (keys b) r.need && eA r.news (av.ids++b.flatMap fun p=>p.2.ids)) || J5 ops o r.k
def dU (k:Nat) (rd c:List Nat) (b:Os) (a:List cg):List cg :=
 match rd,b with
 |[],[]=>a
 |_,_=>⟨k,rd,keys b,c⟩::a
def dL (P:Program) (tab:E5) (et:Q8) (n:Nat) (ops:List Oper):Nat->List Oper->Ts->Os->List cg->(Ts->Os->Prop)->Prop
 |_,[],ts,os,_,K=>K ts os
 |k,o::rest,ts,os,log,K=>match o.dst with
  |some d=>match AH d n with
   |true=>dv ops o ts
    (dR P tab et d o.op (X5 ts) os fun av rd b a=>match y7 b ts && y5 b a os && jo ops o log rd a av with
     |true=>force av fun av=>dK a os fun os=>dL P tab et n ops (k+1) rest ((d,av)::ts) os (dU k rd b a log) K
     |false=>False)
    (dL P tab et n ops (k+1) rest ((d,.aS [])::ts) os log K)
   |false=>False
  |none=>dv ops o ts
   (dR P tab et 0 o.op (X5 ts) os fun av rd b a=>match y7 b ts && y5 b a os && jo ops o log rd a av with
    |true=>dK a os fun os=>dL P tab et n ops (k+1) rest ts os (dU k rd b a log) K
    |false=>False)
   (dL P tab et n ops (k+1) rest ts os log K)
section
variable {P:Program} {tab:E5} {et:Q8} {Γ:H7} {ops:List Oper} {ts0:Ts} {os0:Os}
def jT {o:Oper} {ts:Ts} {X Y:Prop} (h:dv ops o ts X Y):(O0 ops o ts true/\X)\/(O0 ops o ts false/\Y):=by
 unfold dv at h;unfold O0;cases e:o.guard with
 |none=>rw[e] at h;exact .inl ⟨rfl,h⟩
 |some p =>
  obtain⟨j,c⟩:=p;rw[e] at h;cases c with
  |true =>
   simp only at h⊢;split at h
   ·rename_i d;exact .inr ⟨.inl (by simp[d]),h⟩
   split at h
   ·rename_i b a;cases b
    ·exact .inr ⟨.inr ⟨false,a,rfl⟩,h⟩
    ·exact .inl ⟨.inr ⟨true,a,rfl⟩,h⟩
   ·exact h.elim
  |false =>
   simp only at h⊢;split at h
   ·rename_i d;exact .inr ⟨.inl (by simp[d]),h⟩
   split at h
   ·rename_i b a;cases b
    ·exact .inl ⟨.inr ⟨false,a,rfl⟩,h⟩
    ·exact .inr ⟨.inr ⟨true,a,rfl⟩,h⟩
   ·exact h.elim
def q8 (R:Nat->L6) (k:Nat) (r:L6):Nat->L6:=fun i=>if i=k then r else R i
theorem dp (R:Nat->L6) (k:Nat) (r:L6):∀n,n<=k->p9 ops (q8 R k r) ts0 (down n)=p9 ops R ts0 (down n)
 |0,_=>rfl
 |n+1,h=>by
  have e:q8 R k r n=R n:=by unfold q8;rw[Ae d9]
  simp only[down,p9,dp R k r n d9,e]
theorem fL (R:Nat->L6) (k:Nat) (r:L6):∀n,n<=k->D9 (q8 R k r) os0 (down n)=D9 R os0 (down n)
 |0,_=>rfl
 |n+1,h=>by
  have e:q8 R k r n=R n:=by unfold q8;rw[Ae d9]
  simp only[down,D9,fL R k r n d9,e]
def ed (R:Nat->L6) (k:Nat) (a:List cg):Prop:=∀i,i<k->((R i).need=[]/\(R i).upd=[]/\(R i).news=[])\/∃r∈a,r.k=i/\r.need=keys (R i).need/\r.writes=keys (R i).upd/\r.news=(R i).news
theorem Comm.aa {a b:L6} (h:a.need=[]/\a.upd=[]/\a.news=[]):Comm a b:=by
 obtain⟨f,d,e⟩:=h;refine⟨fun id c=>?_,fun id c=>?_,fun id c=>?_⟩
 ·rw[d] at c;cases c
 ·rw[d] at c;cases c
 ·rw[e] at c;cases c
theorem Rw.aa {a b:L6} (h:a.need=[]):Rw a b:=fun id _ c=>by rw[h] at c;cases c
theorem en.set {P:Program} {R:Nat->L6} {i k j:Nat} {r:L6} (q:i<k) (s:k<j) (h:en P ops R ts0 os0 i k):en P ops (q8 R j r) ts0 os0 i k:=by
 have b:∀i,i≠j->q8 R j r i=R i:=fun i h=>by unfold q8;rw[Ae h]
 obtain⟨d,e,f,o,a,g,l,n,p⟩:=h;refine⟨by rw[b i d9];exact d,by rw[b i d9];exact e,fun m t c=>by rw[b m d9,b i d9];exact f m t c,o,a,g,?_,?_,by rw[b i d9];exact p⟩
 ·rw[dp R j r i d9,b i d9];exact l
 ·rw[fL R j r (k+1) d9];exact n
theorem Lex.step {R:Nat->L6} {k:Nat} {o:Oper} {r:L6} (e:Lex P Γ ops R ts0 os0 k) (f:ops[k]?=some o)
  (hd:pP P Γ ops o (p9 ops R ts0 (down k)) (D9 R os0 (down k)) r\/nd ops o (p9 ops R ts0 (down k)) r) (c:cd Γ.n o.dst=true) (s:∀i,i<k->J5 ops o i=false->Comm (R i) r/\(Rw (R i) r\/en P ops (q8 R k r) ts0 os0 i k)):Lex P Γ ops (q8 R k r) ts0 os0 (k+1):=by
 have d:∀i,i≠k->q8 R k r i=R i:=fun i h=>by unfold q8;rw[Ae h]
 have g:q8 R k r k=r:=by unfold q8;rw[Af rfl]
 refine⟨fun j x l a=>?_,fun j x l a=>?_,fun i j x b l a m=>?_⟩
 ·rw[dp R k r j d9,fL R k r j d9];by_cases h:j=k
  ·subst h;rw[f] at a;cases a;rw[g];exact hd
  ·rw[d j h];exact e.ew j x d9 a
 ·by_cases h:j=k
  ·subst h;rw[f] at a;cases a;exact c
  ·exact e.dst j x d9 a
 ·rw[d i d9];by_cases h:j=k
  ·subst h;rw[f] at a;cases a;rw[g];exact s i b m
  ·rw[d j h];obtain⟨p,q⟩:=e.comm i j x b d9 a m;exact⟨p,q.imp (fun h=>h) fun h=>h.set b d9⟩
def r5 {os:Os} (h:os.map (·.1)=[]):os=[]:=by simpa using h
def qO {R:Nat->L6} {k:Nat} {b:List cg} {o:Oper} {r:L6} (a:ed R k b) (l:jo ops o b (r.need.map (·.1)) r.upd r.av=true):∀i,i<k->J5 ops o i=false->Comm (R i) r/\Rw (R i) r:=by
 intro i m n;rcases a i m with h|⟨x,p,rfl,f,g,j⟩
 ·exact⟨.aa h,.aa h.1⟩
 ·have:=AD.1 l x p;rw[n,Bool.or_false] at this;simp only[A7] at this;obtain⟨⟨⟨c,d⟩,c3⟩,e⟩:=this;rw[g] at c d;rw[f] at c3;rw[j] at e;exact⟨⟨Z5 c,Z5 d,Z5 e⟩,Z5 c3⟩
def oF {R:Nat->L6} {k:Nat} {a:List cg} {r:L6} (b:ed R k a) (n:∀id∈r.news,(lk r.upd id).isSome=true):ed (q8 R k r) (k+1) (dU k (r.need.map (·.1)) r.news r.upd a):=by
 intro i o;have l:∀i,i≠k->q8 R k r i=R i:=fun i h=>by unfold q8;rw[Ae h]
 have j:q8 R k r k=r:=by unfold q8;rw[Af rfl]
 have grow:∀x∈a,x∈dU k (r.need.map (·.1)) r.news r.upd a:=fun x c=>by
  unfold dU;split
  ·exact c
  ·exact List.mem_cons_of_mem _ c
 by_cases h:i=k
 ·subst h;rw[j];unfold dU;split
  ·rename_i m g;have f:r.news=[]:=List.eq_nil_iff_forall_not_mem.2 fun id d=>by
    have:=n id d;rw[g] at this;cases this
   exact .inl ⟨r5 m,g,f⟩
  ·exact .inr ⟨_,List.mem_cons_self,rfl,rfl,rfl,rfl⟩
 ·rw[l i h];exact(b i d9).imp (fun h=>h) fun⟨x,c,e⟩=>⟨x,grow x c,e⟩
theorem lh (Z:D5 P tab) (W:R5 P et):∀(l:List Oper) (k:Nat) (R:Nat->L6) (g:List cg) (K:Ts->Os->Prop),dL P tab et Γ.n ops k l (p9 ops R ts0 (down k)) (D9 R os0 (down k)) g K->Lex P Γ ops R ts0 os0 k->ed R k g->(∀j,l[j]?=ops[k+j]?)->k+l.length=ops.length ->
  (∃a w,l9 Γ (p9 ops R ts0 (down k)) (D9 R os0 (down k)) a w)->∃u,Lex P Γ ops u ts0 os0 ops.length/\K (p9 ops u ts0 (down ops.length)) (D9 u os0 (down ops.length))
 |[],k,R,g,K,h,S,t,hl,s,M=>by
  simp at s;subst s;exact⟨R,S,h⟩
 |o::l,k,R,g,K,h,S,t,hl,s,M=>by
  have T:ops[k]?=some o:=by simpa using(hl 0).symm
  have Q:∀j,l[j]?=ops[k+1+j]?:=fun j=>by
   have:=hl (j+1);simpa[Nat.add_assoc,Nat.add_comm 1 j] using this
  have B:k+1+l.length=ops.length:=by simp at s;omega
  obtain⟨a,w,E⟩:=M;have ew:∀(d:Nat) (dst:cd Γ.n o.dst=true) (V:Kt),O0 ops o (p9 ops R ts0 (down k)) true->dR P tab et d o.op (X5 (p9 ops R ts0 (down k))) (D9 R os0 (down k)) V ->
    (∀av rd N L,V av rd N L->y7 N (p9 ops R ts0 (down k))=true/\y5 N L (D9 R os0 (down k))=true/\jo ops o g rd L av=true/\dL P tab et Γ.n ops (k+1) l (T9 o.dst av (p9 ops R ts0 (down k))) (L++D9 R os0 (down k)) (dU k rd N L g) K) ->
    ∃u,Lex P Γ ops u ts0 os0 ops.length/\K (p9 ops u ts0 (down ops.length)) (D9 u os0 (down ops.length)):=by
   intro d dst V A hst X;obtain⟨c,b⟩:=E;have O:∀x∈o.op.operands.toList,Rd c w (a.eval x) (X5 (p9 ops R ts0 (down k)) x):=fun x _=>gM b.rel.ts x;obtain⟨av,need,upd,news,F,e,f,Y⟩:=bD Z W d hst ⟨c,w,a.eval,b.rel.a8,O⟩;obtain⟨f1,f2,f3,q⟩:=X _ _ _ _ Y;let r:L6:=⟨av,need,upd,news⟩;have H:=S.step (r:=r) T (.inl ⟨A,F,e,f,f1,f2⟩) dst (fun i M hw=>(qO (r:=r) t f3 i M hw).imp (fun h=>h) .inl);have p:=oF (r:=r) (R:=R) t f;have G:q8 R k r k=r:=by unfold q8;rw[Af rfl]
   have z:p9 ops (q8 R k r) ts0 (down (k+1))=T9 o.dst av (p9 ops R ts0 (down k)):=by
    simp only[down,p9,dp R k r k (AA _),T,G];cases I:o.dst<;>simp[T9,I,r]
   have y:D9 (q8 R k r) os0 (down (k+1))=upd++D9 R os0 (down k):=by
    simp only[down,D9,fL R k r k (AA _),G];rfl
   have hgo:=F c w a.eval (b.rel.a8.sub e) O;obtain⟨v,w',c',U,hv⟩:=hgo.inst;obtain⟨g1,g2⟩:=Y5 f2;have J:l9 Γ (T9 o.dst av (p9 ops R ts0 (down k))) (upd++D9 R os0 (down k)) (a.put o.dst v) w':=by
    refine⟨c',⟨by rw[put_defers];exact b.rel.defers,by rw[hZ];exact b.rel.n,b.rel.ts.put (b.rel.a8.sub e) U (hA f1) hv (by rw[b.rel.n];exact dst),b.rel.a8.frame e U f g1,b.rel.inv.post b.rel.a8 e U f g1⟩,fun id hid=>?_⟩;have hno:id ∉ news:=fun hm=>by have:=g2 id hm;omega
    have h1:=U.ctx id hno;have h2:=b.same id hid;exact⟨h1.1.trans h2.1,h1.2.trans h2.2⟩
   exact lh Z W l (k+1) (q8 R k r) _ K (by rw[z,y];exact q) H p Q B ⟨_,_,by rw[z,y];exact J⟩
  have skip:cd Γ.n o.dst=true->O0 ops o (p9 ops R ts0 (down k)) false->dL P tab et Γ.n ops (k+1) l (T9 o.dst (.aS []) (p9 ops R ts0 (down k))) (D9 R os0 (down k)) g K ->
    ∃u,Lex P Γ ops u ts0 os0 ops.length/\K (p9 ops u ts0 (down ops.length)) (D9 u os0 (down ops.length)):=by
   intro dst A q;let r:L6:=⟨.aS [],[],[],[]⟩;have H:=S.step (r:=r) T (.inr ⟨A,rfl⟩) dst (fun i M hw=>⟨⟨fun id _ h=>(by cases h),fun id _ h=>(by cases h),fun id _ h=>(by cases h)⟩,.inl fun id h=>(by cases h)⟩);have p:ed (q8 R k r) (k+1) g:=fun i M=>by
    by_cases h:i=k
    ·subst h;have G:q8 R i r i=r:=by unfold q8;rw[Af rfl]
     rw[G];exact .inl ⟨rfl,rfl,rfl⟩
    ·have eo:q8 R k r i=R i:=by unfold q8;rw[Ae h]
     rw[eo];exact t i d9
   have G:q8 R k r k=r:=by unfold q8;rw[Af rfl]
   have z:p9 ops (q8 R k r) ts0 (down (k+1))=T9 o.dst (.aS []) (p9 ops R ts0 (down k)):=by
    simp only[down,p9,dp R k r k (AA _),T,G];cases I:o.dst<;>simp[T9,I,r]
   have y:D9 (q8 R k r) os0 (down (k+1))=D9 R os0 (down k):=by
    simp only[down,D9,fL R k r k (AA _),G];rfl
   exact lh Z W l (k+1) (q8 R k r) g K (by rw[z,y];exact q) H p Q B ⟨_,_,by rw[z,y];exact iA (o:=o) E dst⟩
  unfold dL at h;split at h
  ·rename_i d hd;split at h
   ·rename_i hdl;have m:cd Γ.n o.dst=true:=by rw[hd];exact hdl
    rcases jT h with⟨A,h⟩|⟨A,h⟩
    ·refine ew d m _ A h fun av rd N L D=>?_;split at D
     ·rename_i C;simp only[A7] at C;rw[force_eq,dq] at D;exact⟨C.1.1,C.1.2,C.2,by rw[hd];exact D⟩
     ·exact D.elim
    ·exact skip m A (by rw[hd];exact h)
   ·exact h.elim
  ·rename_i hd;have m:cd Γ.n o.dst=true:=by rw[hd];rfl
   rcases jT h with⟨A,h⟩|⟨A,h⟩
   ·refine ew 0 m _ A h fun av rd N L D=>?_;split at D
    ·rename_i C;simp only[A7] at C;rw[dq] at D;exact⟨C.1.1,C.1.2,C.2,by rw[hd];exact D⟩
    ·exact D.elim
   ·exact skip m A (by rw[hd];exact h)
theorem l9.drew {ts:Ts} {os:Os} {a:Act} {w:World} (h:l9 Γ ts os a w):l9 Γ ts os a { w with drawn:=w.drawn+1 }:=by
 obtain⟨c,⟨f,g,i,d,b⟩,j⟩:=h;refine⟨c,⟨f,g,fun t x e=>?_,⟨fun id o e=>?_,d.lt,d.sep,d.aX⟩,⟨b.bO,b.tape,b.output,b.size,b.aX,b.aV,b.aK,b.ab⟩⟩,j⟩
 ·obtain⟨v,k,l⟩:=i t x e;exact⟨v,k,Rd.mono (c:=c) (c':=c) (w:=w) (w':={ w with drawn:=w.drawn+1 }) (fun _ _=>rfl) (fun _ h=>h) (fun _ _=>⟨rfl,rfl⟩) l⟩
 ·exact(d.rep id o e).aK (c':=c) ⟨rfl,rfl⟩ (fun _ _=>rfl) (fun _ h=>h) (fun _ _=>rfl) fun _ _=>⟨rfl,rfl⟩
theorem j4.draw (t:D5 P tab) (q:R5 P et) {n:Nat} (v:Γ.n=n) (u:P.follows .mixedOrders=true) {id:Nat} {l:Array Oper} (hd:O6 l.toList=true) {ts:Ts} {os:Os} {Q:Qt} (h:Y0 ts fun ts=>dL P tab et n l.toList 0 l.toList ts os [] (Q .normal)):j4 P Γ (.region id l true) ts os Q:=by
 subst v;rw[gA] at h;refine⟨fun a w x=>wp_region_any u ?_⟩;have c:=x.drew;obtain⟨R,s,r⟩:=lh (ops:=l.toList) (ts0:=ts) (os0:=os) t q l.toList 0 (fun _=>default) [] _ h ⟨fun k o b=>absurd b d9,fun k o b=>absurd b d9,fun i k o _ b=>absurd b d9⟩ (fun i g=>absurd g d9) (fun j=>by rw[Nat.zero_add]) d9 ⟨_,_,c⟩;have:=oV (Q:=fun e p w'=>∃ex f d,ez e ex/\Q ex f d/\l9 Γ f d p w') hd s (fun p w' m=>⟨.normal,_,_,trivial,r,m⟩) l.toList.length (Array.replicate l.size false) [] a _ (lD hd 0 (Nat.zero_le _)) (fun i g=>by
  have:i<l.size:=by simpa using g
  simp[this]) o7 o7 c
 simpa using this
structure Sv where
 o:Oper
 ts:Ts
 av:AV
 rd:List Nat
def jn (ops:List Oper) (o:Oper) (k c d:Nat) (a:List cg) (rd:List Nat) (b:Os) (av:AV):Bool :=
 a.all fun r=>(eA r.writes rd && eA r.writes (keys b) && (eA (keys b) r.need || (A4 r.k c && A4 k d)) && eA r.news (av.ids++b.flatMap fun p=>p.2.ids)) || J5 ops o r.k
def mI (ts a:Ts):List Operand->Prop
 |[]=>True
 |x::l=>X5 a x=X5 ts x/\mI ts a l
theorem nj {ts a:Ts}:∀{l:List Operand},mI ts a l->∀x∈l,X5 a x=X5 ts x
 |[],_,x,h=>(by cases h)
 |y::l,h,x,b=>by
  rcases AF.1 b with rfl|b
  ·exact h.1
  ·exact nj h.2 x b
def vF (b:Nat) (rd:List Nat) (a:List cg):Bool:=a.all fun r=>!(AH b r.k) || eA r.writes rd
def ji (P:Program) (tab:E5) (et:Q8) (k b c:Nat) (e:Option Sv) (a:List cg) (ts:Ts) (os:Os) (K:Prop):Prop :=
 match A4 k c with
 |true=>match e with
  |some s=>(vF b s.rd a=true/\mI s.ts ts s.o.op.operands.toList/\dR P tab et 0 s.o.op (X5 s.ts) os fun av rd d f=>av=s.av/\d=[]/\f=[]/\(rd.all fun x=>s.rd.elem x)=true)/\K
  |none=>False
 |false=>K
def gU (k b:Nat) (o:Oper) (ts:Ts) (av:AV) (rd c:List Nat) (d:Os) (a:Option Sv):Option Sv :=
 match A4 k b with
 |true=>match c,d with
  |[],[]=>some ⟨o,ts,av,rd⟩
  |_,_=>a
 |false=>a
def dM (P:Program) (tab:E5) (et:Q8) (n:Nat) (ops:List Oper) (b e:Nat):Nat->List Oper->Ts->Os->List cg->Option Sv->(Ts->Os->Prop)->Prop
 |_,[],ts,os,_,_,K=>K ts os
 |k,o::rest,ts,os,log,sv,K=>match o.dst with
  |some d=>match AH d n with
   |true=>dv ops o ts
    (dR P tab et d o.op (X5 ts) os fun av rd c a=>match y7 c ts && y5 c a os && jn ops o k b e log rd a av with
     |true=>force av fun av=>dK a os fun os=>ji P tab et k b e sv log ((d,av)::ts) os (dM P tab et n ops b e (k+1) rest ((d,av)::ts) os (dU k rd c a log) (gU k b o ts av rd c a sv) K)
     |false=>False)
    (dM P tab et n ops b e (k+1) rest ((d,.aS [])::ts) os log sv K)
   |false=>False
  |none=>dv ops o ts
   (dR P tab et 0 o.op (X5 ts) os fun av rd c a=>match y7 c ts && y5 c a os && jn ops o k b e log rd a av with
    |true=>dK a os fun os=>ji P tab et k b e sv log ts os (dM P tab et n ops b e (k+1) rest ts os (dU k rd c a log) (gU k b o ts av rd c a sv) K)
    |false=>False)
   (dM P tab et n ops b e (k+1) rest ts os log sv K)
section
variable {P:Program} {tab:E5} {et:Q8} {Γ:H7} {ops:List Oper} {ts0:Ts} {os0:Os}
def ei (ops:List Oper) (R:Nat->L6) (ts0:Ts) (a k:Nat) (b:Option Sv):Prop:=∀s,b=some s->a<k/\ops[a]?=some s.o/\s.ts=p9 ops R ts0 (down a)/\(R a).av=s.av/\keys (R a).need=s.rd/\(R a).upd=[]/\(R a).news=[]
theorem ei.step {R:Nat->L6} {a k:Nat} {b:Option Sv} {r:L6} (h:ei ops R ts0 a k b):ei ops (q8 R k r) ts0 a (k+1) b:=fun s g=>by
 obtain⟨i,c,d,f⟩:=h s g;have e:q8 R k r a=R a:=by unfold q8;rw[Ae d9]
 exact⟨d9,c,by rw[dp R k r a d9];exact d,by rw[e];exact f⟩
theorem ei.save {R:Nat->L6} {a k:Nat} {b:Option Sv} {o:Oper} {r:L6} (h:ei ops R ts0 a k b) (g:ops[k]?=some o):ei ops (q8 R k r) ts0 a (k+1) (gU k a o (p9 ops R ts0 (down k)) r.av (r.need.map (·.1)) r.news r.upd b):=by
 unfold gU;split
 ·rename_i f;have:=A9 f;subst this;split
  ·rename_i c d;intro s i;cases i;have e:q8 R k r k=r:=by unfold q8;rw[Af rfl]
   exact⟨d9,g,(dp R k r k (AA _)).symm,by rw[e],by rw[e];rfl,by rw[e];exact d,by rw[e];exact c⟩
  ·exact h.step
 ·exact h.step
def sW {R:Nat->L6} {k f g:Nat} {b:List cg} {o:Oper} {r:L6} (a:ed R k b) (n:jn ops o k f g b (r.need.map (·.1)) r.upd r.av=true):∀i,i<k->J5 ops o i=false->Comm (R i) r/\(Rw (R i) r\/(i=f/\k=g)):=by
 intro i p q;rcases a i p with h|⟨x,s,rfl,j,l,m⟩
 ·exact⟨.aa h,.inl (.aa h.1)⟩
 ·have:=AD.1 n x s;rw[q,Bool.or_false] at this;simp only[A7,Bool.or_eq_true] at this;obtain⟨⟨⟨c,d⟩,c3⟩,e⟩:=this;rw[l] at c d;rw[j] at c3;rw[m] at e;refine⟨⟨Z5 c,Z5 d,Z5 e⟩,c3.imp (fun h=>Z5 h) fun h=>⟨A9 h.1,A9 h.2⟩⟩
theorem lf (hT:D5 P tab) (hE:R5 P et) (y M:Nat):∀(l:List Oper) (k:Nat) (R:Nat->L6) (m:List cg) (N:Option Sv) (K:Ts->Os->Prop),ei ops R ts0 y k N->dM P tab et Γ.n ops y M k l (p9 ops R ts0 (down k)) (D9 R os0 (down k)) m N K->Lex P Γ ops R ts0 os0 k->ed R k m->(∀j,l[j]?=ops[k+j]?)->k+l.length=ops.length ->
  (∃a w,l9 Γ (p9 ops R ts0 (down k)) (D9 R os0 (down k)) a w)->∃C,Lex P Γ ops C ts0 os0 ops.length/\K (p9 ops C ts0 (down ops.length)) (D9 C os0 (down ops.length))
 |[],k,R,m,N,K,L,h,hL,u,hl,A,hi=>by
  simp at A;subst A;exact⟨R,hL,h⟩
 |o::l,k,R,m,N,K,L,h,hL,u,hl,A,hi=>by
  have ho:ops[k]?=some o:=by simpa using(hl 0).symm
  have hl':∀j,l[j]?=ops[k+1+j]?:=fun j=>by
   have:=hl (j+1);simpa[Nat.add_assoc,Nat.add_comm 1 j] using this
  have H:k+1+l.length=ops.length:=by simp at A;omega
  obtain⟨a,w,S⟩:=hi;have ew:∀(d:Nat) (dst:cd Γ.n o.dst=true) (K0:Kt),O0 ops o (p9 ops R ts0 (down k)) true->dR P tab et d o.op (X5 (p9 ops R ts0 (down k))) (D9 R os0 (down k)) K0 ->
    (∀av rd Z O,K0 av rd Z O->y7 Z (p9 ops R ts0 (down k))=true/\y5 Z O (D9 R os0 (down k))=true/\jn ops o k y M m rd O av=true/\ji P tab et k y M N m (T9 o.dst av (p9 ops R ts0 (down k))) (O++D9 R os0 (down k)) (dM P tab et Γ.n ops y M (k+1) l (T9 o.dst av (p9 ops R ts0 (down k))) (O++D9 R os0 (down k)) (dU k rd Z O m) (gU k y o (p9 ops R ts0 (down k)) av rd Z O N) K)) ->
    ∃C,Lex P Γ ops C ts0 os0 ops.length/\K (p9 ops C ts0 (down ops.length)) (D9 C os0 (down ops.length)):=by
   intro d dst K0 G hst hK0;obtain⟨c,f⟩:=S;have hev:∀x∈o.op.operands.toList,Rd c w (a.eval x) (X5 (p9 ops R ts0 (down k)) x):=fun x _=>gM f.rel.ts x;obtain⟨av,need,upd,news,U,g,p,hKK⟩:=bD hT hE d hst ⟨c,w,a.eval,f.rel.a8,hev⟩;obtain⟨f1,f2,f3,b⟩:=hK0 _ _ _ _ hKK;let r:L6:=⟨av,need,upd,news⟩;have z:=oF (r:=r) (R:=R) u p;have V:q8 R k r k=r:=by unfold q8;rw[Af rfl]
   have E:p9 ops (q8 R k r) ts0 (down (k+1))=T9 o.dst av (p9 ops R ts0 (down k)):=by
    simp only[down,p9,dp R k r k (AA _),ho,V];cases X:o.dst<;>simp[T9,X,r]
   have B:D9 (q8 R k r) os0 (down (k+1))=upd++D9 R os0 (down k):=by
    simp only[down,D9,fL R k r k (AA _),V];rfl
   have hgo:=U c w a.eval (f.rel.a8.sub g) hev;obtain⟨v,w',c',hp,hv⟩:=hgo.inst;obtain⟨g1,g2⟩:=Y5 f2;have I:l9 Γ (T9 o.dst av (p9 ops R ts0 (down k))) (upd++D9 R os0 (down k)) (a.put o.dst v) w':=by
    refine⟨c',⟨by rw[put_defers];exact f.rel.defers,by rw[hZ];exact f.rel.n,f.rel.ts.put (f.rel.a8.sub g) hp (hA f1) hv (by rw[f.rel.n];exact dst),f.rel.a8.frame g hp p g1,f.rel.inv.post f.rel.a8 g hp p g1⟩,fun id t=>?_⟩;have hno:id ∉ news:=fun hm=>by have:=g2 id hm;omega
    have h1:=hp.ctx id hno;have h2:=f.same id t;exact⟨h1.1.trans h2.1,h1.2.trans h2.2⟩
   have T:(k=M->en P ops (q8 R k r) ts0 os0 y k)/\dM P tab et Γ.n ops y M (k+1) l (T9 o.dst av (p9 ops R ts0 (down k))) (upd++D9 R os0 (down k)) (dU k (need.map (·.1)) news upd m) (gU k y o (p9 ops R ts0 (down k)) av (need.map (·.1)) news upd N) K:=by
    unfold ji at b;split at b
    ·rename_i hkm;split at b
     ·rename_i s;obtain⟨⟨q1,q2,q3⟩,q4⟩:=b;refine⟨fun _=>?_,q4⟩;obtain⟨s1,s2,s3,s4,s5,s6,s7⟩:=L s rfl;have D:q8 R k r y=R y:=by unfold q8;rw[Ae d9]
      obtain⟨c2,Q⟩:=I;have hev2:∀x∈s.o.op.operands.toList,Rd c2 w' ((a.put o.dst v).eval x) (X5 s.ts x):=fun x hx=>by
       rw[<-nj q2 x hx];exact gM Q.rel.ts x
      obtain⟨av2,Y,upd2,news2,t1,t2,t3,t4,t5,t6,t7⟩:=bD hT hE 0 q3 ⟨c2,w',(a.put o.dst v).eval,Q.rel.a8,hev2⟩;subst t4;rw[t5,t6] at t1;refine⟨by rw[D];exact s6,by rw[D];exact s7,fun j hj hjk id t=>?_,s.o,Y,s2,?_,?_,fun id t=>?_⟩
      ·have ej:q8 R k r j=R j:=by unfold q8;rw[Ae d9]
       rw[ej] at t;rw[D,s5];rcases u j hjk with h|⟨x,hx,rfl,_,h3,_⟩
       ·rw[h.2.1] at t;cases t
       ·have:=AD.1 q1 x hx;have F:AH y x.k=true:=Nat.ble_eq_true_of_le hj;rw[F,AQ,Bool.false_or] at this;rw[h3] at this;exact Z5 this id t
      ·rw[dp R k r y d9,D,<-s3,s4];exact t1
      ·rw[B];exact t2
      ·rw[D,s5];have:=AD.1 t7 id t;simpa using this
     ·exact b.elim
    ·rename_i hkm;exact⟨fun e=>by subst e;simp at hkm,b⟩
   have W:=hL.step (r:=r) ho (.inl ⟨G,U,g,p,f1,f2⟩) dst (fun i hi hw=>(sW (r:=r) u f3 i hi hw).imp (fun h=>h) fun h=>h.imp (fun h=>h) fun⟨e1,e2⟩=>by subst e1;exact T.1 e2);exact lf hT hE y M l (k+1) (q8 R k r) _ _ K (ei.save (r:=r) L ho) (by rw[E,B];exact T.2) W z hl' H ⟨_,_,by rw[E,B];exact I⟩
  have skip:cd Γ.n o.dst=true->O0 ops o (p9 ops R ts0 (down k)) false->dM P tab et Γ.n ops y M (k+1) l (T9 o.dst (.aS []) (p9 ops R ts0 (down k))) (D9 R os0 (down k)) m N K ->
    ∃C,Lex P Γ ops C ts0 os0 ops.length/\K (p9 ops C ts0 (down ops.length)) (D9 C os0 (down ops.length)):=by
   intro dst G b;let r:L6:=⟨.aS [],[],[],[]⟩;have W:=hL.step (r:=r) ho (.inr ⟨G,rfl⟩) dst (fun i hi hw=>⟨⟨fun id _ h=>(by cases h),fun id _ h=>(by cases h),fun id _ h=>(by cases h)⟩,.inl fun id h=>(by cases h)⟩);have z:ed (q8 R k r) (k+1) m:=fun i hi=>by
    by_cases h:i=k
    ·subst h;have V:q8 R i r i=r:=by unfold q8;rw[Af rfl]
     rw[V];exact .inl ⟨rfl,rfl,rfl⟩
    ·have eo:q8 R k r i=R i:=by unfold q8;rw[Ae h]
     rw[eo];exact u i d9
   have V:q8 R k r k=r:=by unfold q8;rw[Af rfl]
   have E:p9 ops (q8 R k r) ts0 (down (k+1))=T9 o.dst (.aS []) (p9 ops R ts0 (down k)):=by
    simp only[down,p9,dp R k r k (AA _),ho,V];cases X:o.dst<;>simp[T9,X,r]
   have B:D9 (q8 R k r) os0 (down (k+1))=D9 R os0 (down k):=by
    simp only[down,D9,fL R k r k (AA _),V];rfl
   exact lf hT hE y M l (k+1) (q8 R k r) m N K L.step (by rw[E,B];exact b) W z hl' H ⟨_,_,by rw[E,B];exact iA (o:=o) S dst⟩
  unfold dM at h;split at h
  ·rename_i d hd;split at h
   ·rename_i hdl;have q:cd Γ.n o.dst=true:=by rw[hd];exact hdl
    rcases jT h with⟨G,h⟩|⟨G,h⟩
    ·refine ew d q _ G h fun av rd Z O J=>?_;split at J
     ·rename_i F;simp only[A7] at F;rw[force_eq,dq] at J;exact⟨F.1.1,F.1.2,F.2,by rw[hd];exact J⟩
     ·exact J.elim
    ·exact skip q G (by rw[hd];exact h)
   ·exact h.elim
  ·rename_i hd;have q:cd Γ.n o.dst=true:=by rw[hd];rfl
   rcases jT h with⟨G,h⟩|⟨G,h⟩
   ·refine ew 0 q _ G h fun av rd Z O J=>?_;split at J
    ·rename_i F;simp only[A7] at F;rw[dq] at J;exact⟨F.1.1,F.1.2,F.2,by rw[hd];exact J⟩
    ·exact J.elim
   ·exact skip q G (by rw[hd];exact h)
theorem j4.il (x:D5 P tab) (t:R5 P et) {n:Nat} (z:Γ.n=n) (y:P.follows .mixedOrders=true) {id:Nat} {l:Array Oper} (hd:O6 l.toList=true) {ts:Ts} {os:Os} {Q:Qt} (q r:Nat) (h:Y0 ts fun ts=>dM P tab et n l.toList q r 0 l.toList ts os [] none (Q .normal)):j4 P Γ (.region id l true) ts os Q:=by
 subst z;rw[gA] at h;refine⟨fun a w A=>wp_region_any y ?_⟩;have c:=A.drew;obtain⟨R,v,u⟩:=lf (ops:=l.toList) (ts0:=ts) (os0:=os) x t q r l.toList 0 (fun _=>default) [] none _ (fun s B=>by cases B) h ⟨fun k o b=>absurd b d9,fun k o b=>absurd b d9,fun i k o _ b=>absurd b d9⟩ (fun i g=>absurd g d9) (fun j=>by rw[Nat.zero_add]) d9 ⟨_,_,c⟩;have:=oV (Q:=fun e p w'=>∃ex f d,ez e ex/\Q ex f d/\l9 Γ f d p w') hd v (fun p w' m=>⟨.normal,_,_,trivial,u,m⟩) l.toList.length (Array.replicate l.size false) [] a _ (lD hd 0 (Nat.zero_le _)) (fun i g=>by
  have:i<l.size:=by simpa using g
  simp[this]) o7 o7 c
 simpa using this
end
end
section
variable {P:Program} {tab:E5} {et:Q8} {Γ:H7}
structure fu (P:Program) (Γ:H7) (ops l:List Oper) (ts:Ts) (os:Os) (Q:Qt):Prop where
 run:∀a w,l9 Γ ts os a w->wpList P ops.toArray (fun e a' w'=>∃ex ts' os',ez e ex/\Q ex ts' os'/\l9 Γ ts' os' a' w') l a w
theorem j4.ops {id:Nat} {l:Array Oper} {ts:Ts} {os:Os} {Q:Qt} (h:fu P Γ l.toList l.toList ts os Q):j4 P Γ (.region id l false) ts os Q :=
 ⟨fun a w b=>wp_region_list (by simpa using h.run a w b)⟩
theorem fu.done {ops:List Oper} {ts:Ts} {os:Os} {Q:Qt} (h:Q .normal ts os):fu P Γ ops [] ts os Q:=⟨fun a w b=>⟨.normal,ts,os,trivial,h,b⟩⟩
theorem j4.seq {x y:Code} {ts:Ts} {os:Os} {Q:Qt} (h:j4 P Γ x ts os fun e c b=>match e with
  |.normal=>j4 P Γ y c b Q
  |.exit id=>Q (.exit id) c b
  |.ret=>Q .ret c b):j4 P Γ (.seq x y) ts os Q:=by
 refine⟨fun a w j=>wp_seq (wp_mono (h.run a w j) fun e i w' ⟨ex,c,b,d,f,g⟩=>?_)⟩;cases e<;>cases ex<;>simp only[ez] at d<;>first|exact d.elim|skip
 ·exact f.run i w' g
 ·subst d;exact⟨.exit _,c,b,rfl,f,g⟩
 ·exact⟨.ret,c,b,trivial,f,g⟩
theorem j4.cut {ι:Type} (St:ι->Ts) (g:ι->Os) {x y:Code} {ts:Ts} {os:Os} {Q:Qt} (h:j4 P Γ x ts os fun e c b=>match e with
  |.normal=>∃i f,U9 c b (St i) (g i) f
  |.exit id=>Q (.exit id) c b
  |.ret=>Q .ret c b) (m:∀i,((St i).all fun p=>AH p.1 Γ.n)=true) (k:∀i,j4 P Γ y (St i) (g i) Q):j4 P Γ (.seq x y) ts os Q:=by
 refine j4.seq ⟨fun a w o=>wp_mono (h.run a w o) fun e r w' ⟨ex,c,b,j,d,l⟩=>⟨ex,c,b,j,?_,l⟩⟩;cases ex with
 |normal =>
  obtain⟨i,f,q⟩:=d;exact j4.sub f q (m i) (k i)
 |exit id=>exact d
 |ret=>exact d
def Gh (Γ:H7) (ts:Ts) (os:Os) {ι:Type} (T:ι->Ts) (O:ι->Os):Prop:=∀a w,l9 Γ ts os a w->∃x,l9 Γ (T x) (O x) a w
theorem j4.gh {ι:Type} {c:Code} {ts:Ts} {os:Os} {T:ι->Ts} {O:ι->Os} {Q:Qt} (g:Gh Γ ts os T O) (h:∀x,j4 P Γ c (T x) (O x) Q):j4 P Γ c ts os Q :=
 ⟨fun a w b=>let ⟨x,d⟩:=g a w b;(h x).run a w d⟩
theorem fu.gh {ι:Type} {ops l:List Oper} {ts:Ts} {os:Os} {T:ι->Ts} {O:ι->Os} {Q:Qt} (g:Gh Γ ts os T O) (h:∀x,fu P Γ ops l (T x) (O x) Q):fu P Γ ops l ts os Q :=
 ⟨fun a w b=>let ⟨x,c⟩:=g a w b;(h x).run a w c⟩
structure J7 (Γ:H7) (ts:Ts) (os:Os) (Q:Qt):Prop where
 run:∀a w,l9 Γ ts os a w->∃ts' os',Q .normal ts' os'/\l9 Γ ts' os' a w
theorem J7.done {ts:Ts} {os:Os} {Q:Qt} (h:Q .normal ts os):J7 Γ ts os Q:=⟨fun a w b=>⟨ts,os,h,b⟩⟩
theorem J7.gh {ι:Type} {ts:Ts} {os:Os} {T:ι->Ts} {O:ι->Os} {Q:Qt} (g:Gh Γ ts os T O) (h:∀x,J7 Γ (T x) (O x) Q):J7 Γ ts os Q :=
 ⟨fun a w b=>let ⟨x,c⟩:=g a w b;(h x).run a w c⟩
theorem j4.snoc {c:Code} {ts:Ts} {os:Os} {Q:Qt} (h:j4 P Γ c ts os fun e d b=>match e with
  |.normal=>J7 Γ d b Q
  |.exit id=>Q (.exit id) d b
  |.ret=>Q .ret d b):j4 P Γ c ts os Q:=by
 refine⟨fun a w m=>wp_mono (h.run a w m) fun e l w' ⟨ex,d,b,f,g,i⟩=>?_⟩;cases e<;>cases ex<;>simp only[ez] at f<;>first|exact f.elim|skip
 ·obtain⟨k,j,n,o⟩:=g.run l w' i;exact⟨.normal,k,j,trivial,n,o⟩
 ·subst f;exact⟨.exit _,d,b,rfl,g,i⟩
 ·exact⟨.ret,d,b,trivial,g,i⟩
theorem Gh.of {ι:Type} {ts:Ts} {os need:Os} {ex:ι->Ts} {upd:ι->Os} {news:List Nat} (e:e6 need os) (q:y7 news ts=true) (r:∀x,y5 news (upd x) os=true) (f:∀x,(news.all fun i=>(lk (upd x) i).isSome)=true)
  (I:∀c w,F6 c w need->(∃a,ch c w ts a)->∃x c',aD c w c' w need (upd x) news/\∀t y,lk (ex x) t=some y->∃z,lk ts t=some z/\∀v,Rd c w v z->Rd c' w v y):Gh Γ ts os (fun x=>ex x++ts) (fun x=>upd x++os):=by
 rintro a w ⟨c,⟨D,E,n,l,F⟩,G⟩;have m:=hJ e;obtain⟨x,c',b,p⟩:=I c w (l.sub m) ⟨a,n⟩;have k:∀id∈news,(lk (upd x) id).isSome=true:=fun id h=>by simpa using AD.1 (f x) id h
 obtain⟨B,C⟩:=Y5 (r x);refine⟨x,c',⟨D,E,fun t y d=>?_,l.frame m b k B,F.post l m b k B⟩,fun id s=>?_⟩
 ·rw[x9] at d;cases o:lk (ex x) t with
  |some K =>
   rw[o] at d;simp at d;subst d;obtain⟨z,J,A⟩:=p t K o;obtain⟨v,g,j⟩:=n t z J;exact⟨v,g,A v j⟩
  |none =>
   rw[o] at d;simp at d;obtain⟨v,g,j⟩:=n t y d;exact⟨v,g,j.post b (l.sub m) (hA q t y d)⟩
 ·have u:id ∉ news:=fun H=>by have:=C id H;omega
  have g:=b.ctx id u;have j:=G id s;exact⟨g.1.trans j.1,g.2.trans j.2⟩
theorem aD.same {c c':Ctx} {w:World} {need upd:Os} {news:List Nat} (h:F6 c w need) (a:c'.Φ=c.Φ) (e:∀id,id ∉ news->c'.μ id=c.μ id/\c'.hd id=c.hd id) (rep:∀id o,lk upd id=some o->V3 c' w id o)
  (ab:∀id o b,lk upd id=some o->aI c' id o b->Touch c need upd b) (sep:∀id d o g b,id≠d->lk upd id=some o->lk upd d=some g->aI c' id o b->¬aI c' d g b):aD c w c' w need upd news:=by
 refine⟨rfl,rfl,rfl,AA _,fun b f=>by rw[a];exact f,fun b f=>.inl (by rw[a] at f;exact f),fun _ _ _=>rfl,e,⟨rep,fun id o b k j=>?_,sep,by rw[a];exact h.aX⟩,fun id o b k j=>.inr (ab id o b k j)⟩;obtain⟨i,g,l,_,m⟩:=ab id o b k j;rw[a];exact h.lt i g b l m
def cX {b:Type} {a i:Nat} {x o:b} (h:lk [(a,x)] i=some o):i=a/\o=x:=by
 rw[j5] at h;split at h
 ·rename_i e;cases h;exact⟨e.symm,rfl⟩
 ·cases h
def bz {c:Type} {a b i:Nat} {x y o:c} (h:lk [(a,x),(b,y)] i=some o):(i=a/\o=x)\/(i≠a/\i=b/\o=y):=by
 rw[j5] at h;split at h
 ·rename_i e;cases h;exact .inl ⟨e.symm,rfl⟩
 ·rename_i e;exact .inr ⟨fun h=>e h.symm,cX h⟩
def bZ {j:Type} {a b c i:Nat} {x y z o:j} (h:lk [(a,x),(b,y),(c,z)] i=some o):(i=a/\o=x)\/(i≠a/\i=b/\o=y)\/(i≠a/\i≠b/\i=c/\o=z):=by
 rw[j5] at h;split at h
 ·rename_i e;cases h;exact .inl ⟨e.symm,rfl⟩
 ·rename_i e;rcases bz h with h|⟨d,f,g⟩
  ·exact .inr (.inl ⟨fun h=>e h.symm,h⟩)
  ·exact .inr (.inr ⟨fun h=>e h.symm,d,f,g⟩)
def K7 {i j:Nat} (h:A4 i j=false):i≠j:=fun e=>by rw[e] at h;simp at h
theorem F7.vR {Φ:Nat->Prop} {w:World} {v:Value} {sz e:Nat} {ls:List (List AV)} (h:F7 Φ w v sz ls e):∃h:Hd,v=h.v/\h.n=ls.length/\h.n<=h.c/\h.c<=maxLen:=by
 obtain⟨css,d,f,g⟩:=h;obtain⟨A,cap,e1,a,b⟩:=d.head;exact⟨⟨A,css.length,cap⟩,e1,f,a,b⟩
theorem dr.cons {Φ:Nat->Prop} {w:World} {sz e:Nat} {p:Hd×List (List AV)} {l:List (Hd×List (List AV))}:dr Φ w sz (p::l) e↔F7 Φ w p.1.v sz p.2 e/\dr Φ w sz l e/\∀q∈l,∀b,p.1.v.ownBlock=some b->q.1.v.ownBlock=some b->False:=by
 constructor
 ·rintro⟨c,d⟩;obtain⟨f,g⟩:=List.pairwise_cons.1 d;exact⟨c p o7,⟨fun q a=>c q (by simp[a]),g⟩,f⟩
 ·rintro⟨c,d,f⟩;exact⟨fun q a=>by rcases AF.1 a with rfl|a;exact c;exact d.1 q a,List.pairwise_cons.2 ⟨f,d.2⟩⟩
theorem Gh.open {ts:Ts} {os:Os} (t id j k:Nat) {sz e isz ie:Nat} {l:List (List AV×List (List AV))} (f:lk ts t=some (.bF id)) (D:lk os id=some (.nest sz e isz ie l)) (g:A4 j k=false) (m:A4 j id=false) (r:A4 k id=false)
  (B:y7 [j,k] ts=true) (C:∀z,y5 [j,k] [(j,.row sz (c7 z) e),(k,.pins isz (cY z) ie),(id,.aH)] os=true) :
  Gh Γ ts os (fun _:{ z:List (Hd×List AV×List (List AV)) // z.map (·.2)=l }=>(t,.aF j)::ts) (fun z=>(j,.row sz (c7 z.1) e)::(k,.pins isz (cY z.1) ie)::(id,.aH)::os):=by
 have g:=K7 g;have m:=K7 m;have r:=K7 r;refine Gh.of (ι:={ z:List (Hd×List AV×List (List AV)) // z.map (·.2)=l }) (need:=[(id,.nest sz e isz ie l)]) (upd:=fun z=>[(j,.row sz (c7 z.1) e),(k,.pins isz (cY z.1) ie),(id,.aH)]) (ex:=fun _=>[(t,.aF j)]) (news:=[j,k]) ⟨D,trivial⟩ B (fun _=>C _) (fun _=>by simp[j5,g]) fun c w a8 _=>?_;obtain⟨h,z,e0,e1,Q,S,T⟩:=a8.rep id _ (j3 _ _ _);have x:(c.aB j h.v).hd j=h.v:=by simp[Ctx.aB]
 have H:∀b,(∃v∈X7 (c.hd id),v.ownBlock=some b)->Touch c [(id,.nest sz e isz ie l)] [(j,.row sz (c7 z) e),(k,.pins isz (cY z) ie),(id,.aH)] b:=fun b s=>⟨id,_,j3 _ _ _,by rw[E8 _ _ m,E8 _ _ r,j3];rfl,s⟩;rw[e0] at H;refine⟨⟨z,e1⟩,c.aB j h.v,aD.same a8 rfl (fun i M=>⟨rfl,by simp[Ctx.aB,show i≠j by rintro rfl;simp at M]⟩) (fun i o f=>?_) (fun i o b f a=>?_) (fun i U o V b u f E a d=>?_),fun W y O=>?_⟩
 ·rcases bZ f with⟨rfl,rfl⟩|⟨_,rfl,rfl⟩|⟨_,_,rfl,rfl⟩
  ·show F7 _ w ((c.aB i h.v).hd i) sz (c7 z) e;rw[x];exact Q
  ·exact S
  ·trivial
 ·rcases bZ f with⟨rfl,rfl⟩|⟨_,rfl,rfl⟩|⟨_,_,rfl,rfl⟩
  ·exact H b ⟨h.v,by simp[X7],by have:((c.aB i h.v).hd i).ownBlock=some b:=a;rwa [x] at this⟩
  ·obtain⟨p,F,s⟩:=a;obtain⟨q,G,rfl⟩:=AI.1 F;exact H b ⟨q.1.v,by show _∈(h.v::z.map (·.1.v)).toArray.toList;exact List.mem_cons_of_mem _ (AI.2 ⟨q,G,rfl⟩),s⟩
  ·exact a.elim
 ·have apart:∀b,((c.aB j h.v).hd j).ownBlock=some b->(∃p∈cY z,p.1.v.ownBlock=some b)->False:=fun b L ⟨p,F,s⟩=>by
   obtain⟨q,G,rfl⟩:=AI.1 F;exact T b q (by rwa [x] at L) G s
  rcases bZ f with⟨rfl,rfl⟩|⟨_,rfl,rfl⟩|⟨_,_,rfl,rfl⟩<;>rcases bZ E with⟨rfl,rfl⟩|⟨_,rfl,rfl⟩|⟨_,_,rfl,rfl⟩<;>first|exact u rfl|exact a.elim|exact d.elim|exact apart b a d|exact apart b d a
 ·obtain⟨rfl,rfl⟩:=cX O;refine⟨_,f,fun v N=>?_⟩;obtain⟨A,n,cap,vs,f1,I,J,f4⟩:=N.eX;rw[e0] at I;have K:h.v::z.map (·.1.v)=Value.slice A n cap::vs:=by simpa using I
  rw[f1];exact .aF (x.trans (List.cons.inj K).1) J f4
theorem Gh.close {ts:Ts} {os:Os} (t j k id:Nat) {sz e isz ie:Nat} {ls:List (List AV)} {K:List (Hd×List (List AV))} (z:List (Hd×List AV×List (List AV))) (d:lk ts t=some (.aF j)) (S:lk os j=some (.row sz ls e)) (T:lk os k=some (.pins isz K ie)) (B:ls=c7 z) (C:K=cY z)
  {l:List (List AV×List (List AV))} (D:z.map (·.2)=l) (a:A4 j k=false) (f:A4 j id=false) (g:A4 k id=false) (F:y7 [id] ts=true) (G:y5 [id] [(id,.nest sz e isz ie l),(j,.aH),(k,.aH)] os=true) :
  Gh Γ ts os (fun _:Unit=>(t,.bF id)::ts) (fun _=>(id,.nest sz e isz ie l)::(j,.aH)::(k,.aH)::os):=by
 have a:=K7 a;have f:=K7 f;have g:=K7 g;subst B C;refine Gh.of (need:=[(j,.row sz (c7 z) e),(k,.pins isz (cY z) ie)]) (upd:=fun _=>[(id,.nest sz e isz ie l),(j,.aH),(k,.aH)]) (ex:=fun _=>[(t,.bF id)]) (news:=[id]) ⟨S,T,trivial⟩ F (fun _=>G) (fun _=>by simp[j5]) fun c w a8 _=>?_;have I:lk [(j,Obj.row sz (c7 z) e),(k,.pins isz (cY z) ie)] j=some (.row sz (c7 z) e):=j3 _ _ _;have q:lk [(j,Obj.row sz (c7 z) e),(k,.pins isz (cY z) ie)] k=some (.pins isz (cY z) ie):=by rw[E8 _ _ a,j3]
 have L:F7 c.Φ w (c.hd j) sz (c7 z) e:=a8.rep j _ I;have rk:dr c.Φ w isz (cY z) ie:=a8.rep k _ q;obtain⟨h,e1,-⟩:=L.vR;have x:(c.aB id (.tuple (h.v::z.map (·.1.v)).toArray)).hd id=.tuple (h.v::z.map (·.1.v)).toArray:=by simp[Ctx.aB]
 refine⟨(),c.aB id (.tuple (h.v::z.map (·.1.v)).toArray),aD.same a8 rfl (fun i Q=>⟨rfl,by simp[Ctx.aB,show i≠id by simpa using Q]⟩) (fun i o d=>?_) (fun i o b d s=>?_) (fun i W o X b r d H s E=>?_),fun Y y V=>?_⟩
 ·rcases bZ d with⟨rfl,rfl⟩|⟨_,rfl,rfl⟩|⟨_,_,rfl,rfl⟩
  ·show fM _ w _ sz e isz ie l;rw[x];refine⟨h,z,rfl,D,e1▸L,rk,fun b p B C D=>?_⟩;exact a8.sep j k _ _ b a I q (show(c.hd j).ownBlock=some b by rw[e1];exact B) ⟨(p.1,p.2.2),AI.2 ⟨p,C,rfl⟩,D⟩
  ·trivial
  ·trivial
 ·rcases bZ d with⟨rfl,rfl⟩|⟨_,rfl,rfl⟩|⟨_,_,rfl,rfl⟩
  ·obtain⟨v,u,J⟩:=s;rw[x] at u;have m:v∈h.v::z.map (·.1.v):=u;rcases AF.1 m with rfl|m
   ·exact⟨j,_,I,by rw[E8 _ _ (Ne.symm f),j3];rfl,by show(c.hd j).ownBlock=_;rw[e1];exact J⟩
   ·obtain⟨p,U,rfl⟩:=AI.1 m;exact⟨k,_,q,by rw[E8 _ _ (Ne.symm g),E8 _ _ a,j3];rfl,⟨(p.1,p.2.2),AI.2 ⟨p,U,rfl⟩,J⟩⟩
  ·exact s.elim
  ·exact s.elim
 ·rcases bZ d with⟨rfl,rfl⟩|⟨_,rfl,rfl⟩|⟨_,_,rfl,rfl⟩<;>rcases bZ H with⟨rfl,rfl⟩|⟨_,rfl,rfl⟩|⟨_,_,rfl,rfl⟩<;>first|exact r rfl|exact s.elim|exact E.elim
 ·obtain⟨rfl,rfl⟩:=cX V;refine⟨_,d,fun v u=>?_⟩;obtain⟨A,n,cap,f1,M,N,f4⟩:=u.aj;have O:h.v=.slice A n cap:=e1.symm.trans M;rw[f1];exact .bF (vs:=z.map (·.1.v)) (by rw[x,O]) N f4
theorem Gh.fF {ts:Ts} {os:Os} (r i off j j':Nat) {sz e isz ie:Nat} {ls:List (List AV)} {l:List AV} (Q:lk os r=some (.row sz ls e)) (N:ls[i]?=some l) (O:l[off]?=some .aC) (m:A4 j j'=false) (f:A4 r j=false) (p:A4 r j'=false)
  (B:y7 [j,j'] ts=true) (C:y5 [j,j'] [(r,.row sz (ls.set i (l.set off (.aU (Hd.v ⟨none,0,0⟩)))) e),(j,.row isz [] ie),(j',.eqv j (Hd.v ⟨none,0,0⟩))] os=true) :
  Gh Γ ts os (fun _:Unit=>ts) (fun _=>(r,.row sz (ls.set i (l.set off (.aU (Hd.v ⟨none,0,0⟩)))) e)::(j,.row isz [] ie)::(j',.eqv j (Hd.v ⟨none,0,0⟩))::os):=by
 have m:=K7 m;have f:=K7 f;have p:=K7 p;refine Gh.of (need:=[(r,.row sz ls e)]) (upd:=fun _=>[(r,.row sz (ls.set i (l.set off (.aU (Hd.v ⟨none,0,0⟩)))) e),(j,.row isz [] ie),(j',.eqv j (Hd.v ⟨none,0,0⟩))]) (ex:=fun _=>[]) (news:=[j,j']) ⟨Q,trivial⟩ B (fun _=>C) (fun _=>by simp[j5,m,f,p]) fun c w a8 _=>?_;obtain⟨css,V,W,J⟩:=a8.rep r _ (j3 _ _ _);have e1:(c.aB j (Hd.v ⟨none,0,0⟩)).hd j=Hd.v ⟨none,0,0⟩:=by simp[Ctx.aB]
 have G:(c.aB j (Hd.v ⟨none,0,0⟩)).hd r=c.hd r:=by simp[Ctx.aB,f]
 have d:∀b,((c.aB j (Hd.v ⟨none,0,0⟩)).hd j).ownBlock=some b->False:=fun b H=>by
  rw[e1] at H;cases H
 refine⟨(),c.aB j (Hd.v ⟨none,0,0⟩),aD.same a8 rfl (fun id D=>⟨rfl,by simp[Ctx.aB,show id≠j by rintro rfl;simp at D]⟩) (fun id o x=>?_) (fun id o b x s=>?_) (fun id U o Z b t x E s u=>?_),fun t' y T=>(by cases T)⟩
 ·rcases bZ x with⟨rfl,rfl⟩|⟨_,rfl,rfl⟩|⟨_,_,rfl,rfl⟩
  ·show F7 c.Φ w ((c.aB j (Hd.v ⟨none,0,0⟩)).hd id) sz _ e;rw[G];refine⟨css,V,by simpa using W,fun n us z I q=>?_⟩;rw[AL] at q;split at q
   ·rename_i L;subst L;split at q
    ·cases q;have A:=J i us l I N;obtain⟨v,X,Y⟩:=A.get O;have S:v=Hd.v ⟨none,0,0⟩:=by cases Y;rfl
     have g:=(l6.af (c:=c) A).set off (v:=v) (a:=.aU (Hd.v ⟨none,0,0⟩)) (by rw[S];exact .fz (.aU _));have F:us.set off v=us:=by
      apply AT;intro k;rw[AL];split
      ·rename_i K;subst K;split
       ·exact X.symm
       ·rw[AS d9]
      ·rfl
     rw[F] at g;exact g.eC (iD.2 fun a M=>by
      rcases List.mem_or_eq_of_mem_set M with h|h
      ·exact iD.1 A.ids a h
      ·rw[h];rfl)
    ·cases q
   ·exact J n us z I q
  ·show F7 c.Φ w ((c.aB id (Hd.v ⟨none,0,0⟩)).hd id) isz [] ie;rw[e1];exact⟨[],⟨.inl ⟨rfl,rfl⟩,o7,o7⟩,rfl,fun i us l h=>by simp at h⟩
  ·exact e1
 ·rcases bZ x with⟨rfl,rfl⟩|⟨_,rfl,rfl⟩|⟨_,_,rfl,rfl⟩
  ·exact⟨id,_,j3 _ _ _,by rw[j3];rfl,by have:((c.aB j (Hd.v ⟨none,0,0⟩)).hd id).ownBlock=some b:=s;rw[G] at this;exact this⟩
  ·exact(d b s).elim
  ·exact s.elim
 ·rcases bZ x with⟨rfl,rfl⟩|⟨_,rfl,rfl⟩|⟨_,_,rfl,rfl⟩<;>rcases bZ E with⟨rfl,rfl⟩|⟨_,rfl,rfl⟩|⟨_,_,rfl,rfl⟩<;>first|exact t rfl|exact s.elim|exact u.elim|exact d b s|exact d b u
theorem Gh.nil {ts:Ts} {os:Os} (t:Nat) {sz:Nat} {ls:List (List AV)} (y:lk ts t=some (.sl sz ls)):Gh Γ ts os (fun b:{ b:Bool // b=true->ls=[] }=>(t,.cS b.1)::ts) (fun _=>os):=by
 rintro a w ⟨c,⟨l,m,f,n,q⟩,s⟩;obtain⟨v,i,j⟩:=f t _ y;obtain⟨A,k,us,b,o,e1,B,C,h,_⟩:=j.eZ;have u:Rd c w v (.cS A.isNone):=by rw[e1];exact .fz (.cS _ _ _)
 refine⟨⟨A.isNone,fun g=>?_⟩,c,⟨l,m,fun z x d=>?_,n,q⟩,s⟩
 ·cases ls with
  |nil=>rfl
  |cons p r =>
   rw[(h o7).1] at g;cases g
 ·rw[j5] at d;split at d
  ·rename_i e;subst e;cases d;exact⟨v,i,u⟩
  ·exact f z x d
theorem Gh.aw {ts:Ts} {os:Os} (d j':Nat) {sz e i off x:Nat} {ls:List (List AV)} (u:lk os d=some (.aw sz ls e i off x)) (a:A4 d j'=false) (l:y7 [j'] ts=true) (m:∀h:Hd,y5 [j'] [(d,.row sz (eM ls i off (.aU h.v)) e),(j',.eqv x h.v)] os=true) (r:A4 x j'=false) :
  Gh Γ ts os (fun _:Hd=>ts) (fun h=>(d,.row sz (eM ls i off (.aU h.v)) e)::(j',.eqv x h.v)::os):=by
 have a:=K7 a;have r:=K7 r;refine Gh.of (need:=[(d,.aw sz ls e i off x)]) (upd:=fun h:Hd=>[(d,.row sz (eM ls i off (.aU h.v)) e),(j',.eqv x h.v)]) (ex:=fun _=>[]) (news:=[j']) ⟨u,trivial⟩ l m (fun _=>by simp[j5,a]) fun c w a8 _=>?_;obtain⟨v,t,q⟩:=a8.rep d _ (j3 _ _ _);obtain⟨A,n,cap,e1,s,-⟩:=t.aj;refine⟨⟨A,n,cap⟩,c,aD.same a8 rfl (fun _ _=>⟨rfl,rfl⟩) (fun id o g=>?_) (fun id o b g j=>?_) (fun id B o C b f g p j k=>?_),fun D y z=>(by cases z)⟩
 ·rcases bz g with⟨rfl,rfl⟩|⟨_,rfl,rfl⟩
  ·rw[e1] at q;exact q
  ·exact s
 ·rcases bz g with⟨rfl,rfl⟩|⟨_,rfl,rfl⟩
  ·exact⟨id,_,j3 _ _ _,by rw[j3];rfl,j⟩
  ·exact j.elim
 ·rcases bz g with⟨rfl,rfl⟩|⟨_,rfl,rfl⟩<;>rcases bz p with⟨rfl,rfl⟩|⟨_,rfl,rfl⟩<;>first|exact f rfl|exact j.elim|exact k.elim
theorem Gh.bb {ts:Ts} {os:Os} (t id:Nat) {a:List AV} {e:Nat} (i:lk ts t=some (.ptr id 0)) (d:lk os id=some (.box a e)) (g:AV.aY a=[]):Gh Γ ts os (fun _:Unit=>(t,.fp a)::ts) (fun _=>(id,.aH)::os) :=
 Gh.of (need:=[(id,.box a e)]) (upd:=fun _=>[(id,.aH)]) (ex:=fun _=>[(t,.fp a)]) (news:=[]) ⟨d,trivial⟩ rfl (fun _=>rfl) (fun _=>rfl) fun c w a8 _=>⟨(),c.fz [(id,.box a e)],aD.freeze a8,fun o y l=>by
  obtain⟨rfl,rfl⟩:=cX l;refine⟨_,i,fun v k=>?_⟩;obtain⟨us,m,n⟩:=a8.rep id _ (j3 _ _ _);rw[k.bK];refine .fz (.fp (us:=us) (.inr ⟨id,_,j3 _ _ _,rfl⟩) (fun j u h=>?_) (o9.mono (fun _ _=>rfl) (fun b f=>.inl f) (l6.eC g n)));unfold World.cell?;simp only[Nat.zero_add,m];simpa using h⟩
end
def sw (a b i:Nat):Nat:=bif A4 i a then b else bif A4 i b then a else i
def uy (a b i:Nat):sw a b i=if i=a then b else if i=b then a else i:=by
 unfold sw;by_cases h:i=a
 ·subst h;simp
 ·have e:A4 i a=false:=by cases q:A4 i a;rfl;exact absurd (A9 q) h
  rw[e,Ae h];by_cases c:i=b
  ·subst c;simp
  ·have e:A4 i b=false:=by cases q:A4 i b;rfl;exact absurd (A9 q) c
   rw[e,Ae c];rfl
def uu (a b i:Nat):sw a b (sw a b i)=i:=by
 simp only[uy];split<;>split<;>(try split)<;>omega
mutual
theorem AV.bL {d:Nat->Nat} (h:∀i,d (d i)=i):∀a:AV,(a.ar d).ar d=a
 |.ptr id off=>by simp only[AV.ar,h]
 |.aF id=>by simp only[AV.ar,h]
 |.bX id n=>by simp only[AV.ar,h]
 |.bn id n sz=>by simp only[AV.ar,h]
 |.ep id i sz off=>by simp only[AV.ar,h]
 |.mp id=>by simp only[AV.ar,h]
 |.bF id=>by simp only[AV.ar,h]
 |.np id=>by simp only[AV.ar,h]
 |.bY b=>rfl
 |.fn f c=>by simp only[AV.ar,AV.ak h c]
 |.agg c=>by simp only[AV.ar,AV.ak h c]
 |.aS c=>by simp only[AV.ar,AV.ak h c]
 |.any=>rfl
 |.int n=>rfl
 |.ik k n=>rfl
 |.bool b=>rfl
 |.str s=>rfl
 |.sl sz ls=>rfl
 |.fp c=>rfl
 |.aC=>rfl
 |.cS b=>rfl
 |.aN=>rfl
 |.aG=>rfl
 |.aU v=>rfl
theorem AV.ak {b:Nat->Nat} (h:∀i,b (b i)=i):∀l:List AV,AV.bV b (AV.bV b l)=l
 |[]=>rfl
 |a::l=>by simp only[AV.bV,AV.bL h a,AV.ak h l]
end
theorem Obj.bL {ρ:Nat->Nat} (h:∀i,ρ (ρ i)=i) (o:Obj):(o.ar ρ).ar ρ=o:=by
 cases o
 case deep sz e cols l hs sh =>
  have e1:(hs.map fun p=>(p.1,p.2.1,ρ p.2.2)).map (fun p=>(p.1,p.2.1,ρ p.2.2))=hs:=by
   rw[List.map_map];have:(fun p:Nat×Nat×Nat=>(p.1,p.2.1,ρ p.2.2))∘(fun p=>(p.1,p.2.1,ρ p.2.2))=id:=by funext p;simp[h]
   rw[this,List.map_id]
  simp only[Obj.ar,h,e1]
 all_goals simp only[Obj.ar,AV.ak h,h]
def cj (a:Nat->Nat):Os->Os
 |[]=>[]
 |(k,o)::r=>(a k,o.ar a)::cj a r
theorem fP {a:Nat->Nat} (h:∀i,a (a i)=i) (id:Nat):∀os:Os,lk (cj a os) id=(lk os (a id)).map (·.ar a)
 |[]=>rfl
 |(k,o)::r=>by
  rw[cj,j5,j5];by_cases e:k=a id
  ·rw[Af e,Af (by rw[e,h])];rfl
  ·rw[Ae e,Ae (fun q=>e (by rw[<-q,h])),fP h id r]
def kI {a:Nat->Nat} (h:∀i,a (a i)=i) {id:Nat} {os:Os} {o:Obj} (b:lk (cj a os) id=some o):lk os (a id)=some (o.ar a):=by
 rw[fP h,AW] at b;obtain⟨x,c,rfl⟩:=b;rw[c,Obj.bL h]
theorem F6.other {c:Ctx} {w:World} {a:Nat->Nat} (h:∀i,a (a i)=i) {os g:Os} (j:∀id o,lk g id=some o->lk os (a id)=some (o.ar a)) (a8:F6 c w os):F6 (c.b9 a) w g:=by
 refine⟨fun id o d=>(a8.rep _ _ (j id o d)).aW,fun id o b d k=>a8.lt _ _ b (j id o d) (U1.1 k),fun id f o p b n d m k l=>a8.sep (a id) (a f) _ _ b (fun e=>n ?_) (j id o d) (j f p m) (U1.1 k) (U1.1 l),a8.aX⟩;rw[<-h id,e,h]
def qj {c:Ctx} {a:Nat->Nat} (h:∀i,a (a i)=i) {need upd:Os} {b:Nat} (g:Touch (c.b9 a) need upd b):Touch c (cj a need) (cj a upd) b:=by
 obtain⟨id,o,d,e,f⟩:=g;refine⟨a id,o.ar a,by rw[fP h,h,d];rfl,by rw[fP h,h];simpa using e,U1.1 f⟩
theorem Spec.swap {P:Program} {f:Nat} {need upd:Os} {ins:List AV} {av:AV} {news:List Nat} (hS:Spec P f need ins av upd news) (a:Nat->Nat) (h:∀i,a (a i)=i) :
  Spec P f (cj a need) (AV.bV a ins) (av.ar a) (cj a upd) (news.map a):=by
 obtain⟨u,x,y⟩:=hS;refine⟨u,fun id j=>?_,fun c w args a8 E=>?_⟩
 ·obtain⟨i,B,rfl⟩:=AI.1 j;rw[fP h,h];simpa using x i B
 have n:F6 (c.b9 a) w need:=a8.other h fun id o k=>by rw[fP h,h,k];rfl
 have m:∀d:Ctx,(d.b9 a).b9 a=d:=fun d=>by
  cases d;simp only[Ctx.b9,h]
 refine(y (c.b9 a) w args n (l6.aW ins E)).mono fun e w' ⟨v,r,z,g,G⟩=>⟨v,r.b9 a,z,?_,?_⟩
 ·have p:∀b,Touch (c.b9 a) need upd b->Touch c (cj a need) (cj a upd) b:=fun b=>qj h;have H:∀b,Touch c (cj a need) (cj a upd) b->Touch (c.b9 a) need upd b:=fun b ⟨id,o,s,q,t⟩=>by
   refine⟨a id,o.ar a,kI h s,?_,?_⟩
   ·rw[fP h] at q;simpa using q
   ·have:aI ((c.b9 a).b9 a) id o b:=by rw[m];exact t
    exact U1.1 this
  refine⟨g.bO,g.tape,g.output,g.size,g.aX,fun b l=>(g.aV b l).imp (fun h=>h) (.imp (fun h=>h) (p b)),fun b l D=>g.aK b l fun F=>D (p b F),fun id j=>?_,g.a8.other h fun id o k=>kI h k,fun id o b k A=>?_⟩
  ·have:=g.ctx (a id) fun C=>j (AI.2 ⟨a id,C,h id⟩);simpa only[Ctx.b9,h] using this
  ·exact(g.ab (a id) _ b (kI h k) (U1.1 A)).imp (fun h=>h) (p b)
 ·exact Rd.aW (av.ar a) (by rw[AV.bL h];exact G)
theorem Spec.sw {P:Program} {f:Nat} {need upd:Os} {ins:List AV} {av:AV} {news:List Nat} (hS:Spec P f need ins av upd news) (a b:Nat) :
  Spec P f (cj (sw a b) need) (AV.bV (sw a b) ins) (av.ar (sw a b)) (cj (sw a b) upd) (news.map (sw a b)):=hS.swap _ (uu a b)
def tab : E5:=[
  (1,⟨0,1,8,[.aG],[],0,0,.i64⟩),
  (2,⟨5,1,8,[.int 0],[],0,0,.i64⟩),
  (3,⟨5,1,8,[.int 0],[],0,0,.i64⟩),
  (4,⟨6,1,1,[.bool false],[],0,0,.i64⟩),
  (5,⟨5,1,1,[.ik .u8 0],[],0,0,.u8⟩),
  (6,⟨5,1,1,[.ik .u8 0],[],0,0,.u8⟩),
  (7,⟨1,4,24,[.int 0,.int 0,.bool false,.ik .u8 0],[(0,1,false),(1,1,false),(2,1,false),(3,1,false)],0,0,.i64⟩),
  (8,⟨1,4,24,[.int 0,.int 0,.bool false,.ik .u8 0],[(0,1,false),(1,1,false),(2,1,false),(3,1,false)],0,0,.i64⟩),
  (9,⟨4,1,16,[.str AK],[],0,0,.i64⟩),
  (10,⟨4,1,16,[.str AK],[],0,0,.i64⟩),
  (11,⟨4,1,16,[.str AK],[],0,0,.i64⟩),
  (12,⟨5,1,8,[.ik .u64 0],[],0,0,.u64⟩),
  (13,⟨1,2,24,[.str AK,.ik .u64 0],[(0,1,false),(1,1,false)],0,0,.i64⟩),
  (14,⟨1,2,24,[.str AK,.ik .u64 0],[(0,1,false),(1,1,false)],0,0,.i64⟩),
  (15,⟨7,1,8,[.aN],[],163,0,.i64⟩),
  (16,⟨7,1,8,[.aN],[],166,0,.i64⟩),
  (17,⟨7,1,8,[.aN],[],173,0,.i64⟩),
  (18,⟨1,1,8,[.aN],[(0,1,false)],0,0,.i64⟩),
  (19,⟨1,1,8,[.aN],[(0,1,false)],0,0,.i64⟩),
  (20,⟨9,1,16,[.bY true],[],0,0,.i64⟩),
  (21,⟨5,1,4,[.ik .i32 0],[],0,0,.i32⟩),
  (22,⟨2,1,24,[.aC],[],41,0,.i64⟩),
  (23,⟨2,1,24,[.aC],[],68,0,.i64⟩),
  (24,⟨1,3,56,[.aC,.aC,.int 0],[(0,1,false),(1,1,false),(2,1,false)],0,0,.i64⟩),
  (25,⟨1,3,56,[.aC,.aC,.int 0],[(0,1,false),(1,1,false),(2,1,false)],0,0,.i64⟩),
  (26,⟨2,1,24,[.aC],[],5,0,.i64⟩),
  (27,⟨0,1,8,[.aG],[],0,0,.i64⟩),
  (28,⟨5,1,8,[.int 0],[],0,0,.i64⟩),
  (29,⟨0,1,8,[.aG],[],0,0,.i64⟩),
  (31,⟨0,1,8,[.aG],[],0,0,.i64⟩),
  (32,⟨0,1,8,[.aG],[],0,0,.i64⟩),
  (33,⟨0,1,8,[.aG],[],0,0,.i64⟩),
  (34,⟨0,1,8,[.aG],[],0,0,.i64⟩),
  (35,⟨0,1,8,[.aG],[],0,0,.i64⟩),
  (36,⟨0,1,8,[.aG],[],0,0,.i64⟩),
  (37,⟨0,1,8,[.aG],[],0,0,.i64⟩),
  (38,⟨8,1,8,[.any],[],4,9,.i64⟩),
  (39,⟨2,1,24,[.aC],[],46,0,.i64⟩),
  (40,⟨1,4,56,[.str AK,.int 0,.int 0,.aC],[(0,1,false),(1,1,false),(2,1,false),(3,1,false)],0,0,.i64⟩),
  (41,⟨1,4,56,[.str AK,.int 0,.int 0,.aC],[(0,1,false),(1,1,false),(2,1,false),(3,1,false)],0,1,.i64⟩),
  (42,⟨0,1,8,[.aG],[],0,0,.i64⟩),
  (43,⟨0,1,8,[.aG],[],0,0,.i64⟩),
  (44,⟨2,1,24,[.aC],[],77,0,.i64⟩),
  (45,⟨1,5,64,[.str AK,.int 0,.int 0,.int 0,.aC],[(0,1,false),(1,1,false),(2,1,false),(3,1,false),(4,1,false)],0,0,.i64⟩),
  (46,⟨1,5,64,[.str AK,.int 0,.int 0,.int 0,.aC],[(0,1,false),(1,1,false),(2,1,false),(3,1,false),(4,1,false)],0,0,.i64⟩),
  (47,⟨0,1,8,[.aG],[],0,0,.i64⟩),
  (48,⟨7,1,8,[.aN],[],25,0,.i64⟩),
  (49,⟨7,1,8,[.aN],[],46,0,.i64⟩),
  (50,⟨1,2,16,[.int 0,.int 0],[(0,1,false),(1,1,false)],0,0,.i64⟩),
  (51,⟨1,2,16,[.int 0,.int 0],[(0,1,false),(1,1,false)],0,0,.i64⟩),
  (52,⟨0,1,8,[.aG],[],0,0,.i64⟩),
  (53,⟨0,1,8,[.aG],[],0,0,.i64⟩),
  (54,⟨7,1,8,[.aN],[],56,0,.i64⟩),
  (55,⟨1,2,24,[.str AK,.bool false],[(0,1,false),(1,1,false)],0,0,.i64⟩),
  (56,⟨1,2,24,[.str AK,.bool false],[(0,1,false),(1,1,false)],0,0,.i64⟩),
  (57,⟨7,1,8,[.aN],[],62,0,.i64⟩),
  (58,⟨7,1,8,[.aN],[],60,0,.i64⟩),
  (59,⟨1,2,32,[.aN,.aC],[(0,1,false),(1,1,false)],0,0,.i64⟩),
  (60,⟨1,2,32,[.aN,.aC],[(0,1,false),(1,1,false)],0,0,.i64⟩),
  (61,⟨1,2,32,[.aN,.aC],[(0,2,true)],0,0,.i64⟩),
  (62,⟨1,2,32,[.aN,.aC],[(0,2,true)],0,0,.i64⟩),
  (63,⟨0,1,8,[.aG],[],0,0,.i64⟩),
  (64,⟨0,1,8,[.aG],[],0,0,.i64⟩),
  (65,⟨0,1,8,[.aG],[],0,0,.i64⟩),
  (66,⟨2,1,24,[.aC],[],70,0,.i64⟩),
  (67,⟨1,2,32,[.int 0,.aC],[(0,1,false),(1,1,false)],0,0,.i64⟩),
  (68,⟨1,2,32,[.int 0,.aC],[(0,1,false),(1,1,false)],0,0,.i64⟩),
  (69,⟨1,2,16,[.int 0,.int 0],[(0,1,false),(1,1,false)],0,0,.i64⟩),
  (70,⟨1,2,16,[.int 0,.int 0],[(0,1,false),(1,1,false)],0,0,.i64⟩),
  (71,⟨0,1,8,[.aG],[],0,0,.i64⟩),
  (72,⟨0,1,8,[.aG],[],0,0,.i64⟩),
  (73,⟨2,1,24,[.aC],[],9,0,.i64⟩),
  (74,⟨2,1,24,[.aC],[],3,0,.i64⟩),
  (75,⟨0,1,8,[.aG],[],0,0,.i64⟩),
  (76,⟨1,5,48,[.int 0,.int 0,.int 0,.int 0,.str AK],[(0,1,false),(1,1,false),(2,1,false),(3,1,false),(4,1,false)],0,0,.i64⟩),
  (77,⟨1,5,48,[.int 0,.int 0,.int 0,.int 0,.str AK],[(0,1,false),(1,1,false),(2,1,false),(3,1,false),(4,1,false)],0,0,.i64⟩),
  (78,⟨7,1,8,[.aN],[],39,0,.i64⟩),
  (79,⟨0,1,8,[.aG],[],0,0,.i64⟩),
  (80,⟨0,1,8,[.aG],[],0,0,.i64⟩),
  (81,⟨0,1,8,[.aG],[],0,0,.i64⟩),
  (82,⟨0,1,8,[.aG],[],0,0,.i64⟩),
  (84,⟨0,1,8,[.aG],[],0,0,.i64⟩),
  (85,⟨0,1,8,[.aG],[],0,0,.i64⟩),
  (87,⟨0,1,8,[.aG],[],0,0,.i64⟩),
  (88,⟨0,1,8,[.aG],[],0,0,.i64⟩),
  (89,⟨0,1,8,[.aG],[],0,0,.i64⟩),
  (90,⟨0,1,8,[.aG],[],0,0,.i64⟩),
  (91,⟨0,1,8,[.aG],[],0,0,.i64⟩),
  (92,⟨9,1,16,[.bY true],[],0,0,.i64⟩),
  (93,⟨9,1,16,[.bY true],[],0,0,.i64⟩),
  (95,⟨0,1,8,[.aG],[],0,0,.i64⟩),
  (96,⟨0,1,8,[.aG],[],0,0,.i64⟩),
  (97,⟨7,1,8,[.aN],[],5,0,.i64⟩),
  (98,⟨0,1,8,[.aG],[],0,0,.i64⟩),
  (99,⟨0,1,8,[.aG],[],0,0,.i64⟩),
  (100,⟨5,1,8,[.ik .u64 0],[],0,0,.u64⟩),
  (101,⟨0,1,8,[.aG],[],0,0,.i64⟩),
  (103,⟨0,1,8,[.aG],[],0,0,.i64⟩),
  (104,⟨0,1,8,[.aG],[],0,0,.i64⟩),
  (105,⟨3,2,16,[.int 0,.int 0],[],3,2,.i64⟩),
  (106,⟨2,1,24,[.aC],[],105,0,.i64⟩),
  (107,⟨0,1,8,[.aG],[],0,0,.i64⟩),
  (109,⟨0,1,8,[.aG],[],0,0,.i64⟩),
  (110,⟨0,1,8,[.aG],[],0,0,.i64⟩),
  (111,⟨0,1,8,[.aG],[],0,0,.i64⟩),
  (112,⟨5,1,8,[.int 0],[],0,0,.i64⟩),
  (114,⟨0,1,8,[.aG],[],0,0,.i64⟩),
  (115,⟨0,1,8,[.aG],[],0,0,.i64⟩),
  (116,⟨0,1,8,[.aG],[],0,0,.i64⟩),
  (117,⟨0,1,8,[.aG],[],0,0,.i64⟩),
  (118,⟨0,1,8,[.aG],[],0,0,.i64⟩),
  (119,⟨5,1,4,[.ik .u32 0],[],0,0,.u32⟩),
  (120,⟨0,1,8,[.aG],[],0,0,.i64⟩),
  (121,⟨5,1,8,[.ik .u64 0],[],0,0,.u64⟩),
  (122,⟨0,1,8,[.aG],[],0,0,.i64⟩),
  (124,⟨0,1,8,[.aG],[],0,0,.i64⟩),
  (125,⟨3,24,24,[.ik .u8 0,.ik .u8 0,.ik .u8 0,.ik .u8 0,.ik .u8 0,.ik .u8 0,.ik .u8 0,.ik .u8 0,.ik .u8 0,.ik .u8 0,.ik .u8 0,.ik .u8 0,.ik .u8 0,.ik .u8 0,.ik .u8 0,.ik .u8 0,.ik .u8 0,.ik .u8 0,.ik .u8 0,.ik .u8 0,.ik .u8 0,.ik .u8 0,.ik .u8 0,.ik .u8 0],[],5,24,.i64⟩),
  (126,⟨0,1,8,[.aG],[],0,0,.i64⟩),
  (128,⟨0,1,8,[.aG],[],0,0,.i64⟩),
  (129,⟨5,1,8,[.ik .u64 0],[],0,0,.u64⟩),
  (130,⟨0,1,8,[.aG],[],0,0,.i64⟩),
  (131,⟨0,1,8,[.aG],[],0,0,.i64⟩),
  (132,⟨0,1,8,[.aG],[],0,0,.i64⟩),
  (133,⟨7,1,8,[.aN],[],3,0,.i64⟩),
  (134,⟨0,1,8,[.aG],[],0,0,.i64⟩),
  (135,⟨5,1,8,[.int 0],[],0,0,.i64⟩),
  (137,⟨0,1,8,[.aG],[],0,0,.i64⟩),
  (138,⟨7,1,8,[.aN],[],151,0,.i64⟩),
  (139,⟨0,1,8,[.aG],[],0,0,.i64⟩),
  (140,⟨0,1,8,[.aG],[],0,0,.i64⟩),
  (141,⟨0,1,8,[.aG],[],0,0,.i64⟩),
  (142,⟨3,20,160,[.ik .u64 0,.ik .u64 0,.ik .u64 0,.ik .u64 0,.ik .u64 0,.ik .u64 0,.ik .u64 0,.ik .u64 0,.ik .u64 0,.ik .u64 0,.ik .u64 0,.ik .u64 0,.ik .u64 0,.ik .u64 0,.ik .u64 0,.ik .u64 0,.ik .u64 0,.ik .u64 0,.ik .u64 0,.ik .u64 0],[],121,20,.i64⟩),
  (143,⟨3,65,65,[.ik .u8 0,.ik .u8 0,.ik .u8 0,.ik .u8 0,.ik .u8 0,.ik .u8 0,.ik .u8 0,.ik .u8 0,.ik .u8 0,.ik .u8 0,.ik .u8 0,.ik .u8 0,.ik .u8 0,.ik .u8 0,.ik .u8 0,.ik .u8 0,.ik .u8 0,.ik .u8 0,.ik .u8 0,.ik .u8 0,.ik .u8 0,.ik .u8 0,.ik .u8 0,.ik .u8 0,.ik .u8 0,.ik .u8 0,.ik .u8 0,.ik .u8 0,.ik .u8 0,.ik .u8 0,.ik .u8 0,.ik .u8 0,.ik .u8 0,.ik .u8 0,.ik .u8 0,.ik .u8 0,.ik .u8 0,.ik .u8 0,.ik .u8 0,.ik .u8 0,.ik .u8 0,.ik .u8 0,.ik .u8 0,.ik .u8 0,.ik .u8 0,.ik .u8 0,.ik .u8 0,.ik .u8 0,.ik .u8 0,.ik .u8 0,.ik .u8 0,.ik .u8 0,.ik .u8 0,.ik .u8 0,.ik .u8 0,.ik .u8 0,.ik .u8 0,.ik .u8 0,.ik .u8 0,.ik .u8 0,.ik .u8 0,.ik .u8 0,.ik .u8 0,.ik .u8 0,.ik .u8 0],[],5,65,.i64⟩),
  (144,⟨0,1,8,[.aG],[],0,0,.i64⟩),
  (145,⟨7,1,8,[.aN],[],129,0,.i64⟩),
  (146,⟨0,1,8,[.aG],[],0,0,.i64⟩),
  (148,⟨0,1,8,[.aG],[],0,0,.i64⟩),
  (149,⟨0,1,8,[.aG],[],0,0,.i64⟩),
  (150,⟨1,3,48,[.str AK,.str AK,.bY true],[(0,1,false),(1,1,false),(2,1,false)],0,0,.i64⟩),
  (151,⟨1,3,48,[.str AK,.str AK,.bY true],[(0,1,false),(1,1,false),(2,1,false)],0,0,.i64⟩),
  (152,⟨0,1,8,[.aG],[],0,0,.i64⟩),
  (153,⟨0,1,8,[.aG],[],0,0,.i64⟩),
  (154,⟨0,1,8,[.aG],[],0,0,.i64⟩),
  (155,⟨7,1,8,[.aN],[],157,0,.i64⟩),
  (156,⟨1,1,16,[.str AK],[(0,1,false)],0,0,.i64⟩),
  (157,⟨1,1,16,[.str AK],[(0,1,false)],0,0,.i64⟩),
  (159,⟨0,1,8,[.aG],[],0,0,.i64⟩),
  (160,⟨3,32,32,[.ik .u8 0,.ik .u8 0,.ik .u8 0,.ik .u8 0,.ik .u8 0,.ik .u8 0,.ik .u8 0,.ik .u8 0,.ik .u8 0,.ik .u8 0,.ik .u8 0,.ik .u8 0,.ik .u8 0,.ik .u8 0,.ik .u8 0,.ik .u8 0,.ik .u8 0,.ik .u8 0,.ik .u8 0,.ik .u8 0,.ik .u8 0,.ik .u8 0,.ik .u8 0,.ik .u8 0,.ik .u8 0,.ik .u8 0,.ik .u8 0,.ik .u8 0,.ik .u8 0,.ik .u8 0,.ik .u8 0,.ik .u8 0],[],5,32,.i64⟩),
  (161,⟨3,64,64,[.ik .u8 0,.ik .u8 0,.ik .u8 0,.ik .u8 0,.ik .u8 0,.ik .u8 0,.ik .u8 0,.ik .u8 0,.ik .u8 0,.ik .u8 0,.ik .u8 0,.ik .u8 0,.ik .u8 0,.ik .u8 0,.ik .u8 0,.ik .u8 0,.ik .u8 0,.ik .u8 0,.ik .u8 0,.ik .u8 0,.ik .u8 0,.ik .u8 0,.ik .u8 0,.ik .u8 0,.ik .u8 0,.ik .u8 0,.ik .u8 0,.ik .u8 0,.ik .u8 0,.ik .u8 0,.ik .u8 0,.ik .u8 0,.ik .u8 0,.ik .u8 0,.ik .u8 0,.ik .u8 0,.ik .u8 0,.ik .u8 0,.ik .u8 0,.ik .u8 0,.ik .u8 0,.ik .u8 0,.ik .u8 0,.ik .u8 0,.ik .u8 0,.ik .u8 0,.ik .u8 0,.ik .u8 0,.ik .u8 0,.ik .u8 0,.ik .u8 0,.ik .u8 0,.ik .u8 0,.ik .u8 0,.ik .u8 0,.ik .u8 0,.ik .u8 0,.ik .u8 0,.ik .u8 0,.ik .u8 0,.ik .u8 0,.ik .u8 0,.ik .u8 0,.ik .u8 0],[],5,64,.i64⟩),
  (162,⟨1,4,40,[.aN,.aN,.aN,.str AK],[(0,1,false),(1,1,false),(2,1,false),(3,1,false)],0,0,.i64⟩),
  (163,⟨1,4,40,[.aN,.aN,.aN,.str AK],[(0,1,false),(1,1,false),(2,1,false),(3,1,false)],0,0,.i64⟩),
  (164,⟨3,0,0,[],[],16,0,.i64⟩),
  (165,⟨1,0,0,[],[(0,0,true)],0,0,.i64⟩),
  (166,⟨1,0,0,[],[(0,0,true)],0,0,.i64⟩),
  (167,⟨5,1,1,[.ik .u8 0],[],0,0,.u8⟩),
  (168,⟨5,1,1,[.ik .u8 0],[],0,0,.u8⟩),
  (169,⟨0,1,8,[.aG],[],0,0,.i64⟩),
  (170,⟨5,1,4,[.ik .i32 0],[],0,0,.i32⟩),
  (171,⟨5,1,4,[.ik .i32 0],[],0,0,.i32⟩),
  (172,⟨1,11,48,[.ik .u64 0,.ik .u64 0,.ik .u32 0,.ik .u8 0,.ik .u8 0,.ik .u8 0,.ik .u8 0,.aG,.aN,.ik .i32 0,.ik .i32 0],[(0,1,false),(1,1,false),(2,1,false),(3,1,false),(4,1,false),(5,1,false),(6,1,false),(7,1,false),(8,1,false),(9,1,false),(10,1,false)],0,0,.i64⟩),
  (173,⟨1,11,48,[.ik .u64 0,.ik .u64 0,.ik .u32 0,.ik .u8 0,.ik .u8 0,.ik .u8 0,.ik .u8 0,.aG,.aN,.ik .i32 0,.ik .i32 0],[(0,1,false),(1,1,false),(2,1,false),(3,1,false),(4,1,false),(5,1,false),(6,1,false),(7,1,false),(8,1,false),(9,1,false),(10,1,false)],0,0,.i64⟩)]
def fV : D5 prog tab:=D5.of (by kernel_rfl)
def bo : Q8 :=
 (70,[.int .i64,.int .i64]) ::
 (51,[.int .i64,.int .i64]) ::
 (77,[.int .i64,.int .i64,.int .i64,.int .i64,.str]) ::
 []
def mB : R5 prog bo:=R5.of l8
def mixed : prog.follows .mixedOrders=true:=l8
def go {a:H7} {n:Nat} (b:a.n=n) {c:Code} {ts:Ts} {os:Os} {Q:Qt} (h:cT prog tab bo a n c ts os Q):j4 prog a c ts os Q:=by
 subst b;exact lq fV mB c ts os Q h
def bd {a:H7} {n:Nat} (b:a.n=n) {x y:Code} {ts:Ts} {os:Os} {Q:Qt} (h:cT prog tab bo a n (.seq x y) ts os Q):j4 prog a (.seq x y) ts os Q:=go b h
def bu {a:H7} {n:Nat} (b:a.n=n) {id:Nat} {l:Array Oper} {ts:Ts} {os:Os} {Q:Qt} (h:cT prog tab bo a n (.region id l false) ts os Q):j4 prog a (.region id l false) ts os Q:=go b h
def cQ {a:H7} {n:Nat} (b:a.n=n) {id:Nat} {x:Code} {ts:Ts} {os:Os} {Q:Qt} (h:cT prog tab bo a n (.block id x) ts os Q):j4 prog a (.block id x) ts os Q:=go b h
def cC {a:H7} {n:Nat} (b:a.n=n) {c:Operand} {x y:Code} {ts:Ts} {os:Os} {Q:Qt} (h:cT prog tab bo a n (.cond c x y) ts os Q):j4 prog a (.cond c x y) ts os Q:=go b h
def cD {a:H7} {n:Nat} (b:a.n=n) {id:Nat} {ts:Ts} {os:Os} {Q:Qt} (h:cT prog tab bo a n (.exit id) ts os Q):j4 prog a (.exit id) ts os Q:=go b h
def cE {a:H7} {n:Nat} (b:a.n=n) {ts:Ts} {os:Os} {Q:Qt} (h:cT prog tab bo a n .skip ts os Q):j4 prog a .skip ts os Q:=go b h
def bw {a:H7} {n:Nat} (b:a.n=n) {ts:Ts} {os:Os} {Q:Qt} (h:cT prog tab bo a n .ret ts os Q):j4 prog a .ret ts os Q:=go b h
def ml {a:H7} {n:Nat} (b:a.n=n) {id:Nat} {l:Array Oper} (hd:O6 l.toList=true) {ts:Ts} {os:Os} {Q:Qt} (h:Y0 ts fun ts=>dL prog tab bo n l.toList 0 l.toList ts os [] (Q .normal)):j4 prog a (.region id l true) ts os Q :=
 j4.draw fV mB b mixed hd h
def vO (a b:Nat) {c:H7} {n:Nat} (d:c.n=n) {id:Nat} {l:Array Oper} (hd:O6 l.toList=true) {ts:Ts} {os:Os} {Q:Qt} (h:Y0 ts fun ts=>dM prog tab bo n l.toList a b 0 l.toList ts os [] none (Q .normal)):j4 prog c (.region id l true) ts os Q :=
 j4.il fV mB d mixed hd a b h
def su {k n:Nat} (h:k<n) (a:n<=maxLen):C8 ((k:Int)+1):=by simp only[maxLen] at a;exact⟨d9,d9⟩
abbrev wr (n:Int):Int:=IntKind.i64.wrap n
def N8 {n:Int} (h:C8 n):wr n=n:=IntWalk.i64_in n h
inductive M3 (ρ σ:Type):Type where
 |ret (r:ρ)
 |next (s:σ)
def J3 {α:Type} (l:List α) (i:Int):Option α:=bif decide (0<=i) then l[i.toNat]? else none
def gj (s:ByteArray) (i:Int):Option UInt8:=bif decide (0<=i) then s[i.toNat]? else none
def V8 {α:Type} {l:List α} {i:Int} {x:α} (h:J3 l i=some x):0<=i/\l[i.toNat]?=some x:=by
 unfold J3 at h;by_cases a:0<=i
 ·rw[Aj a] at h;exact⟨a,h⟩
 ·rw[Ai a] at h;cases h
def W9 {α:Type} (l:List α) (k:Nat):J3 l (k:Int)=l[k]?:=by
 unfold J3;rw[Aj (Int.natCast_nonneg k)];rfl
def pE {α:Type} {l:List α} {i:Int} {x:α} (h:J3 l i=some x):0<=i/\i<l.length:=by
 obtain⟨a,b⟩:=V8 h;have:=(AB.1 b).1;exact⟨a,d9⟩
def mR {α b:Type} {x:Option α} {f:α->Option b} {r:b} (h:x.bind f=some r):∃a,x=some a/\f a=some r:=by
 cases x with
 |none=>cases h
 |some a=>exact⟨a,rfl,h⟩
def ui {a:Type} {b:Bool} {x y:Option a} {r:a} (h:(bif b then x else y)=some r) {X Y:Prop} (c:b=true->x=some r->X) (d:b=false->y=some r->Y):dW.match_1 (motive:=fun _ _ _=>Prop) b X Y (fun X _=>X) (fun _ Y=>Y):=by
 cases b
 ·exact d rfl h
 ·exact c rfl h
def ux {b:Bool} {X Y:Prop} (a:b=true) (c:X):dW.match_1 (motive:=fun _ _ _=>Prop) b X Y (fun X _=>X) (fun _ Y=>Y):=by subst a;exact c
def vA {b:Bool} {X Y:Prop} (a:b=false) (c:Y):dW.match_1 (motive:=fun _ _ _=>Prop) b X Y (fun X _=>X) (fun _ Y=>Y):=by subst a;exact c
def mA {a:Type} {b:Bool} {x:Option a} {r:a} (h:(bif b then x else none)=some r):b=true/\x=some r:=by
 cases b
 ·cases h
 ·exact⟨rfl,h⟩
def eh (p:ByteArray×Bool):AV×AV:=(.str p.1,.bool p.2)
def cU {α:Type} [DecidableEq α] (k:α):List (α×Bool)->Bool
 |[]=>false
 |p::l=>if k=p.1 then p.2 else cU k l
def Y8 {α:Type} [DecidableEq α] (k:α) (b:Bool):List (α×Bool)->List (α×Bool)
 |[]=>[(k,b)]
 |p::l=>if k=p.1 then(k,b)::l else p::Y8 k b l
theorem lT {α:Type} [DecidableEq α] (k:α) (b:Bool):∀l:List (α×Bool),(Y8 k b l).length<=l.length+1
 |[]=>AA _
 |p::l=>by
  rw[Y8];split
  ·simp
  ·simpa using lT k b l
theorem lU {α:Type} [DecidableEq α] {f:α->AV} (c:∀a b,fv (f a) (f b)=some (decide (a=b))) (k:α) (b:Bool):∀(l:List (α×Bool)) (i:Nat),∃r,dV (f k) (l.map fun p=>(f p.1,.bool p.2)) i=some r /\
  (match r with|none=>AV.bool false|some p=>p.2)=.bool (cU k l)/\∀pre:List (AV×AV),pre.length=i->er (f k) (.bool b) (pre++l.map fun p=>(f p.1,.bool p.2)) r=pre++(Y8 k b l).map fun p=>(f p.1,.bool p.2)
 |[],i=>⟨none,rfl,rfl,fun pre _=>by simp[er,Y8]⟩
 |p::l,i=>by
  obtain⟨r,e,g,j⟩:=lU c k b l (i+1);by_cases h:k=p.1
  ·refine⟨some (i,.bool p.2),by simp[dV,c,h],by simp[cU,h],fun pre d=>?_⟩;subst d;simp[er,Y8,h]
  ·refine⟨r,by simp[dV,c,h,e],by simp only[cU,Ae h];exact g,fun pre d=>?_⟩;have:=j (pre++[(f p.1,.bool p.2)]) (by simp[d]);simp only[Y8,Ae h,AN,AG,List.singleton_append] at this⊢;exact this
def vB {m:List (ByteArray×Bool)} {k:ByteArray} {A B C D:Prop} (a:A) (b:B) (c:C) (d:D) {K:AV->Prop} (H:K (.bool (cU k m))) :
  A/\B/\C/\D/\∃r,dV (.str k) (m.map eh) 0=some r/\∀q,q=(match r with|none=>AV.bool false|some p=>p.2)->K q:=by
 obtain⟨r,e,g,_⟩:=lU (f:=AV.str) (fun _ _=>rfl) k false m 0;exact⟨a,b,c,d,r,e,fun q h=>by rw[h,g];exact H⟩
def vJ {m:List (ByteArray×Bool)} {k:ByteArray} {v:Bool} {A B:Prop} (a:A) (b:B) (g:AE (m.length+1) 140737488355328=true) {K:List (AV×AV)->Prop} (H:K ((Y8 k v m).map eh)) :
  A/\B/\∃r,dV (.str k) (m.map eh) 0=some r/\(er (.str k) (.bool v) (m.map eh) r).length<=maxLen/\∀q,q=er (.str k) (.bool v) (m.map eh) r->K q:=by
 obtain⟨r,d,_,c⟩:=lU (f:=AV.str) (fun _ _=>rfl) k v m 0;have c:=c [] rfl;have e:er (.str k) (.bool v) (m.map eh) r=(Y8 k v m).map eh:=c;refine⟨a,b,r,d,?_,fun q h=>by rw[h,e];exact H⟩;rw[e,AM];have:=lT k v m;have:=AP g;simp only[maxLen];omega
section
variable {α:Type} {enc:α->List AV}
def X4 {l:List α} {K:Nat->Prop} (H:l.length<=maxLen->K l.length):∀n:Nat,n=(l.map enc).length->n<=maxLen->K n:=fun n e h=>by
 rw[AM] at e;subst e;exact H h
def cy {l:List α} {i:Int} {x:α} (h:J3 l i=some x) {K:List AV->Prop} (H:K (enc x)):0<=i/\i<((l.map enc).length:Int)/\∀a,(l.map enc)[i.toNat]?=some a->bG a->K a:=by
 obtain⟨c,d⟩:=V8 h;refine⟨c,by rw[AM];exact(pE h).2,fun a b _=>?_⟩;rw[AY,d] at b;cases b;exact H
def br {l:List α} {k:Nat} {x:α} (h:l[k]?=some x) {K:List AV->Prop} (H:K (enc x)):0<=(k:Int)/\(k:Int)<((l.map enc).length:Int)/\∀a,(l.map enc)[k]?=some a->bG a->K a :=
 cy (i:=(k:Int)) (by rw[W9];exact h) H
def eO {l:List α} {i:Int} {x:α} (h:J3 l i=some x) {K:Prop} (H:K):0<=i/\i<((l.map enc).length:Int)/\K :=
 ⟨(V8 h).1,by rw[AM];exact(pE h).2,H⟩
def fD {l:List α} {i:Nat} {x:α} (h:l[i]?=some x) {K:List AV->Prop} (H:K (enc x)):i<(l.map enc).length/\∀a,(l.map enc)[i]?=some a->K a:=by
 refine⟨by rw[AM];exact(AB.1 h).1,fun a b=>?_⟩;rw[AY,h] at b;cases b;exact H
def qz {l:List α} {i:Nat} {x c:α} {b:List AV} (h:l[i]?=some x) (d:dI b (enc c)):M4 ((l.map enc).set i b) ((l.set i c).map enc):=by
 induction l generalizing i with
 |nil=>simp at h
 |cons a l ih =>
  cases i with
  |zero=>exact⟨d,V7 _⟩
  |succ i=>exact⟨lA _,ih (by simpa using h)⟩
def tA {ls c q d:List (List AV)} (h:M4 ls q) (e:M4 c d):M4 (ls++c) (q++d):=by
 induction ls generalizing q with
 |nil=>cases q with
  |nil=>exact e
  |cons=>exact h.elim
 |cons a ls ih=>cases q with
  |nil=>exact h.elim
  |cons b q=>exact⟨h.1,ih h.2⟩
def lR {l l2:List α} {a:List (List AV)} (b:M4 a (l2.map enc)):M4 (l.map enc++a) ((l++l2).map enc):=by
 rw[List.map_append];exact tA (V7 _) b
def qw {n:Nat} {z:List AV} {x:α} (h:dI z (enc x)):M4 (AJ n z) ((AJ n x).map enc):=by
 induction n with
 |zero=>trivial
 |succ n ih=>exact⟨h,ih⟩
def vI {l l2:List α} {a:List (List AV)} {B C:Nat} (d:AE ((l.length+l2.length)*B) C=true) (b:M4 a (l2.map enc)) {K:List (List AV)->Prop} (H:K ((l++l2).map enc)) :
  ((l.map enc).length+a.length)*B<=C/\∃q,M4 (l.map enc++a) q/\K q:=by
 have c:=(lg b).1;rw[AM] at c;refine⟨?_,_,lR b,H⟩;rw[AM,c];exact AP d
def qp {α:Type} {enc:α->List AV} (l:List α) (n:Nat):M4 ((l.map enc).drop n) ((l.drop n).map enc):=by
 rw[List.map_drop];exact V7 _
def vU {a:Int} {B:Int} {z:List AV} {x:α} (b:(decide (0<=a) && decide (a<=140737488355328) && decide (a*B<=140737488355328))=true) (c:dI z (enc x)) {K:List (List AV)->Prop} (H:K ((AJ a.toNat x).map enc)) :
  a=a/\0<=a/\a<=140737488355328/\a*B<=140737488355328/\∃q,M4 (AJ a.toNat z) q/\K q:=by
 simp only[A7,Ak] at b;exact⟨rfl,b.1.1,b.1.2,b.2,_,qw c,H⟩
def uo {l:List α} {b:Int} {X Y:Prop} (a:(decide (0<=b) && decide (b<=(l.length:Int)))=true) (c:X) (d:Y) {K:List (List AV)->Prop} (H:K ((l.take b.toNat).map enc)) :
  X/\Y/\0<=b/\b<=((l.map enc).length:Int)/\∀q,q=(l.map enc).take b.toNat->K q:=by
 simp only[A7,Ak] at a;refine⟨c,d,a.1,by rw[AM];exact a.2,fun q e=>?_⟩;rw[e,<-List.map_take];exact H
def uW {l:List α} {b:Int} {X Y c:Prop} (a:(decide (0<=b) && decide (b<=(l.length:Int)))=true) (d:X) (g:Y) {K:List (List AV)->Prop} (H:K ((l.drop b.toNat).map enc)) :
  X/\Y/\0<=b/\b<=((l.map enc).length:Int)/\(c\/∀q,q=(l.map enc).drop b.toNat->K q):=by
 simp only[A7,Ak] at a;refine⟨d,g,a.1,by rw[AM];exact a.2,.inr fun q e=>?_⟩;rw[e,<-List.map_drop];exact H
end
def pM {s:ByteArray} {i:Int} {u:UInt8} (h:gj s i=some u) {K:UInt8->Prop} (H:K u):0<=i/\i<(s.size:Int)/\∀u,s[i.toNat]?=some u->K u:=by
 unfold gj at h;by_cases a:0<=i
 ·rw[Aj a] at h;have h:s[i.toNat]?=some u:=h;have d:i.toNat<s.size:=by
   rcases Nat.lt_or_ge i.toNat s.size with b|b
   ·exact b
   ·rw[getElem?_neg s i.toNat d9] at h;cases h
  exact⟨a,d9,fun e c=>by rw[h] at c;cases c;exact H⟩
 ·rw[Ai a] at h;cases h
def vM {a b:Int} (c:0<b) (e:b<=4611686018427387904) {K:Prop} (H:K):b≠0/\C8 (a.tmod b)/\K:=by
 refine⟨d9,?_,H⟩;unfold C8;have g:=Int.tmod_lt_of_pos a c;have d:=Int.tmod_lt_of_pos (-a) c;rw[Int.neg_tmod] at d;omega
def vH {l:List Int} {s:ByteArray} {C:Nat} (a:AE (l.length+s.size) C=true) {K:List (List AV)->Prop} (H:K ((l++N9 s).map fun n=>[AV.ik .u8 n])) :
  (l.map fun n=>[AV.ik .u8 n]).length+s.size<=C/\∃q,M4 (l.map (fun n=>[AV.ik .u8 n])++(N9 s).map fun n=>[AV.ik .u8 n]) q/\K q :=
 ⟨by rw[AM];exact AP a,_,V7 _,by rw[<-List.map_append];exact H⟩
def dy {p:Prop} [Decidable p] (h:decide p=true) {K:Prop} (H:K):p/\K:=⟨of_decide_eq_true h,H⟩
def tN {α:Type} {l:List α} {k:Nat} (h:[]=l.drop k):decide ((k:Int)<(l.length:Int))=false:=by
 have:=List.drop_eq_nil_iff.1 h.symm;exact Ai d9
def fI {α:Type} {l r:List α} {k:Nat} {x:α} (h:x::r=l.drop k):l[k]?=some x/\r=l.drop (k+1)/\decide ((k:Int)<(l.length:Int))=true:=by
 have a:(l.drop k)[0]?=some x:=by rw[<-h];rfl
 rw[AZ] at a;have a:l[k]?=some x:=a;refine⟨a,?_,Aj (by have:=(AB.1 a).1;omega)⟩;have:=congrArg List.tail h;rw[List.tail_drop] at this;exact this
def bp {α:Type} {l:List α} {k:Nat} {x:α} (h:l[k]?=some x) (a:l.length<=maxLen):C8 ((k:Int)+1):=su (AB.1 h).1 a
def uq {n:Int} {k:Nat} (h:0=(n-k).toNat):decide ((k:Int)<n)=false:=Ai d9
def nW {n:Int} {k m:Nat} (h:m+1=(n-k).toNat):m=(n-((k+1:Nat):Int)).toNat/\decide ((k:Int)<n)=true:=⟨d9,Aj d9⟩
def fZ {n:Int} {k:Nat} (h:decide ((k:Int)<n)=true) (a:bG [.int n]):C8 ((k:Int)+1):=by
 have h:=of_decide_eq_true h;have a:C8 n:=a.1;exact⟨d9,by have:=a.2;omega⟩
section
variable {P:Program} {Γ:H7}
theorem j4.pL {c:Code} {ts:Ts} {os:Os} {Q:Qt} {id:Nat} (h:j4 P Γ c ts os fun e d b=>match e with
  |.normal=>Q .normal d b
  |.exit k=>match A4 k id with
   |true=>Q .normal d b
   |false=>Q (.exit k) d b
  |.ret=>Q .ret d b):j4 P Γ (.block id c) ts os Q:=by
 refine⟨fun a w r=>wp_block (wp_mono (h.run a w r) fun e s w' ⟨ex,d,b,n,g,l⟩=>?_)⟩
 match e,ex,n,g with
 |.normal,.normal,_,g=>exact⟨.normal,d,b,trivial,g,l⟩
 |.exit i,.exit j,n,g =>
  have o:i=j:=n;subst o;simp only at g;split at g
  ·rename_i m;have q:=A9 m;simp only[Exit.inBlock,Af q];exact⟨.normal,d,b,trivial,g,l⟩
  ·rename_i m;have p:¬i=id:=fun e=>by rw[e] at m;simp at m
   simp only[Exit.inBlock,Ae p];exact⟨.exit i,d,b,rfl,g,l⟩
 |.ret,.ret,_,g=>exact⟨.ret,d,b,trivial,g,l⟩
theorem j4.ib {c:Code} {ts:Ts} {os:Os} {Q:Qt} {b:Nat} (h:∀a:Qt,(∀ts os,Q .normal ts os->a .normal ts os)->(∀ts os,Q .normal ts os->a (.exit b) ts os)->(∀id ts os,A4 id b=false->Q (.exit id) ts os->a (.exit id) ts os)->(∀ts os,Q .ret ts os->a .ret ts os)->j4 P Γ c ts os a):j4 P Γ (.block b c) ts os Q :=
 j4.pL (h _ (fun _ _ h=>h) (fun _ _ h=>by simpa using h) (fun id _ _ d h=>by simp only[d];exact h) (fun _ _ h=>h))
def JQ {ι:Type} (St:ι->Ts) (a:ι->Os) (p:ι->Prop):Qt:=fun _ ts os=>∃i b,p i/\U9 ts os (St i) (a i) b
theorem j4.fB {ι:Type} (St:ι->Ts) (k:ι->Os) {c:Code} {ts:Ts} {os:Os} {Q:Qt} (h:∀j:Qt,(∀d b,J7 Γ d b (JQ St k fun _=>True)->j .normal d b)->(∀id ts os,Q (.exit id) ts os->j (.exit id) ts os)->(∀ts os,Q .ret ts os->j .ret ts os)->j4 P Γ c ts os j)
  (s:∀i,((St i).all fun p=>AH p.1 Γ.n)=true) (q:∀i,Q .normal (St i) (k i)):j4 P Γ c ts os Q :=
by
 have h:=h (fun e d b=>match e with
  |.normal=>J7 Γ d b (JQ St k fun _=>True)
  |.exit id=>Q (.exit id) d b
  |.ret=>Q .ret d b) (fun _ _ h=>h) (fun _ _ _ h=>h) (fun _ _ h=>h)
 refine⟨fun a w t=>wp_mono (h.run a w t) fun e o w' ⟨ex,d,b,l,g,m⟩=>?_⟩;cases ex with
 |normal =>
  obtain⟨x,v,⟨i,y,_,u⟩,r⟩:=J7.run g o w' m;exact⟨.normal,_,_,l,q i,u.rel (s i) r⟩
 |exit id=>exact⟨.exit id,d,b,l,g,m⟩
 |ret=>exact⟨.ret,d,b,l,g,m⟩
def mT : Ts->Ts->Prop
 |[],_=>True
 |(t,a)::r,ts=>lk ts t=some a/\mT r ts
theorem ni {ts:Ts}:∀{a:Ts},mT a ts->∀t x,lk a t=some x->lk ts t=some x
 |(k,y)::r,h,t,x,hl=>by
  rw[j5] at hl;split at hl
  ·rename_i e;subst e;cases hl;exact h.1
  ·exact ni h.2 t x hl
theorem l9.aK {ts h:Ts} {os g:Os} {a:Act} {w:World} (q:mT h ts) (p:e6 g os) (s:l9 Γ ts os a w):l9 Γ h g a w:=by
 obtain⟨c,⟨j,k,l,m,d⟩,n⟩:=s;have e:=hJ p;exact⟨c,⟨j,k,fun t x i=>l t x (ni q t x i),m.sub e,⟨d.bO,d.tape,d.output,d.size,d.aX,d.aV,d.aK,fun id o b i r=>d.ab _ _ b (e id o i) r⟩⟩,n⟩
def fm {tab:E5} {b:List ResultVar} {ts:Ts} {os:Os} {av:AV} {upd:Os} {news:List Nat} {a:List (Nat×Nat)} {r:List AV} (c:fH tab ts os b=some r:=by rfl) (d:gm (lJ r) (av.ar (rn a)):=by repeat (first|exact trivial|exact rfl|(refine A5 ?_ ?_))) (e:gV (rn a) os upd:=by repeat (first|exact trivial|exact rfl|(refine A5 ?_ ?_)))
  (g:iZ (rn a) upd=true:=by rfl) (h:k6 a=true:=by rfl) (j:(upd.all fun p=>news.elem p.1 || AE Go.Proofs.YtibjcppjfkamhaaDoor.top p.1)=true:=by rfl) (k:(av.ids.all fun i=>(lk upd i).isSome || AE Go.Proofs.YtibjcppjfkamhaaDoor.top i)=true:=by rfl)
  (l:(upd.all fun p=>p.2.ids.all fun i=>(lk upd i).isSome || AE Go.Proofs.YtibjcppjfkamhaaDoor.top i)=true:=by rfl):Fin tab b ts os av upd news a r:=⟨c,d,e,g,h,j,k,l⟩
section
variable {os:Os} {K:Kt} {f:Nat} {ins ins':List AV} {need upd:Os} {news:List Nat} {av:AV}
def cA (h:Spec P f need ins' av upd news) (b:K av (need.map (·.1)) news upd) (a:ck ins ins':=by repeat (first|exact trivial|exact rfl|(refine A5 ?_ ?_))) (d:e6 need os:=by repeat (first|exact trivial|exact rfl|(refine A5 ?_ ?_))) (c:(need.all fun p=>eF news p.2.ids)=true:=by rfl):Z8 P f ins os K:=Z8.a_ h a d c b
def cF (h:Spec P f need ins' av upd news) (b:K av (((I6 os ins).2++need).map (·.1)) news (upd++y8 (I6 os ins).2)) (a:ck (I6 os ins).1 ins':=by repeat (first|exact trivial|exact rfl|(refine A5 ?_ ?_))) (d:e6 need os:=by repeat (first|exact trivial|exact rfl|(refine A5 ?_ ?_))) (hd:(need.all fun p=>(lk (I6 os ins).2 p.1).isNone)=true:=by rfl)
  (c:(need.all fun p=>eF news p.2.ids)=true:=by rfl):Z8 P f ins os K:=Z8.fz h a d hd c b
end
theorem j4.db {ι:Type} (St:ι->Ts) (l:ι->Os) (m:ι->Nat) {c:Code} {ts:Ts} {os:Os} {Q:Qt} (v:ι) (E:List (Nat×Nat)) (J:U9 ts os (St v) (l v) E) (H:∀i,((St i).all fun p=>AH p.1 Γ.n)=true)
  (S:∀i,∀t:Qt,(∀d b,J7 Γ d b (JQ St l fun j=>m j<m i)->t .normal d b)->(∀id ts os,Q (.exit id) ts os->t (.exit id) ts os)->(∀ts os,Q .ret ts os->t .ret ts os)->j4 P Γ c (St i) (l i) t):j4 P Γ (.loop c) ts os Q:=by
 have D:∀i,j4 P Γ c (St i) (l i) fun e d b=>match e with
   |.normal=>J7 Γ d b (JQ St l fun j=>m j<m i)
   |.exit id=>Q (.exit id) d b
   |.ret=>Q .ret d b:=fun i=>S i _ (fun _ _ h=>h) (fun _ _ _ h=>h) (fun _ _ h=>h)
 refine⟨fun a w r=>?_⟩;let I:Act->World->Prop:=fun a w=>∃i,l9 Γ (St i) (l i) a w;have A:I a w:=⟨v,J.rel (H v) r⟩;have o:∀a w,∃n,I a w->(∃i,m i=n/\l9 Γ (St i) (l i) a w)/\∀i,l9 Γ (St i) (l i) a w->n<=m i:=by
  intro a w;by_cases u:I a w
  ·obtain⟨i,N⟩:=u;obtain⟨n,⟨j,G,z⟩,L⟩:=exists_least (p:=fun n=>∃i,m i=n/\l9 Γ (St i) (l i) a w) ⟨m i,i,rfl,N⟩;exact⟨n,fun _=>⟨⟨j,G,z⟩,fun k O=>L (m k) ⟨k,rfl,O⟩⟩⟩
  ·exact⟨0,fun h=>absurd h u⟩
 refine wp_loop I (fun a w=>Classical.choose (o a w)) A fun a w u=>?_;obtain⟨⟨i,G,z⟩,_⟩:=Classical.choose_spec (o a w) u;refine wp_mono ((D i).run a w z) fun e F w' ⟨ex,d,b,C,q,g⟩=>?_
 match e,ex,C,q with
 |.normal,.normal,_,q =>
  obtain⟨U,T,⟨j,V,R,s⟩,M⟩:=J7.run q F w' g;have B:=s.rel (H j) M;refine⟨⟨j,B⟩,?_⟩;have:=(Classical.choose_spec (o F w') ⟨j,B⟩).2 j B;omega
 |.exit x,.exit y,C,q=>exact⟨.exit y,d,b,C,q,g⟩
 |.ret,.ret,_,q=>exact⟨.ret,d,b,trivial,q,g⟩
def aT {P:Prop} (h:P:=by repeat (first|exact trivial|exact rfl|(refine A5 ?_ ?_))):P:=h
def oI {α:Type} {a b:α} (h:some a=some b):a=b:=Option.some.inj h
mutual
def AV.fA (id sz:Nat) (ls:List (List AV)):AV->AV
 |.aF j=>bif A4 j id then .sl sz ls else .aF j
 |.fn f b=>.fn f (AV.bJ id sz ls b)
 |.agg b=>.agg (AV.bJ id sz ls b)
 |.aS b=>.aS (AV.bJ id sz ls b)
 |a=>a
def AV.bJ (id sz:Nat) (ls:List (List AV)):List AV->List AV
 |[]=>[]
 |a::l=>a.fA id sz ls::AV.bJ id sz ls l
end
mutual
theorem Rd.fA {c c':Ctx} {w:World} {id sz:Nat} {ls:List (List AV)} (b:∀v a,Rd c w v a->Rd c' w v a) (g:∀v,Rd c w v (.aF id)->Rd c' w v (.sl sz ls)):∀(a:AV) {v:Value},Rd c w v a->Rd c' w v (a.fA id sz ls)
 |.aF j,v,h=>by
  unfold AV.fA;cases i:A4 j id
  ·exact b _ _ h
  ·have:=A9 i;subst this;exact g v h
 |.fn f d,v,h=>by
  obtain⟨us,rfl,e⟩:=h.gk;exact .fn (l6.bJ b g d e)
 |.agg d,v,h=>by
  obtain⟨us,rfl,e⟩:=h.bH;exact .agg (l6.bJ b g d e)
 |.aS d,v,h=>by
  obtain⟨us,rfl,e⟩:=h.cZ;exact .aS (l6.bJ b g d e)
 |.any,_,h=>b _ _ h
 |.int _,_,h=>b _ _ h
 |.ik _ _,_,h=>b _ _ h
 |.bool _,_,h=>b _ _ h
 |.str _,_,h=>b _ _ h
 |.sl _ _,_,h=>b _ _ h
 |.ptr _ _,_,h=>b _ _ h
 |.fp _,_,h=>b _ _ h
 |.bX _ _,_,h=>b _ _ h
 |.bn _ _ _,_,h=>b _ _ h
 |.ep _ _ _ _,_,h=>b _ _ h
 |.aC,_,h=>b _ _ h
 |.cS _,_,h=>b _ _ h
 |.aN,_,h=>b _ _ h
 |.aG,_,h=>b _ _ h
 |.mp _,_,h=>b _ _ h
 |.bF _,_,h=>b _ _ h
 |.np _,_,h=>b _ _ h
 |.bY _,_,h=>b _ _ h
 |.aU _,_,h=>b _ _ h
theorem l6.bJ {c c':Ctx} {w:World} {id sz:Nat} {ls:List (List AV)} (e:∀v a,Rd c w v a->Rd c' w v a) (d:∀v,Rd c w v (.aF id)->Rd c' w v (.sl sz ls)):∀(b:List AV) {vs:List Value},l6 c w vs b->l6 c' w vs (AV.bJ id sz ls b)
 |[],_,.nil=>.nil
 |a::b,_,.cons h t=>.cons (Rd.fA e d a h) (l6.bJ e d b t)
end
def Obj.pf (id sz:Nat) (ls:List (List AV)):Obj->Obj
 |.box a e=>.box (AV.bJ id sz ls a) e
 |o=>o
def ga (id sz:Nat) (ls:List (List AV)):Ts->Ts
 |[]=>[]
 |(t,a)::r=>(t,a.fA id sz ls)::ga id sz ls r
def fX (id sz:Nat) (ls:List (List AV)):Os->Os
 |[]=>[]
 |(k,o)::r=>(k,o.pf id sz ls)::fX id sz ls r
theorem pJ (id sz:Nat) (ls:List (List AV)) (t:Nat):∀ts:Ts,lk (ga id sz ls ts) t=(lk ts t).map (AV.fA id sz ls)
 |[]=>rfl
 |(k,a)::r=>by
  rw[ga,j5,j5,pJ id sz ls t r];split<;>rfl
theorem oz (id sz:Nat) (ls:List (List AV)) (t:Nat):∀ts:Os,lk (fX id sz ls ts) t=(lk ts t).map (Obj.pf id sz ls)
 |[]=>rfl
 |(k,a)::r=>by
  rw[fX,j5,j5,oz id sz ls t r];split<;>rfl
theorem l9.bB {ts:Ts} {os:Os} (id:Nat) {sz e:Nat} {ls:List (List AV)} (E:lk os id=some (.row sz ls e)) {a:Act} {w:World} (H:l9 Γ ts os a w):l9 Γ (ga id sz ls ts) ((id,.aH)::fX id sz ls os) a w:=by
 obtain⟨j,⟨R,S,T,C,U⟩,V⟩:=H;have k:∀i o,lk [(id,Obj.row sz ls e)] i=some o->lk os i=some o:=fun i o g=>by
  rw[j5] at g;split at g
  ·rename_i e1;subst e1;cases g;exact E
  ·cases g
 have p:=C.sub k;have N:=aD.freeze p;have n:F6 (j.fz [(id,.row sz ls e)]) w (y8 [(id,.row sz ls e)]++os):=C.frame k N (fun _ h=>(by cases h)) (fun _ _ _ _ _ h=>(by cases h));have M:∀v a,Rd j w v a->Rd (j.fz [(id,.row sz ls e)]) w v a:=fun v a H=>Rd.mono (c:=j) (c':=j.fz [(id,.row sz ls e)]) (fun _ _=>rfl) (fun _ h=>Or.inl h) (fun _ _=>⟨rfl,rfl⟩) H;have L:∀v,Rd j w v (.aF id)->Rd (j.fz [(id,.row sz ls e)]) w v (.sl sz ls):=fun v X=>jZ p (j3 _ _ _) X;have l:∀i o,lk ((id,Obj.aH)::fX id sz ls os) i=some o->∃m,lk (y8 [(id,Obj.row sz ls e)]++os) i=some m/\(∀b,aI (j.fz [(id,.row sz ls e)]) i o b↔aI (j.fz [(id,.row sz ls e)]) i m b)/\V3 (j.fz [(id,.row sz ls e)]) w i o:=fun i o g=>by
  have W:=g;rw[j5] at g;split at g
  ·rename_i e1;subst e1;cases g;exact⟨.aH,by simp[y8,j3],fun _=>Iff.rfl,trivial⟩
  ·rename_i e1;rw[oz] at g;obtain⟨m,z,rfl⟩:=AW.1 g;have u:lk (y8 [(id,Obj.row sz ls e)]++os) i=some m:=by simp only[y8,List.cons_append,List.nil_append];rw[E8 _ _ e1];exact z
   have A:=n.rep i m u;refine⟨m,u,fun b=>?_,?_⟩
   ·cases m<;>exact Iff.rfl
   ·cases m with
    |box Q e2 =>
     obtain⟨us,I,J⟩:=C.rep i _ z;exact⟨us,I,l6.bJ M L Q J⟩
    |_=>exact A
 refine⟨j.fz [(id,.row sz ls e)],⟨R,S,fun t x g=>?_,⟨fun i o g=>?_,fun i o b g s=>?_,fun i O o m b G g F s D=>?_,n.aX⟩,?_⟩,V⟩
 ·rw[pJ] at g;obtain⟨y,Z,rfl⟩:=AW.1 g;obtain⟨v,I,J⟩:=T t y Z;exact⟨v,I,Rd.fA M L y J⟩
 ·obtain⟨_,_,_,h⟩:=l i o g;exact h
 ·obtain⟨B,q,r,_⟩:=l i o g;exact n.lt i B b q ((r b).1 s)
 ·obtain⟨B,q,r,_⟩:=l i o g;obtain⟨o2,k1,k2,_⟩:=l O m F;exact n.sep i O B o2 b G q k1 ((r b).1 s) ((k2 b).1 D)
 ·have d:Inv Γ (j.fz [(id,.row sz ls e)]) w (y8 [(id,.row sz ls e)]++os):=U.post C k N (fun _ h=>(by cases h)) (fun _ _ _ _ x Y=>(by cases Y));exact⟨d.bO,d.tape,d.output,d.size,d.aX,d.aV,d.aK,fun i o b g s=>by
   obtain⟨B,q,r,_⟩:=l i o g;exact d.ab i B b q ((r b).1 s)⟩
theorem j4.bB {c:Code} {ts:Ts} {os:Os} {Q:Qt} (id:Nat) {sz e:Nat} {ls:List (List AV)} (b:lk os id=some (.row sz ls e)) (h:j4 P Γ c (ga id sz ls ts) ((id,.aH)::fX id sz ls os) Q):j4 P Γ c ts os Q :=
 ⟨fun a w d=>h.run a w (d.bB id b)⟩
theorem J7.bB {ts:Ts} {os:Os} {Q:Qt} (id:Nat) {sz e:Nat} {ls:List (List AV)} (b:lk os id=some (.row sz ls e)) (h:J7 Γ (ga id sz ls ts) ((id,.aH)::fX id sz ls os) Q):J7 Γ ts os Q :=
 ⟨fun a w c=>h.run a w (c.bB id b)⟩
theorem J7.bT {ts:Ts} {os:Os} {Q:Qt} (t id sz e:Nat) (d:lk ts t=some .aC) (b:y7 [id] ts=true) (c:y5 [id] [(id,.row sz [] e)] os=true) (h:J7 Γ ((t,.aF id)::ts) ((id,.row sz [] e)::os) Q):J7 Γ ts os Q :=
 ⟨fun a w g=>h.run a w (g.bT t id sz e d b c)⟩
end
section
open Go.ChangeShapes Go.WideShapes Go.ChangeAt Go.RowKit Go.Deep
def ia (W:World):Ctx:=⟨fun b=>b<W.heap.size,fun _=>0,fun _=>undef⟩
theorem Spec.law {P:Program} {f:Nat} {ins:List AV} (hS:Spec P f [] ins (.bool true) [] []) {W:World} {args:Array Value} (h:l6 (ia W) W args.toList ins) :
  Calls P f args W fun e d=>e=.returned (.bool true)/\Below W.heap.size W d:=by
 have c:∀(id:Nat) (o:Obj),lk ([]:Os) id=some o->False:=fun id o h=>by cases h
 refine(hS.2.2 (ia W) W args ⟨fun id o h=>(c id o h).elim,fun id o b h=>(c id o h).elim,fun id l o m b _ h=>(c id o h).elim,fun b g=>g⟩ h).mono ?_;rintro e d ⟨v,c',rfl,a,j⟩;exact⟨by rw[j.ai],a.bO,a.tape,a.output,a.size,fun k i=>a.aK k i fun⟨id,o,h,_⟩=>c id o h⟩
def cR (n:Int):Prop:=C8 n
def gu (s:ByteArray):Prop:=s.size<=maxLen
def okB (_:Bool):Prop:=True
def df {b:Type} (ok:b->Prop) (l:List b):Prop:=l.length<=maxLen/\∀a∈l,ok a
def V6 (_:Int):Nat:=1
def e7 (s:ByteArray):Nat:=s.size+1
def sf (_:Bool):Nat:=1
def bI {a:Type} (bk:a->Nat) (l:List a):Nat:=(l.map bk).sum+1
def kL {b:Type} (bk:b->Nat) (a:b) (l:List b):bI bk (a::l)=bk a+bI bk l:=by simp only[bI,AN,List.sum_cons];omega
def iH {b:Type} {bk:b->Nat} (h:∀a,1<=bk a) (l:List b):l.length+1<=bI bk l:=by
 induction l with
 |nil=>simp[bI]
 |cons a l ih=>rw[kL,AX];have:=h a;omega
def lY {b:Type} {bk:b->Nat} {l:List b} {a:b} (h:a∈l):bk a+1<=bI bk l:=by
 induction l with
 |nil=>cases h
 |cons x l ih =>
  rw[kL];rcases AF.1 h with rfl|h
  ·simp only[bI];omega
  ·have:=ih h;omega
def qd {H:Type} {l:List (DataW H)} (h:Rows.uptoSmall H l=true):Rows.uptoBulkAll l<=1048576:=of_decide_eq_true h
structure y9 (P:Program) (t:TypeId) (sz:Nat) {α:Type} (enc:α->List AV) (ok:α->Prop) (bk:α->Nat):Prop where
 out:∀{H:Type} {eH:TypeId×Value->H} {w:World} {sp:Nat->Bool} {held:Bool} {fuel:Nat} {cs:List Value} {x:DataW H×List MemPlace},DataW.trod eH P w 0 sp held fuel t cs=some x ->
  ∃a:α,o9 (fun b=>b<w.heap.size) w cs (enc a)/\cs.length=sz/\(∀u∈cs,u.oneCell'=true)/\ok a/\bk a<=Rows.uptoBulk x.1
section
variable {P:Program}
theorem y9.int {t:TypeId} (b:P.underlying t=some (.int .i64)):y9 P t 1 Z0 cR V6:=⟨fun h=>by
 obtain⟨n,rfl,rfl,c⟩:=DataW.trod_int b h;have a:C8 n:=by
  have:IntKind.i64.min<=n/\n<=IntKind.i64.max:=by simpa[Lit.wf] using c
  exact this
 exact⟨n,.cons (.int a) .nil,rfl,by simp[Value.oneCell'],a,AA _⟩⟩
theorem y9.str {t:TypeId} (b:P.underlying t=some .string):y9 P t 1 gb gu e7:=⟨fun h=>by
 obtain⟨s,rfl,rfl,a⟩:=DataW.trod_string b h;exact⟨s,.cons (.str a) .nil,rfl,by simp[Value.oneCell'],a,by simp[e7,Rows.uptoBulk]⟩⟩
theorem y9.bool {t:TypeId} (a:P.underlying t=some .bool):y9 P t 1 (fun b:Bool=>[AV.bool b]) okB sf:=⟨fun h=>by
 obtain⟨b,rfl,rfl⟩:=DataW.trod_bool a h;exact⟨b,.cons (.bool b) .nil,rfl,by simp[Value.oneCell'],trivial,AA _⟩⟩
def iE {w:World} {b o:Nat} {v:Value} (h:w.cell? ⟨b,o,none⟩=some v):b<w.heap.size:=by
 unfold World.cell? at h;cases a:w.heap[b]? with
 |none=>rw[a] at h;cases h
 |some x=>exact(Array.getElem?_eq_some_iff.1 a).1
theorem pN {H a:Type} (bk:a->Nat):∀(n:Nat) (g:_root_.Fin n->a) (D:Nat->DataW H),(∀i:_root_.Fin n,bk (g i)<=Rows.uptoBulk (D i))->((List.ofFn g).map bk).sum<=Rows.uptoBulkAll ((List.range n).map D)
 |0,g,D,_=>o7
 |n+1,g,D,h=>by
  have ih:=pN bk n (fun i=>g i.succ) (fun i=>D (i+1)) (fun i=>by simpa using h i.succ);have b:=h 0;rw[List.ofFn_succ,List.range_succ_eq_map];simp only[AN,List.sum_cons,List.map_map,Rows.uptoBulkAll];have e:(D∘Nat.succ)=fun i=>D (i+1):=rfl;rw[e];have c:bk (g 0)<=Rows.uptoBulk (D 0):=b;omega
theorem y9.slice {t e:TypeId} {sz:Nat} {z:Type} {enc:z->List AV} {ok:z->Prop} {bk:z->Nat} (ht:P.underlying t=some (.slice e)) (hc:P.cellsOf e=sz) (X:0<sz) (L:y9 P e sz enc ok bk) :
  y9 P t 1 (fun l:List z=>[AV.sl sz (l.map enc)]) (df ok) (bI bk):=⟨fun {H eH w sp V fuel d x} h=>by
 rcases open_slice ht h with⟨rfl,rfl⟩|⟨a,len,cap,m,n,D,Pl,rfl,hb,hl,W,N,rfl,M⟩
 ·refine⟨[],.cons ?_ .nil,rfl,by simp[Value.oneCell'],⟨by simp[maxLen],o7⟩,by simp[bI,Rows.uptoBulk]⟩;exact Rf.sl (A:=none) (c:=0) (ls:=[]) (fun _=>[]) 0 0 o7 (by simp[maxLen]) (fun h=>absurd h o7) (fun i d h=>by simp at h) (fun i d h=>by simp at h) (fun i d h=>by simp at h) (fun i d h=>by simp at h)
 ·have hlm:len<=m:=by rw[N];split<;>omega
  have r:∀i:_root_.Fin len,∃y:z,(∃d:List Value,(o9 (fun b=>b<w.heap.size) w d (enc y)/\d.length=sz/\∀u∈d,u.oneCell'=true)/\∀(j:Nat) (u:Value),d[j]?=some u->w.cell? ((a.add (i*sz)).add j)=some u)/\ok y/\bk y<=Rows.uptoBulk (D i):=by
   intro i;obtain⟨I,C,R⟩:=M i d9;obtain⟨y,T,S,B,a8,J⟩:=L.out R;rw[hc] at C;obtain⟨_,p,k⟩:=World.cells?_some C;refine⟨y,⟨I,⟨T,S,B⟩,fun j u E=>?_⟩,a8,J⟩;rw[k j (by rw[<-p];exact(AB.1 E).1),E]
  let g:_root_.Fin len->z:=fun i=>(r i).choose;have v:=fun i=>(r i).choose_spec;have p:(List.ofFn g).length=len:=o7;have get:∀(i:Nat) (d:List AV),((List.ofFn g).map enc)[i]?=some d->∃M:i<len,d=enc (g ⟨i,M⟩):=by
   intro i d h;rw[AY,AW] at h;obtain⟨y,B,Z⟩:=h;obtain⟨f,e1⟩:=AB.1 B;simp only[List.length_ofFn] at f;exact⟨f,by rw[<-Z,<-e1];simp⟩
  have Q:0<len->∃b o,a=⟨b,o,none⟩/\b<w.heap.size:=by
   intro O;obtain⟨⟨d,⟨T,S,_⟩,k⟩,_⟩:=v ⟨0,O⟩;have q:=k 0 d[0] (A8 d9);have B:((a.add (0*sz)).add 0)=a:=by simp[Addr.add]
   simp only at q;rw[B] at q;have G:a.spot=none:=by
    unfold World.cell? at q;split at q
    ·cases G:a.spot with
     |none=>rfl
     |some s=>rw[G] at q;simp at q
    ·cases q
   obtain⟨b,o,s⟩:=a;simp only at G;subst G;exact⟨b,o,rfl,iE q⟩
  refine⟨List.ofFn g,.cons ?_ .nil,rfl,by simp[Value.oneCell'],⟨by rw[p];omega,fun y hy=>?_⟩,?_⟩
  ·have F:len=((List.ofFn g).map enc).length:=o7;by_cases O:0<len
   ·obtain⟨b,o,U,K⟩:=Q O
    suffices key:Rf (fun b=>b<w.heap.size) w (.slice (some a) ((List.ofFn g).map enc).length cap) (.sl sz ((List.ofFn g).map enc)) by
     rw[<-F] at key;exact key
    refine Rf.sl (fun i=>if h:i<len then(v ⟨i,h⟩).1.choose else[]) b o (by rw[<-F];exact hl) W (fun _=>⟨by rw[U],K⟩) (fun i d h=>?_) (fun i d h j u E=>?_) (fun i d h=>?_) (fun i d h u Y=>?_)<;>obtain⟨f,rfl⟩:=get i d h
    ·rw[dif_pos f];exact(v ⟨i,f⟩).1.choose_spec.1.2.1
    ·rw[dif_pos f] at E;have:=(v ⟨i,f⟩).1.choose_spec.2 j u E;rw[U] at this;simpa only[P5] using this
    ·rw[dif_pos f];exact(v ⟨i,f⟩).1.choose_spec.1.1
    ·rw[dif_pos f] at Y;exact(v ⟨i,f⟩).1.choose_spec.1.2.2 u Y
   ·have q:len=0:=d9;subst q;have e0:((List.ofFn g).map enc)=[]:=o7;rw[e0];exact Rf.sl (A:=some a) (c:=cap) (ls:=[]) (fun _=>[]) 0 0 o7 W (fun h=>absurd h o7) (fun i d h=>by simp at h) (fun i d h=>by simp at h) (fun i d h=>by simp at h) (fun i d h=>by simp at h)
  ·obtain⟨i,rfl⟩:=List.mem_ofFn.1 hy;exact(v i).2.1
  ·have:=pN bk len g D fun i=>(v i).2.2;simp only[bI,Rows.uptoBulk];omega⟩
end
def tT {c:Ctx} {w:World} {v:Value} {a:AV} (h:o9 c.Φ w [v] [a]):Rd c w v a:=by
 cases h with|cons h _=>exact .fz h
def ta {c:Ctx} {w:World} {b:Array Value} {a:List AV} (h:o9 c.Φ w b.toList a):Rd c w (.agg b) (.agg a):=by
 have:=Rf.agg h;simp only[Array.toArray_toList] at this;exact .fz this
end
section
variable {Γ:H7}
def qT {a:Type} {l:List a} {k:Nat} {x:a} (h:l[k]?=some x):l.set k x=l:=by
 apply AT;intro j;rw[AL];split
 ·rename_i e;subst e;split
  ·exact h.symm
  ·rw[AS d9]
 ·rfl
theorem o9.fq {Φ:Nat->Prop} {w:World}:∀{vs:List Value} {b:List AV},o9 Φ w vs b->∀(n:Nat) {v:Value} {a:AV},vs[n]?=some v->Rf Φ w v a->o9 Φ w vs (b.set n a)
 |_,_,.nil,n,_,_,h,_=>by simp at h
 |_,_,.cons h t,0,_,_,e,k=>by simp at e;subst e;exact .cons k t
 |_,_,.cons h t,n+1,_,_,e,k=>.cons h (o9.fq t n (by simpa using e) k)
theorem l9.eR {ts:Ts} {os:Os} (r i off j j':Nat) {sz e isz ie:Nat} {ls d:List (List AV)} {s:List AV} {v:Value} (hr:lk os r=some (.row sz ls e)) (hj:lk os j=some (.row isz d ie)) (L:lk os j'=some (.eqv j v))
  (Z:ls[i]?=some s) (ho:s[off]?=some (.aU v)) (g:A4 r j=false) (p:A4 r j'=false) (q:A4 j j'=false) {a:Act} {w:World} (C:l9 Γ ts os a w) :
  l9 Γ ts ((r,.row sz (ls.set i (s.set off (.sl isz d))) e)::(j,.aH)::(j',.aH)::os) a w:=by
 have g:=K7 g;have p:=K7 p;have q:=K7 q;refine l9.ghost (need:=[(r,.row sz ls e),(j,.row isz d ie),(j',.eqv j v)]) (upd:=[(r,.row sz (ls.set i (s.set off (.sl isz d))) e),(j,.aH),(j',.aH)]) (news:=[]) [] C ⟨hr,hj,L,trivial⟩ rfl rfl rfl fun c a8=>?_;have G:lk [(r,Obj.row sz ls e),(j,.row isz d ie),(j',.eqv j v)] r=some (.row sz ls e):=j3 _ _ _;have D:lk [(r,Obj.row sz ls e),(j,.row isz d ie),(j',.eqv j v)] j=some (.row isz d ie):=by rw[E8 _ _ g,j3]
 have O:lk [(r,Obj.row sz ls e),(j,.row isz d ie),(j',.eqv j v)] j'=some (.eqv j v):=by rw[E8 _ _ p,E8 _ _ q,j3]
 have Y:∀x o,lk [(j,Obj.row isz d ie)] x=some o->lk [(r,Obj.row sz ls e),(j,.row isz d ie),(j',.eqv j v)] x=some o:=fun x o h=>by
  obtain⟨rfl,rfl⟩:=cX h;exact D
 have hv:c.hd j=v:=a8.rep j' _ O;have B:Rd c w v (.aF j):=by
  obtain⟨css,P,S,Q⟩:=a8.rep j _ D;obtain⟨A,cap,e1,V,W⟩:=P.head;rw[<-hv,e1];exact .aF (by rw[e1]) V W
 have N:Rf (c.fz [(j,.row isz d ie)]).Φ w v (.sl isz d):=(jZ (a8.sub Y) (j3 _ _ _) B).rf (by simp[AV.ids]);have E:∀id,(lk [(r,Obj.row sz (ls.set i (s.set off (.sl isz d))) e),(j,.aH),(j',.aH)] id).isSome=true↔id=r\/id=j\/id=j':=fun id=>by
  rw[j5,j5,j5];by_cases k:r=id<;>by_cases l:j=id<;>by_cases I:j'=id<;>simp[k,l,I,lk]<;>omega
 refine⟨c.fz [(j,.row isz d ie)],⟨rfl,rfl,rfl,AA _,fun b h=>.inl h,fun b J=>?_,fun _ _ _=>rfl,fun _ _=>⟨rfl,rfl⟩,⟨fun id o m=>?_,fun id o b m f=>?_,fun id id' o o' b z m M f K=>?_,fun b J=>?_⟩,fun id o b m f=>?_⟩,fun t' y hy=>(by cases hy)⟩
 ·rcases J with h|⟨id,o,k,l⟩
  ·exact .inl h
  ·obtain⟨rfl,rfl⟩:=cX k;exact .inr (.inr ⟨id,_,D,(E id).2 (.inr (.inl rfl)),l⟩)
 ·rcases bZ m with⟨rfl,rfl⟩|⟨_,rfl,rfl⟩|⟨_,_,rfl,rfl⟩
  ·obtain⟨css,P,S,Q⟩:=a8.rep id _ G;refine⟨css,P,by simpa using S,fun n us H F t=>?_⟩;have T:∀{us:List Value} {U:List AV},o9 c.Φ w us U->o9 (c.fz [(j,.row isz d ie)]).Φ w us U:=fun h=>h.mono (fun _ _=>rfl) fun _ h=>.inl h;rw[AL] at t;split at t
   ·rename_i X;subst X;split at t
    ·cases t;have R:=Q i us s F Z;obtain⟨u,v1,v2⟩:=R.get ho;have F:u=v:=by cases v2;rfl
     subst F;exact(T R).fq off v1 N
    ·cases t
   ·exact T (Q n us H F t)
  ·trivial
  ·trivial
 ·rcases bZ m with⟨rfl,rfl⟩|⟨_,rfl,rfl⟩|⟨_,_,rfl,rfl⟩
  ·have k:=a8.lt id _ b G f;refine⟨k.1,fun h=>?_⟩;rcases h with h|⟨x,o,l,I⟩
   ·exact k.2 h
   ·obtain⟨rfl,rfl⟩:=cX l;exact a8.sep id x _ _ b g G D f I
  ·exact f.elim
  ·exact f.elim
 ·rcases bZ m with⟨rfl,rfl⟩|⟨_,rfl,rfl⟩|⟨_,_,rfl,rfl⟩<;>rcases bZ M with⟨rfl,rfl⟩|⟨_,rfl,rfl⟩|⟨_,_,rfl,rfl⟩<;>first|exact z rfl|exact f.elim|exact K.elim
 ·rcases J with h|⟨id,o,k,l⟩
  ·exact a8.aX b h
  ·obtain⟨rfl,rfl⟩:=cX k;exact(a8.lt id _ b D l).1
 ·rcases bZ m with⟨rfl,rfl⟩|⟨_,rfl,rfl⟩|⟨_,_,rfl,rfl⟩
  ·exact .inr ⟨id,_,G,(E id).2 (.inl rfl),f⟩
  ·exact f.elim
  ·exact f.elim
theorem j4.eR {P:Program} {c:Code} {ts:Ts} {os:Os} {Q:Qt} (r i off j j':Nat) {sz e isz ie:Nat} {ls m:List (List AV)} {d:List AV} {v:Value} (q:lk os r=some (.row sz ls e)) (o:lk os j=some (.row isz m ie)) (f:lk os j'=some (.eqv j v))
  (n:ls[i]?=some d) (p:d[off]?=some (.aU v)) (g:A4 r j=false) (k:A4 r j'=false) (l:A4 j j'=false) (h:j4 P Γ c ts ((r,.row sz (ls.set i (d.set off (.sl isz m))) e)::(j,.aH)::(j',.aH)::os) Q):j4 P Γ c ts os Q :=
 ⟨fun a w b=>h.run a w (b.eR r i off j j' q o f n p g k l)⟩
theorem l9.flat {ts:Ts} {os:Os} (t id k:Nat) {sz e isz ie:Nat} {l:List (List AV×List (List AV))} (C:lk ts t=some (.bF id)) (P:lk os id=some (.nest sz e isz ie l)) (R:A4 k id=false)
  (N:y7 [k] ts=true) (O:y5 [k] [(k,.row sz (cf isz l) e),(id,.aH)] os=true) {a:Act} {w:World} (G:l9 Γ ts os a w) :
  l9 Γ ((t,.aF k)::ts) ((k,.row sz (cf isz l) e)::(id,.aH)::os) a w:=by
 have R:=K7 R;refine l9.ghost (need:=[(id,.nest sz e isz ie l)]) (upd:=[(k,.row sz (cf isz l) e),(id,.aH)]) (news:=[k]) [(t,.aF k)] G ⟨P,trivial⟩ N O (by simp[j3]) fun c a8=>?_;have m:lk [(id,Obj.nest sz e isz ie l)] id=some (.nest sz e isz ie l):=j3 _ _ _;obtain⟨h,z,e1,W,h3,h4,h5⟩:=a8.rep id _ m;have inner:∀p∈cY z,∀b,p.1.v.ownBlock=some b->aI c id (.nest sz e isz ie l) b:=fun p j b d=>by
  refine⟨p.1.v,?_,d⟩;rw[e1];simp only[X7,AF,AI];obtain⟨q,S,rfl⟩:=AI.1 j;exact .inr ⟨q,S,rfl⟩
 have f:∀b,h.v.ownBlock=some b->aI c id (.nest sz e isz ie l) b:=fun b d=>⟨h.v,by rw[e1];simp[X7],d⟩;let s:Nat->Prop:=fun b=>c.Φ b\/∃p∈cY z,p.1.v.ownBlock=some b;let c':Ctx:={ (c.aB k h.v) with Φ:=s };have B:c'.hd k=h.v:=by simp[c',Ctx.aB]
 have r:∀b,aI c id (.nest sz e isz ie l) b->Touch c [(id,.nest sz e isz ie l)] [(k,.row sz (cf isz l) e),(id,.aH)] b:=fun b d=>⟨id,_,m,by rw[E8 _ _ R,j3];rfl,d⟩;have E:∀b,h.v.ownBlock=some b->¬s b:=by
  rintro b d (H|⟨p,j,H⟩)
  ·exact(a8.lt id _ b m (f b d)).2 H
  ·obtain⟨q,S,rfl⟩:=AI.1 j;exact h5 b q d S H
 refine⟨c',⟨rfl,rfl,rfl,AA _,fun b d=>.inl d,fun b d=>?_,fun _ _ _=>rfl,fun x H=>⟨rfl,?_⟩,⟨fun x o C=>?_,fun x o b C g=>?_,fun x x' o o' b D C Q g M=>?_,fun b d=>?_⟩,fun x o b C g=>?_⟩,fun t' y hy=>?_⟩
 ·rcases d with d|⟨p,j,d⟩
  ·exact .inl d
  ·exact .inr (.inr (r b (inner p j b d)))
 ·have:x≠k:=by simpa using H
  simp[c',Ctx.aB,this]
 ·rcases bz C with⟨rfl,rfl⟩|⟨_,rfl,rfl⟩
  ·show F7 s w (c'.hd x) sz (cf isz l) e;rw[B];obtain⟨css,q1,q2,q3⟩:=h3;refine⟨css,q1,by rw[q2];simp only[c7,cf,AM,<-W],fun i us Y hu J=>?_⟩;have hz:∃p,z[i]?=some p/\Y=p.2.1++[.sl isz p.2.2]:=by
    rw[<-W] at J;simp only[cf,List.map_map] at J;rw[AY,AW] at J;obtain⟨p,j,rfl⟩:=J;exact⟨p,j,rfl⟩
   obtain⟨p,j,rfl⟩:=hz;have ho:(c7 z)[i]?=some (p.2.1++[.aU p.1.v]):=by simp[c7,j]
   have h0:=q3 i us _ hu ho;have F:(p.1,p.2.2)∈cY z:=AI.2 ⟨p,AO j,rfl⟩;obtain⟨V,r1,r2,r3⟩:=h4.1 _ F;have T:Rf s w p.1.v (.sl isz p.2.2):=r1.rf r2 r3 (fun _ d=>.inl d) fun b d=>.inr ⟨_,F,d⟩;have X:o9 s w us (p.2.1++[.aU p.1.v]):=h0.mono (fun _ _=>rfl) fun _ d=>.inl d;have L:(p.2.1++[AV.aU p.1.v])[p.2.1.length]?=some (.aU p.1.v):=o7;obtain⟨u,u1,u2⟩:=X.get L;have U:u=p.1.v:=by cases u2;rfl
   subst U;have:=X.fq p.2.1.length u1 T;simpa using this
  ·trivial
 ·rcases bz C with⟨rfl,rfl⟩|⟨_,rfl,rfl⟩
  ·have g:h.v.ownBlock=some b:=by rw[<-B];exact g
   exact⟨(a8.lt id _ b m (f b g)).1,E b g⟩
  ·exact g.elim
 ·rcases bz C with⟨rfl,rfl⟩|⟨_,rfl,rfl⟩<;>rcases bz Q with⟨rfl,rfl⟩|⟨_,rfl,rfl⟩<;>first|exact D rfl|exact g.elim|exact M.elim
 ·rcases d with d|⟨p,j,d⟩
  ·exact a8.aX b d
  ·exact(a8.lt id _ b m (inner p j b d)).1
 ·rcases bz C with⟨rfl,rfl⟩|⟨_,rfl,rfl⟩
  ·have g:h.v.ownBlock=some b:=by rw[<-B];exact g
   exact .inr (r b (f b g))
  ·exact g.elim
 ·obtain⟨rfl,rfl⟩:=lG hy;refine⟨_,C,fun v hv=>?_⟩;obtain⟨A,n,cap,vs,Z,I,e8,e9⟩:=hv.eX;rw[e1] at I;have K:h.v=.slice A n cap:=by
   injection I with I
   have:=congrArg (fun a:Array Value=>a.toList.head?) I;simpa using this
  rw[Z];exact .aF (by rw[B,K]) e8 e9
theorem j4.flat {P:Program} {c:Code} {ts:Ts} {os:Os} {Q:Qt} (t id k:Nat) {sz e isz ie:Nat} {l:List (List AV×List (List AV))} (i:lk ts t=some (.bF id)) (g:lk os id=some (.nest sz e isz ie l)) (j:A4 k id=false)
  (d:y7 [k] ts=true) (f:y5 [k] [(k,.row sz (cf isz l) e),(id,.aH)] os=true) (h:j4 P Γ c ((t,.aF k)::ts) ((k,.row sz (cf isz l) e)::(id,.aH)::os) Q):j4 P Γ c ts os Q :=
 ⟨fun a w b=>h.run a w (b.flat t id k i g j d f)⟩
theorem l9.ay {ts:Ts} {os:Os} (id:Nat) {sz e:Nat} {ls:List (List AV)} (q:List (List AV)) (f:lk os id=some (.row sz ls e)) (g:M4 ls q) {a:Act} {w:World} (d:l9 Γ ts os a w):l9 Γ ts ((id,.row sz q e)::os) a w :=
 l9.ghost (need:=[(id,.row sz ls e)]) (upd:=[(id,.row sz q e)]) (news:=[]) [] d ⟨f,trivial⟩ rfl rfl rfl fun c a8 =>
  ⟨c,aD.ay (U:=[]) ⟨rfl,rfl,rfl,AA _,fun _ h=>h,fun _ h=>.inl h,fun _ _ _=>rfl,fun _ _=>⟨rfl,rfl⟩,a8,fun i o b j k=>.inr ⟨i,o,j,by rw[j];rfl,k⟩⟩ g,fun m y l=>(by cases l)⟩
theorem j4.ay {P:Program} {c:Code} {ts:Ts} {os:Os} {Q:Qt} (id:Nat) {sz e:Nat} {ls:List (List AV)} (q:List (List AV)) (d:lk os id=some (.row sz ls e)) (f:M4 ls q) (h:j4 P Γ c ts ((id,.row sz q e)::os) Q):j4 P Γ c ts os Q :=
 ⟨fun a w b=>h.run a w (b.ay id q d f)⟩
end
section
variable {Γ:H7}
theorem l6.aB {c:Ctx} {w:World} {vs:List Value} {d:List AV} {g:Nat} {v:Value} (h:l6 c w vs d) (f:(AV.aY d).all (fun i=>!Nat.beq i g)=true):l6 (c.aB g v) w vs d :=
 l6.mono (c:=c) (c':=c.aB g v) (fun _ _=>rfl) (fun _ h=>h) (fun id a=>⟨rfl,by
  have:=AD.1 f id a;have b:id≠g:=fun e=>by subst e;simp at this
  simp[Ctx.aB,b]⟩) h
def cL {a:Type} {l:List a} {k:Nat} {x:a} (h:l[k]?=some x):l.set k x=l:=qT h
theorem l9.bm {ts:Ts} {os:Os} (b off id sz e:Nat) {f:List AV} {j:Nat} (F:lk os b=some (.box f j)) (r:f[off]?=some .aC) (z:(AV.aY f).all (fun i=>!Nat.beq i id)=true) (l:A4 b id=false)
  (t:y7 [id] ts=true) (u:y5 [id] [(b,.box (f.set off (.aF id)) j),(id,.row sz [] e)] os=true) {a:Act} {w:World} (p:l9 Γ ts os a w) :
  l9 Γ ts ((b,.box (f.set off (.aF id)) j)::(id,.row sz [] e)::os) a w:=by
 have l:=K7 l;refine l9.ghost (need:=[(b,.box f j)]) (upd:=[(b,.box (f.set off (.aF id)) j),(id,.row sz [] e)]) (news:=[id]) [] p ⟨F,trivial⟩ t u (by simp[j5,l]) fun c a8=>⟨c.aB id (.slice none 0 0),?_,fun N y H=>(by cases H)⟩;have C:lk [(b,Obj.box f j)] b=some (.box f j):=j3 _ _ _;have q:(c.aB id (.slice none 0 0)).hd id=.slice none 0 0:=by simp[Ctx.aB]
 obtain⟨us,I,J⟩:=a8.rep b _ C;refine aD.same a8 rfl (fun i z=>⟨rfl,by have:i≠id:=(by simpa using z);simp[Ctx.aB,this]⟩) (fun x o m=>?_) (fun x o d m k=>?_) (fun x O o M d g m B k s=>?_)
 ·rcases bz m with⟨rfl,rfl⟩|⟨_,rfl,rfl⟩
  ·refine⟨us,I,?_⟩;have E:=J.aB (v:=.slice none 0 0) z;obtain⟨v,K,L⟩:=E.get r;have G:=L.ah;subst G;have:=E.set off (v:=.slice none 0 0) (a:=.aF id) (.aF (n:=0) (cap:=0) (A:=none) q (AA _) (by simp[maxLen]))
   rwa [cL K] at this
  ·exact⟨[],by rw[q];exact⟨.inl ⟨rfl,rfl⟩,o7,o7⟩,rfl,fun i us f h=>by simp at h⟩
 ·rcases bz m with⟨rfl,rfl⟩|⟨_,rfl,rfl⟩
  ·exact⟨x,_,C,by rw[m];rfl,k⟩
  ·have k:((c.aB x (.slice none 0 0)).hd x).ownBlock=some d:=k;rw[q] at k;cases k
 ·have D:∀d,((c.aB id (.slice none 0 0)).hd id).ownBlock=some d->False:=fun d h=>by rw[q] at h;cases h
  rcases bz m with⟨rfl,rfl⟩|⟨_,rfl,rfl⟩<;>rcases bz B with⟨rfl,rfl⟩|⟨_,rfl,rfl⟩
  ·exact g rfl
  ·exact D d s
  ·exact D d k
  ·exact g rfl
theorem j4.bm {P:Program} {c:Code} {ts:Ts} {os:Os} {Q:Qt} (b off id sz e:Nat) {d:List AV} {g:Nat} (n:lk os b=some (.box d g)) (j:d[off]?=some .aC) (o:(AV.aY d).all (fun i=>!Nat.beq i id)=true) (m:A4 b id=false)
  (k:y7 [id] ts=true) (l:y5 [id] [(b,.box (d.set off (.aF id)) g),(id,.row sz [] e)] os=true) (h:j4 P Γ c ts ((b,.box (d.set off (.aF id)) g)::(id,.row sz [] e)::os) Q):j4 P Γ c ts os Q :=
 ⟨fun a w f=>h.run a w (f.bm b off id sz e n j o m k l)⟩
theorem l9.dh {ts:Ts} {os:Os} (b off j g:Nat) {k:List AV} {m sz e:Nat} {ls:List (List AV)} (J:lk os b=some (.box k m)) (B:k[off]?=some (.aF j)) (K:lk os j=some (.row sz ls e)) (E:(AV.aY k).all (fun i=>!Nat.beq i g)=true)
  (f:A4 b j=false) (q:A4 b g=false) (r:A4 j g=false)
  (C:y7 [g] ts=true) (D:y5 [g] [(b,.box (k.set off (.aF g)) m),(g,.row sz ls e),(j,.aH)] os=true) {a:Act} {w:World} (u:l9 Γ ts os a w) :
  l9 Γ ts ((b,.box (k.set off (.aF g)) m)::(g,.row sz ls e)::(j,.aH)::os) a w:=by
 have f:=K7 f;have q:=K7 q;have r:=K7 r;refine l9.ghost (need:=[(b,.box k m),(j,.row sz ls e)]) (upd:=[(b,.box (k.set off (.aF g)) m),(g,.row sz ls e),(j,.aH)]) (news:=[g]) [] u ⟨J,K,trivial⟩ C D (by simp[j5,q]) fun c a8=>⟨c.aB g (c.hd j),?_,fun W y L=>(by cases L)⟩;have G:lk [(b,Obj.box k m),(j,.row sz ls e)] b=some (.box k m):=j3 _ _ _;have H:lk [(b,Obj.box k m),(j,.row sz ls e)] j=some (.row sz ls e):=by rw[E8 _ _ f,j3]
 have z:(c.aB g (c.hd j)).hd g=c.hd j:=by simp[Ctx.aB]
 obtain⟨us,R,I⟩:=a8.rep b _ G;have Q:F7 c.Φ w (c.hd j) sz ls e:=a8.rep j _ H;refine aD.same a8 rfl (fun i E=>⟨rfl,by have:i≠g:=(by simpa using E);simp[Ctx.aB,this]⟩) (fun x o s=>?_) (fun x o d s l=>?_) (fun x X o V d t s F l p=>?_)
 ·rcases bZ s with⟨rfl,rfl⟩|⟨_,rfl,rfl⟩|⟨_,_,rfl,rfl⟩
  ·refine⟨us,R,?_⟩;obtain⟨v,T,U⟩:=I.get B;have S:=I.aB (v:=c.hd j) E;obtain⟨A,n,cap,M,N,O,P⟩:=U.aj;have:=S.set off (v:=v) (a:=.aF g) (by rw[M];exact .aF (by rw[z,N]) O P)
   rwa [cL T] at this
  ·show F7 c.Φ w ((c.aB x (c.hd j)).hd x) sz ls e;rw[z];exact Q
  ·trivial
 ·rcases bZ s with⟨rfl,rfl⟩|⟨_,rfl,rfl⟩|⟨_,_,rfl,rfl⟩
  ·exact⟨x,_,G,by rw[s];rfl,l⟩
  ·have l:((c.aB x (c.hd j)).hd x).ownBlock=some d:=l;rw[z] at l;exact⟨j,_,H,by rw[E8 _ _ f,E8 _ _ (Ne.symm r),j3];rfl,l⟩
  ·exact l.elim
 ·have apart:∀d,((c.aB g (c.hd j)).hd g).ownBlock=some d->d≠c.μ b:=fun d h e=>by
   rw[z] at h;exact a8.sep j b _ _ d (Ne.symm f) H G h e
  rcases bZ s with⟨rfl,rfl⟩|⟨_,rfl,rfl⟩|⟨_,_,rfl,rfl⟩<;>rcases bZ F with⟨rfl,rfl⟩|⟨_,rfl,rfl⟩|⟨_,_,rfl,rfl⟩<;>first|exact t rfl|exact l.elim|exact p.elim|exact apart d l p|exact apart d p l
theorem j4.dh {P:Program} {c:Code} {ts:Ts} {os:Os} {Q:Qt} (b off j g:Nat) {d:List AV} {k sz e:Nat} {ls:List (List AV)} (r:lk os b=some (.box d k)) (l:d[off]?=some (.aF j)) (t:lk os j=some (.row sz ls e)) (s:(AV.aY d).all (fun i=>!Nat.beq i g)=true)
  (o:A4 b j=false) (p:A4 b g=false) (q:A4 j g=false)
  (m:y7 [g] ts=true) (n:y5 [g] [(b,.box (d.set off (.aF g)) k),(g,.row sz ls e),(j,.aH)] os=true) (h:j4 P Γ c ts ((b,.box (d.set off (.aF g)) k)::(g,.row sz ls e)::(j,.aH)::os) Q):j4 P Γ c ts os Q :=
 ⟨fun a w f=>h.run a w (f.dh b off j g r l t s o p q m n)⟩
theorem l9.cI {ts:Ts} {os:Os} (id:Nat) {i:List AV} {e:Nat} (b:List AV) (j:lk os id=some (.box i e)) (l:ck i b) {a:Act} {w:World} (h:l9 Γ ts os a w):l9 Γ ts ((id,.box b e)::os) a w :=
 l9.ghost (need:=[(id,.box i e)]) (upd:=[(id,.box b e)]) (news:=[]) [] h ⟨j,trivial⟩ rfl rfl rfl fun c a8 =>
  ⟨c,aD.same a8 rfl (fun _ _=>⟨rfl,rfl⟩) (fun x o g=>by
   obtain⟨rfl,rfl⟩:=cX g;obtain⟨us,p,q⟩:=a8.rep x _ (j3 _ _ _);exact⟨us,p,hX l q⟩) (fun x o d g m=>by
   obtain⟨rfl,rfl⟩:=cX g;exact⟨x,_,j3 _ _ _,by rw[j3];rfl,m⟩) (fun x t o r d f g k _=>by
   obtain⟨rfl,_⟩:=cX g;obtain⟨rfl,_⟩:=cX k;exact absurd rfl f),fun s y n=>(by cases n)⟩
theorem j4.cI {P:Program} {c:Code} {ts:Ts} {os:Os} {Q:Qt} (id:Nat) {i:List AV} {e:Nat} (b:List AV) (f:lk os id=some (.box i e)) (g:ck i b) (h:j4 P Γ c ts ((id,.box b e)::os) Q):j4 P Γ c ts os Q :=
 ⟨fun a w d=>h.run a w (d.cI id b f g)⟩
theorem J7.cI {ts:Ts} {os:Os} {Q:Qt} (id:Nat) {g:List AV} {e:Nat} (b:List AV) (d:lk os id=some (.box g e)) (f:ck g b) (h:J7 Γ ts ((id,.box b e)::os) Q):J7 Γ ts os Q :=
 ⟨fun a w c=>h.run a w (c.cI id b d f)⟩
end
def qk {a:Type} {l:List a} {k:Nat} {x:a} (h:l[k]?=some x):l.take (k+1)=l.take k++[x]:=by
 rw[List.take_add_one,h];rfl
section
variable {Γ:H7}
end
section
variable {Γ:H7} {P:Program}
end
section
variable {α:Type} {enc:α->List AV}
def ph {l:List α} {i:Nat} {x:α} (h:l[i]?=some x):i<(l.map enc).length:=by
 rw[AM];exact(AB.1 h).1
def ue {l:List α} {i:Nat} {x:α} (h:l[i]?=some x) {A B C D K:Prop} (a:A) (b:B) (c:C) (d:D) (H:K):A/\B/\i<(l.map enc).length/\C/\D/\K:=⟨a,b,ph h,c,d,H⟩
def uV {l:List α} {i:Nat} {x:α} (h:l[i]?=some x) {A B D K:Prop} (a:A) (b:B) (d:D) (H:K):A/\B/\i<(l.map enc).length/\D/\K:=⟨a,b,ph h,d,H⟩
end
theorem Gh.drop {Γ:H7} {ts:Ts} {os:Os} (id:Nat) {o:Obj} (e:lk os id=some o):Gh Γ ts os (fun _:Unit=>ts) (fun _=>(id,.aH)::os) :=
 Gh.of (need:=[(id,o)]) (upd:=fun _=>[(id,.aH)]) (ex:=fun _=>[]) (news:=[]) ⟨e,trivial⟩ rfl (fun _=>rfl) (fun _=>rfl) fun c w a8 _ =>
  ⟨(),c,aD.mk' a8 rfl rfl rfl rfl (AA _) (fun _ _ _=>rfl) (fun k _=>⟨rfl,rfl⟩) (fun k f a=>by
   obtain⟨_,rfl⟩:=cX a;trivial) (fun k f b a d=>by
   obtain⟨_,rfl⟩:=cX a;exact d.elim) (fun k l f m b j a i d g=>by
   obtain⟨_,rfl⟩:=cX a;exact d.elim),fun t y h=>by cases h⟩
def mi (k:IntKind) (n:Int):List AV:=[.ik k n]
structure V9 where
  err:Int
  fW:Int
  deriving DecidableEq,Inhabited
def pA (x:V9):List AV:=[.int x.err,.int x.fW]
structure l7 where
  s:ByteArray
  fE:Bool
  deriving DecidableEq,Inhabited
def F5 (x:l7):List AV:=[.str x.s,.bool x.fE]
structure I5 where
  f0:Int
  f1:Int
  deriving DecidableEq,Inhabited
def jV (x:I5):List AV:=[.int x.f0,.int x.f1]
abbrev s3 (l:List Int):AV:=.sl 1 (l.map Z0)
abbrev s5 (l:List Int):AV:=.sl 1 (l.map (mi .u8))
abbrev vV (l:List Me):AV:=.sl 5 (l.map S9)
abbrev w3 (l:List Int):Obj:=.row 1 (l.map Z0) 3
abbrev w5 (l:List Int):Obj:=.row 1 (l.map (mi .u8)) 5
abbrev pr (l:List Cl):Obj:=.row 4 (l.map fe) 41
abbrev pt (l:List Me):Obj:=.row 5 (l.map S9) 46
abbrev px (l:List Ob):Obj:=.row 2 (l.map im) 68
abbrev pz (l:List V):Obj:=.row 2 (l.map eV) 70
abbrev qA (l:List Ins):Obj:=.row 5 (l.map fG) 77
abbrev ju (l:List I5):Obj:=.row 2 (l.map jV) 105
section
open Go.ChangeShapes Go.WideShapes Go.ChangeAt Go.RowKit Go.Deep
def jt (a:Ins):Prop:=cR a.op/\cR a.a/\cR a.b/\cR a.c/\gu a.name
def dT (a:Ins):Nat:=V6 a.op+V6 a.a+V6 a.b+V6 a.c+e7 a.name+1
def qa (a:Ins):1<=dT a:=by unfold dT;omega
def k5 (a:Me):Prop:=gu a.name/\cR a.args/\cR a.aO/\cR a.aQ/\(df jt) a.code
def cv (a:Me):Nat:=e7 a.name+V6 a.args+V6 a.aO+V6 a.aQ+(bI dT) a.code+1
def r6 (a:Me):1<=cv a:=by unfold cv;omega
def iY (a:Cl):Prop:=gu a.name/\cR a.aJ/\cR a.aE/\(df k5) a.aA
def dH (a:Cl):Nat:=e7 a.name+V6 a.aJ+V6 a.aE+(bI cv) a.aA+1
def qy (a:Cl):1<=dH a:=by unfold dH;omega
def kF (a:V):Prop:=cR a.k/\cR a.n
def dZ (a:V):Nat:=V6 a.k+V6 a.n+1
def tr (a:V):1<=dZ a:=by unfold dZ;omega
def kB (a:Ob):Prop:=cR a.cls/\(df kF) a.aE
def dJ (a:Ob):Nat:=V6 a.cls+(bI dZ) a.aE+1
def rF (a:Ob):1<=dJ a:=by unfold dJ;omega
def iX (a:Wd):Prop:=(df iY) a.a7/\(df kB) a.heap/\cR a.aR
def eQ (a:Wd):Nat:=(bI dH) a.a7+(bI dJ) a.heap+V6 a.aR+1
end
end Go.Proofs.YtibjcppjfkamhaaDoor
namespace Go.Proofs
open Go.Shelf
def Tryd.bh : Go.Shelf.Ren := ⟨fun | 171 => 25 | 243 => 40 | 246 => 50 | 283 => 66 | 284 => 67 | 285 => 68 | 286 => 69 | 129 => 60 | 317 => 81 | 318 => 82 | 319 => 83 | 320 => 84 | 337 => 93 | 338 => 94 | n => n, fun | 3 => 3 | 9 => 9 | 2 => 2 | 4 => 4 | 171 => 125 | 0 => 0 | 53 => 121 | 37 => 26 | 5 => 5 | 173 => 127 | 212 => 142 | 51 => 119 | 20 => 20 | 213 => 143 | 46 => 100 | 232 => 160 | 233 => 161 | n => n, fun | 17 => 0 | 18 => 4 | 19 => 5 | n => n⟩
theorem Tryd.da : Go.Proofs.LaysM.n171 Tryd.prog Tryd.bh := {
  mixed := by kernel_rfl
  f129 := Tryd.func60.trans (congrArg some (by kernel_rfl))
  f171 := Tryd.func25.trans (congrArg some (by kernel_rfl))
  f243 := Tryd.func40.trans (congrArg some (by kernel_rfl))
  f246 := Tryd.func50.trans (congrArg some (by kernel_rfl))
  f283 := Tryd.func66.trans (congrArg some (by kernel_rfl))
  f284 := Tryd.func67.trans (congrArg some (by kernel_rfl))
  f285 := Tryd.func68.trans (congrArg some (by kernel_rfl))
  f286 := Tryd.func69.trans (congrArg some (by kernel_rfl))
  f317 := Tryd.func81.trans (congrArg some (by kernel_rfl))
  f318 := Tryd.func82.trans (congrArg some (by kernel_rfl))
  f319 := Tryd.func83.trans (congrArg some (by kernel_rfl))
  f320 := Tryd.func84.trans (congrArg some (by kernel_rfl))
  f337 := Tryd.func93.trans (congrArg some (by kernel_rfl))
  f338 := Tryd.func94.trans (congrArg some (by kernel_rfl))
  t0 := Tryd.underlying0
  a0 := Tryd.isAgg0
  z0 := Tryd.sizeOf0
  v0 := Tryd.zeroValue0
  t2 := Tryd.underlying2
  a2 := Tryd.isAgg2
  z2 := Tryd.sizeOf2
  v2 := Tryd.zeroValue2
  t3 := Tryd.underlying3
  a3 := Tryd.isAgg3
  z3 := Tryd.sizeOf3
  v3 := Tryd.zeroValue3
  t4 := Tryd.underlying4
  a4 := Tryd.isAgg4
  z4 := Tryd.sizeOf4
  v4 := Tryd.zeroValue4
  t5 := Tryd.underlying5
  a5 := Tryd.isAgg5
  z5 := Tryd.sizeOf5
  v5 := Tryd.zeroValue5
  t9 := Tryd.underlying9
  a9 := Tryd.isAgg9
  z9 := Tryd.sizeOf9
  v9 := Tryd.zeroValue9
  t20 := Tryd.underlying20
  a20 := Tryd.isAgg20
  z20 := Tryd.sizeOf20
  v20 := Tryd.zeroValue20
  t37 := Tryd.underlying26
  a37 := Tryd.isAgg26
  z37 := Tryd.sizeOf26
  v37 := Tryd.zeroValue26
  t46 := Tryd.underlying100
  a46 := Tryd.isAgg100
  z46 := Tryd.sizeOf100
  v46 := Tryd.zeroValue100
  t51 := Tryd.underlying119
  a51 := Tryd.isAgg119
  z51 := Tryd.sizeOf119
  v51 := Tryd.zeroValue119
  t53 := Tryd.underlying121
  a53 := Tryd.isAgg121
  z53 := Tryd.sizeOf121
  v53 := Tryd.zeroValue121
  t171 := Tryd.underlying125
  a171 := Tryd.isAgg125
  z171 := Tryd.sizeOf125
  v171 := Tryd.zeroValue125
  t173 := Tryd.underlying127
  a173 := Tryd.isAgg127
  z173 := Tryd.sizeOf127
  v173 := Tryd.zeroValue127
  t212 := Tryd.underlying142
  a212 := Tryd.isAgg142
  z212 := Tryd.sizeOf142
  v212 := Tryd.zeroValue142
  t213 := Tryd.underlying143
  a213 := Tryd.isAgg143
  z213 := Tryd.sizeOf143
  t232 := Tryd.underlying160
  a232 := Tryd.isAgg160
  z232 := Tryd.sizeOf160
  v232 := Tryd.zeroValue160
  t233 := Tryd.underlying161
  a233 := Tryd.isAgg161
  z233 := Tryd.sizeOf161
  v233 := Tryd.zeroValue161
  g17 := by kernel_rfl
  g18 := by kernel_rfl
  g19 := by kernel_rfl
  i0 := by kernel_rfl
  i2 := by kernel_rfl
  i3 := by kernel_rfl
  i4 := by kernel_rfl
  i5 := by kernel_rfl
  i9 := by kernel_rfl
  i20 := by kernel_rfl
  i37 := by kernel_rfl
  i46 := by kernel_rfl
  i51 := by kernel_rfl
  i53 := by kernel_rfl
  i171 := by kernel_rfl
  i173 := by kernel_rfl
  i212 := by kernel_rfl
  i232 := by kernel_rfl
  i233 := by kernel_rfl
  m17 := by kernel_rfl
  m18 := by kernel_rfl
  m19 := by kernel_rfl }
open Go.RowKit Go.Sort Go.Lib in
theorem Tryd.strconv_Itoa (n : Int) (h0 : -9223372036854775808 ≤ n) (h1 : n ≤ 9223372036854775807) (w : World) (htab : Lib.TabIs Tryd.prog w "internal/strconv.uint64pow10" .u64 Lib.pow10Tab) :
    Calls Tryd.prog 25 #[.int .i64 n] w fun e w' => e = .returned (.string ⟨(Lib.itoa n).toArray⟩) ∧ ∃ k os, w' = grow (w.drewN k) os := Any.strconv_Itoa Tryd.da n h0 h1 w htab
def Tryd.bg : Go.Shelf.Ren := ⟨fun | 172 => 47 | 244 => 62 | 245 => 63 | 247 => 75 | 279 => 76 | 280 => 77 | 281 => 78 | 282 => 79 | 287 => 86 | 316 => 87 | 171 => 25 | 205 => 88 | 321 => 95 | 322 => 96 | 243 => 40 | 246 => 50 | 283 => 66 | 284 => 67 | 285 => 68 | 286 => 69 | 129 => 60 | 317 => 81 | 318 => 82 | 319 => 83 | 320 => 84 | 337 => 93 | 338 => 94 | n => n, fun | 9 => 9 | 3 => 3 | 75 => 93 | 76 => 94 | 4 => 4 | 5 => 5 | 167 => 135 | 37 => 26 | 0 => 0 | 85 => 136 | 2 => 2 | 168 => 138 | 53 => 121 | 175 => 147 | 46 => 100 | 210 => 151 | 127 => 97 | 145 => 157 | 143 => 155 | 21 => 21 | 171 => 125 | 173 => 127 | 212 => 142 | 51 => 119 | 20 => 20 | 213 => 143 | 232 => 160 | 233 => 161 | 80 => 71 | n => n, fun | 15 => 1 | 16 => 2 | 17 => 0 | 18 => 4 | 19 => 5 | n => n⟩
theorem Tryd.bR : Go.Proofs.LaysC.n172 Tryd.prog Tryd.bg := {
  mixed := by kernel_rfl
  f129 := Tryd.func60.trans (congrArg some (by kernel_rfl))
  f171 := Tryd.func25.trans (congrArg some (by kernel_rfl))
  f172 := Tryd.func47.trans (congrArg some (by kernel_rfl))
  f205 := Tryd.func88.trans (congrArg some (by kernel_rfl))
  f243 := Tryd.func40.trans (congrArg some (by kernel_rfl))
  f244 := Tryd.func62.trans (congrArg some (by kernel_rfl))
  f245 := Tryd.func63.trans (congrArg some (by kernel_rfl))
  f246 := Tryd.func50.trans (congrArg some (by kernel_rfl))
  f247 := Tryd.func75.trans (congrArg some (by kernel_rfl))
  f279 := Tryd.func76.trans (congrArg some (by kernel_rfl))
  f280 := Tryd.func77.trans (congrArg some (by kernel_rfl))
  f281 := Tryd.func78.trans (congrArg some (by kernel_rfl))
  f282 := Tryd.func79.trans (congrArg some (by kernel_rfl))
  f283 := Tryd.func66.trans (congrArg some (by kernel_rfl))
  f284 := Tryd.func67.trans (congrArg some (by kernel_rfl))
  f285 := Tryd.func68.trans (congrArg some (by kernel_rfl))
  f286 := Tryd.func69.trans (congrArg some (by kernel_rfl))
  f287 := Tryd.func86.trans (congrArg some (by kernel_rfl))
  f316 := Tryd.func87.trans (congrArg some (by kernel_rfl))
  f317 := Tryd.func81.trans (congrArg some (by kernel_rfl))
  f318 := Tryd.func82.trans (congrArg some (by kernel_rfl))
  f319 := Tryd.func83.trans (congrArg some (by kernel_rfl))
  f320 := Tryd.func84.trans (congrArg some (by kernel_rfl))
  f321 := Tryd.func95.trans (congrArg some (by kernel_rfl))
  f322 := Tryd.func96.trans (congrArg some (by kernel_rfl))
  f337 := Tryd.func93.trans (congrArg some (by kernel_rfl))
  f338 := Tryd.func94.trans (congrArg some (by kernel_rfl))
  t0 := Tryd.underlying0
  a0 := Tryd.isAgg0
  z0 := Tryd.sizeOf0
  v0 := Tryd.zeroValue0
  t2 := Tryd.underlying2
  a2 := Tryd.isAgg2
  z2 := Tryd.sizeOf2
  v2 := Tryd.zeroValue2
  t3 := Tryd.underlying3
  a3 := Tryd.isAgg3
  z3 := Tryd.sizeOf3
  v3 := Tryd.zeroValue3
  t4 := Tryd.underlying4
  a4 := Tryd.isAgg4
  z4 := Tryd.sizeOf4
  v4 := Tryd.zeroValue4
  t5 := Tryd.underlying5
  a5 := Tryd.isAgg5
  z5 := Tryd.sizeOf5
  v5 := Tryd.zeroValue5
  t9 := Tryd.underlying9
  a9 := Tryd.isAgg9
  z9 := Tryd.sizeOf9
  v9 := Tryd.zeroValue9
  t20 := Tryd.underlying20
  a20 := Tryd.isAgg20
  z20 := Tryd.sizeOf20
  v20 := Tryd.zeroValue20
  t21 := Tryd.underlying21
  a21 := Tryd.isAgg21
  z21 := Tryd.sizeOf21
  v21 := Tryd.zeroValue21
  t37 := Tryd.underlying26
  a37 := Tryd.isAgg26
  z37 := Tryd.sizeOf26
  v37 := Tryd.zeroValue26
  t46 := Tryd.underlying100
  a46 := Tryd.isAgg100
  z46 := Tryd.sizeOf100
  v46 := Tryd.zeroValue100
  t51 := Tryd.underlying119
  a51 := Tryd.isAgg119
  z51 := Tryd.sizeOf119
  v51 := Tryd.zeroValue119
  t53 := Tryd.underlying121
  a53 := Tryd.isAgg121
  z53 := Tryd.sizeOf121
  v53 := Tryd.zeroValue121
  t75 := Tryd.underlying93
  a75 := Tryd.isAgg93
  z75 := Tryd.sizeOf93
  v75 := Tryd.zeroValue93
  t76 := Tryd.underlying94
  a76 := Tryd.isAgg94
  z76 := Tryd.sizeOf94
  v76 := Tryd.zeroValue94
  t85 := Tryd.underlying136
  a85 := Tryd.isAgg136
  z85 := Tryd.sizeOf136
  v85 := Tryd.zeroValue136
  t127 := Tryd.underlying97
  a127 := Tryd.isAgg97
  z127 := Tryd.sizeOf97
  v127 := Tryd.zeroValue97
  t143 := Tryd.underlying155
  a143 := Tryd.isAgg155
  z143 := Tryd.sizeOf155
  v143 := Tryd.zeroValue155
  t145 := Tryd.underlying157
  a145 := Tryd.isAgg157
  z145 := Tryd.sizeOf157
  v145 := Tryd.zeroValue157
  t167 := Tryd.underlying135
  a167 := Tryd.isAgg135
  z167 := Tryd.sizeOf135
  v167 := Tryd.zeroValue135
  t168 := Tryd.underlying138
  a168 := Tryd.isAgg138
  z168 := Tryd.sizeOf138
  v168 := Tryd.zeroValue138
  t171 := Tryd.underlying125
  a171 := Tryd.isAgg125
  z171 := Tryd.sizeOf125
  v171 := Tryd.zeroValue125
  t173 := Tryd.underlying127
  a173 := Tryd.isAgg127
  z173 := Tryd.sizeOf127
  v173 := Tryd.zeroValue127
  t175 := Tryd.underlying147
  a175 := Tryd.isAgg147
  z175 := Tryd.sizeOf147
  v175 := Tryd.zeroValue147
  t210 := Tryd.underlying151
  a210 := Tryd.isAgg151
  z210 := Tryd.sizeOf151
  v210 := Tryd.zeroValue151
  t212 := Tryd.underlying142
  a212 := Tryd.isAgg142
  z212 := Tryd.sizeOf142
  v212 := Tryd.zeroValue142
  t213 := Tryd.underlying143
  a213 := Tryd.isAgg143
  z213 := Tryd.sizeOf143
  t232 := Tryd.underlying160
  a232 := Tryd.isAgg160
  z232 := Tryd.sizeOf160
  v232 := Tryd.zeroValue160
  t233 := Tryd.underlying161
  a233 := Tryd.isAgg161
  z233 := Tryd.sizeOf161
  v233 := Tryd.zeroValue161
  g15 := by kernel_rfl
  g16 := by kernel_rfl
  g17 := by kernel_rfl
  g18 := by kernel_rfl
  g19 := by kernel_rfl
  t80 := Tryd.underlying71
  a80 := Tryd.isAgg71
  z80 := Tryd.sizeOf71
  v80 := Tryd.zeroValue71
  i0 := by kernel_rfl
  i2 := by kernel_rfl
  i3 := by kernel_rfl
  i4 := by kernel_rfl
  i5 := by kernel_rfl
  i9 := by kernel_rfl
  i20 := by kernel_rfl
  i21 := by kernel_rfl
  i37 := by kernel_rfl
  i46 := by kernel_rfl
  i51 := by kernel_rfl
  i53 := by kernel_rfl
  i75 := by kernel_rfl
  i76 := by kernel_rfl
  i80 := by kernel_rfl
  i85 := by kernel_rfl
  i127 := by kernel_rfl
  i143 := by kernel_rfl
  i145 := by kernel_rfl
  i167 := by kernel_rfl
  i168 := by kernel_rfl
  i171 := by kernel_rfl
  i173 := by kernel_rfl
  i175 := by kernel_rfl
  i210 := by kernel_rfl
  i212 := by kernel_rfl
  i232 := by kernel_rfl
  i233 := by kernel_rfl
  m15 := by kernel_rfl
  m16 := by kernel_rfl
  m17 := by kernel_rfl
  m18 := by kernel_rfl
  m19 := by kernel_rfl
  c0 := by kernel_rfl
  c2 := by kernel_rfl
  c3 := by kernel_rfl
  c4 := by kernel_rfl
  c5 := by kernel_rfl
  c9 := by kernel_rfl
  c20 := by kernel_rfl
  c21 := by kernel_rfl
  c37 := by kernel_rfl
  c46 := by kernel_rfl
  c51 := by kernel_rfl
  c53 := by kernel_rfl
  c75 := by kernel_rfl
  c76 := by kernel_rfl
  c80 := by kernel_rfl
  c85 := by kernel_rfl
  c127 := by kernel_rfl
  c143 := by kernel_rfl
  c145 := by kernel_rfl
  c167 := by kernel_rfl
  c168 := by kernel_rfl
  c171 := by kernel_rfl
  c173 := by kernel_rfl
  c175 := by kernel_rfl
  c210 := by kernel_rfl
  c212 := by kernel_rfl
  c213 := by kernel_rfl
  c232 := by kernel_rfl
  c233 := by kernel_rfl }
open Go.RowKit in
theorem Tryd.strconv_Atoi_ok (s : ByteArray) (hmax : s.size ≤ 9223372036854775806) (v : Int) (h : Lib.atoiAll s.data.toList = .ok v) (w : World) :
    Calls Tryd.prog 47 #[.string s] w fun e w' => e = .returned (.tuple #[.int .i64 v, .nilIface]) ∧ (w' = w ∨ ∃ t, w' = Lib.bytesWorld w 5 t) := Any.strconv_Atoi_ok Tryd.bR s hmax v h w
open Go.RowKit in
theorem Tryd.strconv_Atoi_syntax (s : ByteArray) (hlim : s.size ≤ 281474976710656) (h : Lib.atoiAll s.data.toList = Lib.NumEnd.syntax) (ev : Value) (w : World) (hv : w.cell? ⟨1, 0, none⟩ = some ev) (hev : ev = .nilIface ∨ ∃ te pe, ev = .iface te pe) :
    Calls Tryd.prog 47 #[.string s] w fun e w' => ∃ N, e = .returned (.tuple #[.int .i64 (0), .iface 138 (.pointer (some ⟨N, 0, none⟩))]) ∧ w.heap.size ≤ N ∧ w'.heap[N]? = some (.cells #[.string ⟨#[65, 116, 111, 105]⟩, .string s, ev] 151 (0, 0)) ∧ Below w.heap.size w w' := Any.strconv_Atoi_syntax Tryd.bR s hlim h ev w hv hev
open Go.RowKit in
theorem Tryd.strconv_Atoi_range (s : ByteArray) (hlim : s.size ≤ 281474976710656) (h : Lib.atoiAll s.data.toList = .range) (ev : Value) (w : World) (hv : w.cell? ⟨2, 0, none⟩ = some ev) (hev : ev = .nilIface ∨ ∃ te pe, ev = .iface te pe) :
    Calls Tryd.prog 47 #[.string s] w fun e w' => ∃ N, e = .returned (.tuple #[.int .i64 (Lib.atoiSat s.data.toList), .iface 138 (.pointer (some ⟨N, 0, none⟩))]) ∧ w.heap.size ≤ N ∧ w'.heap[N]? = some (.cells #[.string ⟨#[65, 116, 111, 105]⟩, .string s, ev] 151 (0, 0)) ∧ Below w.heap.size w w' := Any.strconv_Atoi_range Tryd.bR s hlim h ev w hv hev
def Tryd.cH : Go.Shelf.Ren := ⟨fun | 145 => 48 | 220 => 64 | 219 => 80 | 217 => 89 | 225 => 90 | 224 => 91 | 267 => 92 | 266 => 97 | 314 => 98 | n => n, fun | 9 => 9 | 4 => 4 | 59 => 108 | 3 => 3 | 5 => 5 | 46 => 100 | 146 => 158 | 51 => 119 | n => n, fun | 1 => 3 | n => n⟩
theorem Tryd.eT : Go.Proofs.Lays.n145 Tryd.prog Tryd.cH := {
  mixed := by kernel_rfl
  f145 := Tryd.func48.trans (congrArg some (by kernel_rfl))
  f217 := Tryd.func89.trans (congrArg some (by kernel_rfl))
  f219 := Tryd.func80.trans (congrArg some (by kernel_rfl))
  f220 := Tryd.func64.trans (congrArg some (by kernel_rfl))
  f224 := Tryd.func91.trans (congrArg some (by kernel_rfl))
  f225 := Tryd.func90.trans (congrArg some (by kernel_rfl))
  f266 := Tryd.func97.trans (congrArg some (by kernel_rfl))
  f267 := Tryd.func92.trans (congrArg some (by kernel_rfl))
  f314 := Tryd.func98.trans (congrArg some (by kernel_rfl))
  t3 := Tryd.underlying3
  a3 := Tryd.isAgg3
  z3 := Tryd.sizeOf3
  v3 := Tryd.zeroValue3
  t4 := Tryd.underlying4
  a4 := Tryd.isAgg4
  z4 := Tryd.sizeOf4
  v4 := Tryd.zeroValue4
  t5 := Tryd.underlying5
  a5 := Tryd.isAgg5
  z5 := Tryd.sizeOf5
  v5 := Tryd.zeroValue5
  t9 := Tryd.underlying9
  a9 := Tryd.isAgg9
  z9 := Tryd.sizeOf9
  v9 := Tryd.zeroValue9
  t46 := Tryd.underlying100
  a46 := Tryd.isAgg100
  z46 := Tryd.sizeOf100
  v46 := Tryd.zeroValue100
  t51 := Tryd.underlying119
  a51 := Tryd.isAgg119
  z51 := Tryd.sizeOf119
  v51 := Tryd.zeroValue119
  t59 := Tryd.underlying108
  a59 := Tryd.isAgg108
  z59 := Tryd.sizeOf108
  v59 := Tryd.zeroValue108
  t146 := Tryd.underlying158
  a146 := Tryd.isAgg158
  z146 := Tryd.sizeOf158
  v146 := Tryd.zeroValue158
  g1 := by kernel_rfl }
open Go.RowKit Go.Lib in
theorem Tryd.strings_Cut (s sep : ByteArray) (m : Int) (w : World) (hs : s.size < 4294967281) (hm : w.cell? ⟨3, 0, none⟩ = some (.int .i64 m)) :
    Calls Tryd.prog 48 #[.string s, .string sep] w fun e w' => e = .returned (.tuple #[.string ⟨(Lib.cut s.data.toList sep.data.toList).1.toArray⟩, .string ⟨(Lib.cut s.data.toList sep.data.toList).2.1.toArray⟩, .bool (Lib.cut s.data.toList sep.data.toList).2.2]) ∧ ∃ n, w' = w.drewN n := Any.strings_Cut Tryd.eT s sep m w hs hm
end Go.Proofs
namespace Go.Proofs.YtibjcppjfkamhaaDoor
open Go.RowKit Go.Proofs.Tryd
open _root_.And renaming intro->A5
open _root_.Bool renaming and_eq_true->A7,not_true->AQ
open _root_.ByteArray renaming empty->AK
open _root_.List renaming getElem?_eq_getElem->A8,getElem?_eq_some_iff->AB,all_eq_true->AD,mem_cons->AF,append_assoc->AG,mem_map->AI,replicate->AJ,getElem?_set->AL,length_map->AM,map_cons->AN,mem_of_getElem?->AO,mem_append->AR,getElem?_eq_none->AS,ext_getElem?->AT,length_cons->AX,getElem?_map->AY,getElem?_drop->AZ
open _root_.Nat renaming beq->A4,eq_of_beq_eq_true->A9,le_refl->AA,ble->AE,blt->AH,le_of_ble_eq_true->AP
open _root_.Option renaming bind_some->A0,map_eq_some_iff->AW
def kK : List ByteArray:=[⟨#[42]⟩,⟨#[43]⟩,⟨#[45]⟩,⟨#[60]⟩,⟨#[61]⟩]
def H8 : List Me:=[⟨⟨#[42]⟩,1,0,3,[]⟩,⟨⟨#[43]⟩,1,0,1,[]⟩,⟨⟨#[45]⟩,1,0,2,[]⟩,⟨⟨#[60]⟩,1,0,4,[]⟩,⟨⟨#[61]⟩,1,0,5,[]⟩]
def G7 : Wd:=⟨[⟨⟨#[79,98,106,101,99,116]⟩,-1,0,[]⟩,⟨⟨#[78,105,108]⟩,0,0,[]⟩,⟨⟨#[66,111,111,108]⟩,0,0,[]⟩,⟨⟨#[73,110,116]⟩,0,0,H8⟩],[],0⟩
def jL (N:Nat):Option Wd:=some G7
def kv (N:Nat):Option Wd:=some G7
def strconv_Itoa (N:Nat) (n:Int):Option ByteArray:=some ⟨(Lib.itoa n).toArray⟩
def strconv_Atoi (N:Nat) (s:ByteArray):Option (Int×Bool):=bif decide (s.size<=281474976710656) then some (match Lib.atoiAll s.data.toList with
 |.ok v=>(v,true)
 |.range=>(Lib.atoiSat s.data.toList,false)
 |_=>(0,false)) else none
def strings_Cut (N:Nat) (s sep:ByteArray):Option (ByteArray×ByteArray×Bool):=bif decide (s.size<4294967281) then some (⟨(Lib.cut s.data.toList sep.data.toList).1.toArray⟩,⟨(Lib.cut s.data.toList sep.data.toList).2.1.toArray⟩,(Lib.cut s.data.toList sep.data.toList).2.2) else none
structure eE (w:World):Prop where
 tab : Lib.TabIs prog w "internal/strconv.uint64pow10" .u64 Lib.pow10Tab
 vW:∃ev,w.cell? ⟨1,0,none⟩=some ev/\(ev=.nilIface\/∃te pe,ev=.iface te pe)
 bG:∃ev,w.cell? ⟨2,0,none⟩=some ev/\(ev=.nilIface\/∃te pe,ev=.iface te pe)
 mx:∃m,w.cell? ⟨3,0,none⟩=some (.int .i64 m)
def ea : List Nat:=[0,1,2,3]
def GL : Obj:=.iu ea eE
theorem GL.at {c:Ctx} {w:World} {id:Nat} (h:V3 c w id GL):eE w:=by
 obtain ⟨_,f,⟨t,⟨s,n,o⟩,⟨r,k,l⟩,⟨m,j⟩⟩,e⟩:=h;have cell:∀b∈ea,∀v,f.cell? ⟨b,0,none⟩=some v->w.cell? ⟨b,0,none⟩=some v:=fun b d v i=>(World.cell?_of_block (w:=f) (a:=⟨b,0,none⟩) (e b d)).trans i;refine ⟨?_,⟨s,cell _ (by simp [ea]) s n,o⟩,⟨r,cell _ (by simp [ea]) r k,l⟩,⟨m,cell _ (by simp [ea]) _ j⟩⟩;have g : prog.globalNamed "internal/strconv.uint64pow10" = some 0 := l8;unfold Lib.TabIs World.var? at t ⊢;simp only [g,A0] at t ⊢;rw [e _ (by simp [ea])];exact t
theorem aD.bC {c:Ctx} {w w':World} {need:Os} (h:Below w.heap.size w w') (a:∀b,c.Φ b->b<w.heap.size):aD c w c w' need [] [] :=
 ⟨h.os,h.tape,h.output,h.size,fun _ h=>h,fun _ h=>.inl h,fun b d _=>h.block b d,fun _ _=>⟨rfl,rfl⟩,⟨fun _ _ h=>(by cases h),fun _ _ _ h=>(by cases h),fun _ _ _ _ _ _ h=>(by cases h),fun b d=>Nat.lt_of_lt_of_le (a b d) h.size⟩,fun _ _ _ h=>(by cases h)⟩
def jr {c:Ctx} {w:World} {args:Array Value} {a:AV} (h:l6 c w args.toList [a]):∃v,args=#[v]/\Rd c w v a:=by
 obtain⟨l⟩:=args;have h:l6 c w l [a]:=h;cases h with|cons b t=>cases t;exact⟨_,rfl,b⟩
def uv {c:Ctx} {w:World} {args:Array Value} {a b:AV} (h:l6 c w args.toList [a,b]):∃u v,args=#[u,v]/\Rd c w u a/\Rd c w v b:=by
 obtain⟨l⟩:=args;have h:l6 c w l [a,b]:=h;cases h with|cons d t=>cases t with|cons k t=>cases t;exact⟨_,_,rfl,d,k⟩
def se (n:Int) (a:C8 n):(Lib.itoa n).length<=21:=by
 unfold C8 at a;exact Lib.itoa_length_le n a.1 a.2
def kX (N:Nat) (n:Int) (r:ByteArray) (h:strconv_Itoa N n=some r):Spec prog 25 [(2000,GL)] [.int n] (.str r) [] []:=by
 obtain rfl:=Option.some.inj h;refine⟨l8,fun _ h=>(by cases h),fun c w args a8 f=>?_⟩;obtain⟨v,rfl,g⟩:=jr f;obtain⟨rfl,a⟩:=g.aP;refine(Tryd.strconv_Itoa n a.1 a.2 w (GL.at (a8.rep 2000 GL rfl)).tab).mono ?_;rintro e w' ⟨rfl,k,os,rfl⟩;refine⟨_,c,rfl,aD.bC ⟨rfl,rfl,rfl,by simp[Go.Sort.grow],fun b d=>?_⟩ a8.aX,.fz (.str ?_)⟩
 ·show(w.heap++os)[b]?=_;rw[Array.getElem?_append_left d]
 ·have:=se n a;show(Lib.itoa n).toArray.size<=_;simp only[List.size_toArray,maxLen];omega
def bytesWorld_below (w:World) (e:TypeId) (s:ByteArray):Below w.heap.size w (Lib.bytesWorld w e s):=⟨rfl,rfl,rfl,by rw[Lib.bytesWorld_size];omega,fun b a=>Lib.bytesWorld_at_old w e s b a⟩
def strconv_Atoi_ok (N:Nat) (s:ByteArray) (r:Int×Bool) (h:strconv_Atoi N s=some r):Spec prog 47 [(2000,GL)] [.str s] (.aS [.int r.1,.bY r.2]) [] []:=by
 unfold strconv_Atoi at h;obtain⟨j,h⟩:=mA h;have i:=of_decide_eq_true j;have h:=Option.some.inj h;refine⟨l8,fun _ h=>(by cases h),fun c w args a8 k=>?_⟩;obtain⟨v,rfl,l⟩:=jr k;obtain⟨rfl,n⟩:=l.ao;have G:=GL.at (a8.rep 2000 GL rfl);cases a:Lib.atoiAll s.data.toList with
 |ok x =>
  rw[a] at h;subst h;refine(Tryd.strconv_Atoi_ok s d9 x a w).mono ?_;rintro e w' ⟨rfl,m⟩;have d:=Lib.atoiAll_bounds a;refine⟨_,c,rfl,aD.bC ?_ a8.aX,.fz (Rf.aS (us:=[_,_]) (.cons (.int ⟨d9,d9⟩) (.cons .bf .nil)))⟩;rcases m with rfl|⟨t,rfl⟩
  ·exact Below.refl _ _
  ·exact bytesWorld_below w _ t
 |range =>
  rw[a] at h;subst h;obtain⟨ev,f,g⟩:=G.bG;refine(Tryd.strconv_Atoi_range s i a ev w f g).mono ?_;rintro e w' ⟨M,rfl,_,_,d⟩;have b:C8 (Lib.atoiSat s.data.toList):=by unfold Lib.atoiSat C8;split<;>omega
  exact⟨_,c,rfl,aD.bC d a8.aX,.fz (Rf.aS (us:=[_,_]) (.cons (.int b) (.cons (.cG _ _) .nil)))⟩
 |_ =>
  rw[a] at h;subst h;obtain⟨ev,f,g⟩:=G.vW;refine(Tryd.strconv_Atoi_syntax s i a ev w f g).mono ?_;rintro e w' ⟨M,rfl,_,_,d⟩;exact⟨_,c,rfl,aD.bC d a8.aX,.fz (Rf.aS (us:=[_,_]) (.cons (.int ⟨p8,p8⟩) (.cons (.cG _ _) .nil)))⟩
def tG (s sep:List UInt8):(Lib.cut s sep).1.length<=s.length/\(Lib.cut s sep).2.1.length<=s.length:=by
 unfold Lib.cut;split<;>simp<;>omega
def ra (N:Nat) (s sep:ByteArray) (r:ByteArray×ByteArray×Bool) (h:strings_Cut N s sep=some r):Spec prog 48 [(2000,GL)] [.str s,.str sep] (.aS [.str r.1,.str r.2.1,.bool r.2.2]) [] []:=by
 unfold strings_Cut at h;obtain⟨a,h⟩:=mA h;have b:=of_decide_eq_true a;obtain rfl:=Option.some.inj h;refine⟨l8,fun _ h=>(by cases h),fun c w args a8 f=>?_⟩;obtain⟨u,v,rfl,i,j⟩:=uv f;obtain⟨rfl,o⟩:=i.ao;obtain⟨rfl,_⟩:=j.ao;obtain⟨m,d⟩:=(GL.at (a8.rep 2000 GL rfl)).mx;refine(Tryd.strings_Cut s sep m w b d).mono ?_;rintro e w' ⟨rfl,k,rfl⟩;obtain⟨l,n⟩:=tG s.data.toList sep.data.toList;have g:s.data.toList.length=s.size:=by rw[Array.length_toList];rfl
 refine⟨_,c,rfl,aD.bC ⟨rfl,rfl,rfl,AA _,fun _ _=>rfl⟩ a8.aX,.fz (Rf.aS (us:=[_,_,_]) (.cons (.str ?_) (.cons (.str ?_) (.cons (.bool _) .nil))))⟩
 ·show(Lib.cut s.data.toList sep.data.toList).1.toArray.size<=_;rw[List.size_toArray];omega
 ·show(Lib.cut s.data.toList sep.data.toList).2.1.toArray.size<=_;rw[List.size_toArray];omega
def oe : ∃j,prog.info? 60=some j/\j.size=2:=AW.1 (show(prog.info? 60).map (·.size)=some 2 by kernel_rfl)
def rP : liesAt prog prog.depth 62 (2 / prog.cellsOf 62) 0 60 1=true:=l8
set_option maxHeartbeats 1000000 in
set_option maxRecDepth 100000 in
def rj (b:Nat) (w:World) (c:w.cell? ⟨b,0,none⟩=some (.pointer (some ⟨b,0,none⟩))) :
  Calls prog 49 #[.pointer (some ⟨b,0,none⟩)] w fun e w'=>e=.returned (.tuple #[])/\w'=w:=by
 obtain⟨j,a,_⟩:=oe
 go_enter func49,ntmps49
 go_wp2
 rw[Lib.run_neq_ptr_same w _ underlying58 a]
 go_wp2
 go_end0
 exact⟨rfl,rfl⟩
set_option maxHeartbeats 1000000 in
set_option maxRecDepth 100000 in
def rV (b:Nat) (w:World) (g:w.cell? ⟨b,0,none⟩=some (.pointer none)) (a:w.shape? b=some (62,2)) (f:w.frozen? ⟨b,0,none⟩=false) :
  Calls prog 49 #[.pointer (some ⟨b,0,none⟩)] w fun e w'=>e=.returned (.tuple #[])/\w'=w.setCell ⟨b,0,none⟩ (.pointer (some ⟨b,0,none⟩)):=by
 obtain⟨j,d,c⟩:=oe
 go_enter func49,ntmps49
 go_wp2
 rw[Lib.run_to_unsafe w ⟨b,0,none⟩ underlying58 underlying123 d (by rw[c];decide) a (Nat.zero_lt_succ 1)];simp only[Result.andThen];rw[Oper.upon_value]
 go_wp2
 rw[run_callFunc_extern func65 l8 l8 l8 (e:=Extern.AbiNoEscape.same) l8];rw[Lib.run_noEscape];simp only[Result.andThen];rw[Oper.upon_value]
 go_wp2
 rw[Lib.run_from_unsafe w ⟨b,0,none⟩ underlying123 underlying58 d a rP];simp only[Result.andThen];rw[Oper.upon_value]
 go_wp2
 go_end0
 exact⟨rfl,rfl⟩
def nQ (id j:Nat):Spec prog 49 [(id,.box [.np id,.aF j] 62)] [.ptr id 0] (.aS []) [(id,.box [.np id,.aF j] 62)] []:=by
 refine⟨l8,fun _ h=>(by cases h),fun c w args a8 u=>?_⟩;obtain⟨v,rfl,y⟩:=jr u;obtain rfl:=y.bK;obtain⟨us,a,x⟩:=a8.rep id _ (j3 _ _ _);have s:=(Array.getElem?_eq_some_iff.1 a).1;cases x with|cons n t=>cases t with|cons o t=>cases t with|nil =>
 rename_i p q;have b:w.cell? ⟨c.μ id,0,none⟩=some p:=by rw[Lib.cell_of_heap a];rfl
 have key:∀w':World,w'.heap[c.μ id]?=some (.cells [.pointer (some ⟨c.μ id,0,none⟩),q].toArray 62)->(∀k,k≠c.μ id->w'.heap[k]?=w.heap[k]?)->w'.heap.size=w.heap.size->w'.os=w.os->w'.tape=w.tape->w'.output=w.output ->
   ∃v c',Ending.returned (Value.tuple #[])=.returned v/\aD c w c' w' [(id,.box [.np id,.aF j] 62)] [(id,.box [.np id,.aF j] 62)] []/\Rd c' w' v (.aS []):=fun w' d f g i l m =>
  ⟨_,c,rfl,aD.write (us':=[_,q]) a8 d (.cons (.gr rfl) (.cons o .nil)) f g i l m,.aS .nil⟩
 rcases n.pk with rfl|rfl
 ·refine(rV (c.μ id) w b (by simp[World.shape?,a]) (Lib.frozen_of_heap a 0)).mono ?_;rintro e w' ⟨rfl,rfl⟩;refine key _ ?_ (fun k r=>Below.heap_setCell w _ _ k r) ?_ rfl rfl rfl
  ·simp[World.setCell,Array.getElem?_modify,a]
  ·simp[World.setCell]
 ·refine(rj (c.μ id) w b).mono ?_;rintro e w' ⟨rfl,rfl⟩;exact key _ a (fun _ _=>rfl) rfl rfl rfl rfl
theorem nP {P:Program} (w:World):∀(l:List Int) (a:Addr) (b:ByteArray),(∀j x,l[j]?=some x->w.cell? (a.add j)=some (.int .u8 x))->(loadBytes a b l.length).run P w=.ok ⟨b.data++(l.map fun n=>UInt8.ofNat n.toNat).toArray⟩ w
 |[],a,b,_=>by simp[loadBytes]
 |x::l,a,b,h=>by
  have d:w.cell? a=some (.int .u8 x):=by simpa[Addr.add] using h 0 x rfl
  have ih:=nP (P:=P) w l (a.add 1) (b.push (UInt8.ofNat x.toNat)) (fun j y f=>by
   have:=h (j+1) y (by simpa using f);have e:(a.add 1).add j=a.add (j+1):=by
    unfold Addr.add;by_cases c:j=0
    ·subst c;simp
    ·simp[c];omega
   rw[e];exact this)
  simp only[AX,loadBytes,Sem.run_bind,run_load,d,Result.andThen];rw[show x.toNat.toUInt8=UInt8.ofNat x.toNat from rfl,ih];congr 1;apply ByteArray.ext;simp[ByteArray.push]
def sP {P:Program} {e:TypeId} (a:P.cellsOf e=1) (count off n:Nat) (b:off+n<=count):liesAt P P.depth e count off e n=true:=by
 have hd:P.depth=(2*(P.types.size+Made.depth)+1)+1:=rfl;rw[hd];simp only[liesAt,Bool.or_eq_true];left;rw[hd];simp[rowAt,a,b,sameLayout,Nat.mod_one]
def qJ {P:Program} (w:World) (k q r e:TypeId) (z:P.underlying k=some (.pointer e)) (p:P.cellsOf e=1) (g x cells:Nat) (o:w.shape? g=some (e,cells)) (l:List Int) (t:l.length≠0) (v:x+l.length<=cells) (u:l.length<=9223372036854775807)
  (a:∀j y,l[j]?=some y->w.cell? ((⟨g,x,none⟩:Addr).add j)=some (.int .u8 y)) :
  (Builtin.unsafeString_ #[k,q] r #[.pointer (some ⟨g,x,none⟩),.int .i64 l.length]).run P w=.ok (.string (strOfNums l)) (w.freeze ⟨g,x,none⟩ l.length):=by
 have f:=nP (P:=P) w l ⟨g,x,none⟩ .empty a;have b:=sP (P:=P) p (cells / P.cellsOf e) x l.length (by rw[p];simpa using v);have c:¬(9223372036854775807:Int)<(l.length:Int):=d9;have d:Builtin.unsafeString_ #[k,q] r #[.pointer (some ⟨g,x,none⟩),.int .i64 l.length] =
   (do
    let n <-asInt (.int .i64 l.length)
    if n < 0 then runtimePanic (.error "unsafe.String: len out of range")
    if n > IntKind.i64.max then unsupported (.unsafePointer "String: a length above the largest int")
    if n=0 then pure (.string .empty)
    else if<-variablesAt ⟨g,x,none⟩ (<-elemOf k) n.toNat then do
     let s <-loadBytes ⟨g,x,none⟩ .empty n.toNat
     freeze ⟨g,x,none⟩ n.toNat
     pure (.string s)
    else unsupported (.unsafePointer "String: not so many bytes at ptr")) := rfl
 rw[d];have h:IntKind.i64.max=9223372036854775807:=rfl;have i:¬(l.length:Int)<0:=d9;have e0:(⟨ByteArray.empty.data++(l.map fun n=>UInt8.ofNat n.toNat).toArray⟩:ByteArray)=strOfNums l:=by
  have m:ByteArray.empty.data=#[]:=rfl;rw[m];simp[strOfNums]
 rw[e0] at f;simp[asInt,asIntOf,h,c,i,t,variablesAt,o,elemOf,run_underlying z,b,f]
set_option maxHeartbeats 1000000 in
set_option maxRecDepth 100000 in
def qM (b g x cap:Nat) (p:Value) (a:Array Value) (l:List Int) (w:World) (d:w.heap[b]?=some (.cells #[p,.slice (some ⟨g,x,none⟩) l.length cap] 62)) (i:l.length≠0) (h:l.length<=cap) (o:l.length<=9223372036854775807)
  (n:w.heap[g]?=some (.cells a 5)) (q:x+l.length<=a.size) (c:∀j y,l[j]?=some y->w.cell? ((⟨g,x,none⟩:Addr).add j)=some (.int .u8 y)) :
  Calls prog 22 #[.pointer (some ⟨b,0,none⟩)] w fun e w'=>e=.returned (.string (strOfNums l))/\w'=w.drew.freeze ⟨g,x,none⟩ l.length:=by
 have r:w.drew.cell? ⟨b,1,none⟩=some (.slice (some ⟨g,x,none⟩) l.length cap):=by
  have:w.drew.heap[b]?=some (.cells #[p,.slice (some ⟨g,x,none⟩) l.length cap] 62 (0,0)):=d;rw[Lib.cell_of_heap this];rfl
 have k:(Builtin.unsafeSliceData_ #[26] 97 #[.slice (some ⟨g,x,none⟩) l.length cap]).run prog w.drew=.ok (.pointer (some ⟨g,x,none⟩)) w.drew :=
  Lib.run_unsafeSliceData_row _ _ _ _ _ _ d9
 have m:(Builtin.unsafeString_ #[97,3] 9 #[.pointer (some ⟨g,x,none⟩),.int .i64 l.length]).run prog w.drew=.ok (.string (strOfNums l)) (w.drew.freeze ⟨g,x,none⟩ l.length) :=
  qJ w.drew 97 3 9 5 underlying97 l8 g x a.size (by have f:w.drew.heap[g]?=some (.cells a 5 (0,0)):=n;simp[World.shape?,f]) l i q o c
 have mixed:prog.follows .mixedOrders=true:=l8
 go_enter func22,ntmps22
 go_wp2
 go_region_o
 all_goals (go_wp2;go_ret;exact⟨rfl,rfl⟩)
def qC (l:List Int) (id j:Nat) (d:(!l.isEmpty)=true) (a:A4 id j=false:=by rfl):Spec prog 22 [(id,.box [.np id,.aF j] 62),(j,.row 1 (l.map fun n=>[AV.ik .u8 n]) 5)] [.ptr id 0] (.str (strOfNums l)) [(id,.aH),(j,.aH)] []:=by
 have a:=K7 a;have U:l.length≠0:=by cases l<;>simp_all
 refine⟨l8,fun _ h=>(by cases h),fun c w args a8 X=>?_⟩;obtain⟨v,rfl,D⟩:=jr X;obtain rfl:=D.bK;have P:lk [(id,Obj.box [.np id,.aF j] 62),(j,.row 1 (l.map fun n=>[AV.ik .u8 n]) 5)] j=some (.row 1 (l.map fun n=>[AV.ik .u8 n]) 5):=by rw[E8 _ _ a,j3]
 obtain⟨us,N,Y⟩:=a8.rep id _ (j3 _ _ _);obtain⟨css,Q,R,q3⟩:=a8.rep j _ P;rw[AM] at R;cases Y with|cons Z t=>cases t with|cons K t=>cases t with|nil =>
 rename_i p q;obtain⟨A,n,cap,rfl,C,e3,S⟩:=K.aj;have T:∀i y,l[i]?=some y->css[i]?=some [Value.int .u8 y]:=fun i y E=>by
  have hi:=(AB.1 E).1;have O:css[i]?=some css[i]:=A8 d9;have:=q3 i css[i] [AV.ik .u8 y] O (by simp[E]);rw[O];generalize css[i]=u at this;cases this with|cons h t=>cases t with|nil=>cases h with|ik=>rfl
 rcases Q.az with⟨_,hn⟩|⟨g,x,pp,L,F,D,V,a1,a2,a3,hx,a4⟩
 ·omega
 ·have hxp:=hx d9;rw[C] at D;injection D with v1 v2 v3
  subst v1 v2 v3;have f:∀i y,l[i]?=some y->w.cell? ((⟨g,x,none⟩:Addr).add i)=some (.int .u8 y):=fun i y E=>by
   obtain⟨g',x',M,z,W,H⟩:=Q.cells (T i y E);rw[C] at z;injection z with B _ _
   injection B with B
   injection B with B w2 _
   subst B w2;have:=H 0 _ rfl;rw[P5];simpa using this
  rw[R] at N C;refine(qM (c.μ id) g x cap p F l w N U d9 (by simp only[maxLen] at S;omega) V d9 f).mono ?_;rintro e w' ⟨rfl,rfl⟩;have I:aI c j (.row 1 (l.map fun n=>[AV.ik .u8 n]) 5) g:=by show(c.hd j).ownBlock=some g;rw[C];rfl
  have s:∀m,(w.drew.freeze ⟨g,x,none⟩ m).heap.size=w.heap.size:=fun m=>by unfold World.freeze;split<;>first|rfl|simp
  refine⟨_,c,rfl,⟨?_,?_,?_,by rw[s];exact AA _,fun _ h=>h,fun _ h=>.inl h,fun b k J=>?_,fun _ _=>⟨rfl,rfl⟩,⟨fun i o d=>?_,fun i o b d r=>?_,fun i i' o o' b _ d _ r=>?_,fun b k=>by rw[s];exact a8.aX b k⟩,fun i o b d r=>?_⟩,.fz (.str ?_)⟩
  ·unfold World.freeze;split<;>rfl
  ·unfold World.freeze;split<;>rfl
  ·unfold World.freeze;split<;>rfl
  ·have G:b≠g:=fun e=>J ⟨j,_,P,by rw[E8 _ _ a,j3];rfl,e▸I⟩;unfold World.freeze;split
   ·rfl
   ·simp only[Array.getElem?_modify];rw[Ae (fun e=>G e.symm)];rfl
  ·rcases bz d with⟨rfl,rfl⟩|⟨_,rfl,rfl⟩<;>trivial
  ·rcases bz d with⟨rfl,rfl⟩|⟨_,rfl,rfl⟩<;>exact r.elim
  ·rcases bz d with⟨rfl,rfl⟩|⟨_,rfl,rfl⟩<;>exact r.elim
  ·rcases bz d with⟨rfl,rfl⟩|⟨_,rfl,rfl⟩<;>exact r.elim
  ·rw[strOfNums_size];omega
section
open Go.ChangeShapes Go.WideShapes Go.ChangeAt Go.RowKit Go.Deep
theorem y9.u8 {P:Program} {t:TypeId} (a:P.underlying t=some (.int .u8)):y9 P t 1 (fun n:Int=>[AV.ik .u8 n]) cR V6:=⟨fun h=>by
 obtain⟨n,rfl,rfl,b⟩:=DataW.trod_int a h;have d:IntKind.u8.min<=n/\n<=IntKind.u8.max:=by simpa[Lit.wf] using b
 have e1:IntKind.u8.min=0:=rfl;have c:IntKind.u8.max=255:=rfl;exact⟨n,.cons (.ik _ n) .nil,rfl,by simp[Value.oneCell'],⟨d9,d9⟩,AA _⟩⟩
theorem eE.lt {W:World} (h:eE W):∀b∈ea,b<W.heap.size:=by
 have c : prog.globalNamed "internal/strconv.uint64pow10" = some 0 := l8;obtain ⟨t,⟨s,f,_⟩,⟨r,e,_⟩,⟨m,d⟩⟩:=h;have t1:=t.cell c 0 p8;intro b a;simp only [ea,AF,List.not_mem_nil,or_false] at a;rcases a with rfl|rfl|rfl|rfl
 ·exact iE t1
 ·exact iE f
 ·exact iE e
 ·exact iE d
theorem Spec.mm {P:Program} {f:Nat} {ins:List AV} (hS:Spec P f [(2000,GL)] ins (.bool true) [(2000,GL)] []) {W:World} (i:eE W) {args:Array Value} (h:l6 (ia W) W args.toList ins) :
  Calls P f args W fun e g=>e=.returned (.bool true)/\Below W.heap.size W g:=by
 have one:∀(id:Nat) (o:Obj),lk [(2000,GL)] id=some o->o=GL:=fun id o h=>by
  simp only[lk] at h;cases a:A4 2000 id<;>rw[a] at h
  ·cases h
  ·exact(Option.some.inj h).symm
 refine(hS.2.2 (ia W) W args ⟨fun id o h=>?_,fun id o b h c=>?_,fun id m o n b _ h _ c=>?_,fun b a=>a⟩ h).mono ?_
 ·obtain rfl:=one id o h;exact⟨fun b a=>i.lt b a,W,i,fun _ _=>rfl⟩
 ·obtain rfl:=one id o h;exact c.elim
 ·obtain rfl:=one id o h;exact c.elim
 rintro e g ⟨v,c',rfl,d,l⟩;exact⟨by rw[l.ai],d.bO,d.tape,d.output,d.size,fun k j=>d.aK k j fun⟨id,o,h,_,c⟩=>by
  obtain rfl:=one id o h;exact c.elim⟩
def star : "*" ++ "errors.errorString" = "*errors.errorString" := p8
def nS (u : TypeId) (h : prog.typeName? 3 u = some "*errors.errorString") : u = 155 :=
 typeName_ptr_named (nm := "errors.errorString") (by rw [star]; kernel_rfl) l8 p8 u (by rw [star]; exact h)
theorem eE.fl {W : World} {x y : String × DataW Unit} (h : laidMetH prog [x, y, ("internal/strconv.uint64pow10", Rows.laid_internal_strconv_uint64pow10), ("strconv.ErrRange", Rows.laid_strconv_ErrRange), ("strconv.ErrSyntax", Rows.laid_strconv_ErrSyntax)] W)
  (c:x.2.handleName?.isNone=true) (d:y.2.handleName?.isNone=true) (b:W.ShapedOpen prog):eE W:=by
 rw [MakeChecks.laidMetH_plain _ _ _ (by simp only [List.all_cons,c,d,Bool.true_and]; kernel_rfl)] at h;have a : laidMet prog (("internal/strconv.uint64pow10", Lib.tabData .u64 Lib.pow10Tab) :: [("strconv.ErrRange", Rows.laid_strconv_ErrRange), ("strconv.ErrSyntax", Rows.laid_strconv_ErrSyntax)]) W := h.tail.tail;obtain ⟨i,k,e,_⟩:=laid_sentinel (g:=2) (ti:=93) (tp:=155) (te:=157) (ts:=9) h.tail.tail.tail l8 l8 underlying93 nS underlying155 underlying157 rfl rfl underlying9 l8 l8;obtain ⟨j,l,f,_⟩:=laid_sentinel (g:=1) (ti:=93) (tp:=155) (te:=157) (ts:=9) h.tail.tail.tail.tail l8 l8 underlying93 nS underlying155 underlying157 rfl rfl underlying9 l8 l8;refine ⟨Lib.tabIs_of_head (g := 0) l8 l8 underlying142 underlying121 l8 l8 a, ⟨_, by simpa using World.var?_cell (show prog.globalNamed "strconv.ErrSyntax" = some 1 by kernel_rfl) f 0, .inr ⟨_, _, rfl⟩⟩, ⟨_, by simpa using World.var?_cell (show prog.globalNamed "strconv.ErrRange" = some 2 by kernel_rfl) e 0, .inr ⟨_, _, rfl⟩⟩, ?_⟩;exact cell_of_shapedOpen_int (zero:=#[.int .i64 0]) (t:=3) b (of_decide_eq_true l8) l8 rfl l8 l8 underlying3
end
section
open Go.ChangeShapes Go.WideShapes Go.ChangeAt Go.RowKit Go.Deep
set_option maxRecDepth 100000 in
def tq : y9 prog 77 5 fG jt dT:=⟨fun {H d w g a fuel p x} h=>by
  obtain⟨q,n,_,D,f,j,e⟩:=DataW.trod_struct underlying77 h;have B:p.length=5:=f.trans l8;have C:q.length=5:=j;have c:prog.cellsOf 3=1:=l8;have i:prog.cellsOf 9=1:=l8
  match p,B,q,C with
  |[k,l,m,c3,o],_,[U,V,W,X,Y],_ =>
    have f0:DataW.trod d prog w 0 g a n 3 [k]=some U:=(by simpa[c] using e 0 _ rfl);obtain⟨r,P,l0,K,E,Z⟩:=(y9.int underlying3).out f0;have f1:DataW.trod d prog w 0 g a n 3 [l]=some V:=by simpa[c] using e 1 _ rfl
    obtain⟨s,Q,l1,L,F,b1⟩:=(y9.int underlying3).out f1;have z:DataW.trod d prog w 0 g a n 3 [m]=some W:=by simpa[c] using e 2 _ rfl
    obtain⟨t,R,l2,M,G,b2⟩:=(y9.int underlying3).out z;have A:DataW.trod d prog w 0 g a n 3 [c3]=some X:=by simpa[c] using e 3 _ rfl
    obtain⟨v,S,l3,N,I,b3⟩:=(y9.int underlying3).out A;have f4:DataW.trod d prog w 0 g a n 9 [o]=some Y:=by simpa[i] using e 4 _ rfl
    obtain⟨y,T,l4,O,J,b4⟩:=(y9.str underlying9).out f4;refine⟨⟨r,s,t,v,y⟩,(P.append (Q.append (R.append (S.append T)))),rfl,fun u b=>?_,⟨E,F,G,I,J⟩,?_⟩
    · have b:u∈[k]++[l]++[m]++[c3]++[o]:=b
      simp only[AR] at b;rcases b with(((b|b)|b)|b)|b
      · exact K u b
      · exact L u b
      · exact M u b
      · exact N u b
      · exact O u b
    · subst D
      simp only[AN,List.map_nil,Rows.uptoBulk,Rows.uptoBulkAll,dT];omega⟩
def tH : y9 prog 44 1 (fun l:(List Ins)=>[AV.sl 5 (l.map fG)]) (df jt) (bI dT):=y9.slice underlying44 l8 p8 tq
set_option maxRecDepth 100000 in
def tX : y9 prog 46 5 S9 k5 cv:=⟨fun {H e w i a fuel q x} h=>by
  obtain⟨r,n,_,E,g,k,f⟩:=DataW.trod_struct underlying46 h;have C:q.length=5:=g.trans l8;have D:r.length=5:=k;have c:prog.cellsOf 3=1:=l8;have j:prog.cellsOf 9=1:=l8;have d:prog.cellsOf 44=1:=l8
  match q,C,r,D with
  |[l,m,o,c3,p],_,[V,W,X,Y,Z],_ =>
    have f0:DataW.trod e prog w 0 i a n 9 [l]=some V:=(by simpa[j] using f 0 _ rfl);obtain⟨s,Q,l0,L,F,b0⟩:=(y9.str underlying9).out f0;have f1:DataW.trod e prog w 0 i a n 3 [m]=some W:=by simpa[c] using f 1 _ rfl
    obtain⟨t,R,l1,M,G,b1⟩:=(y9.int underlying3).out f1;have A:DataW.trod e prog w 0 i a n 3 [o]=some X:=by simpa[c] using f 2 _ rfl
    obtain⟨v,S,l2,N,I,b2⟩:=(y9.int underlying3).out A;have B:DataW.trod e prog w 0 i a n 3 [c3]=some Y:=by simpa[c] using f 3 _ rfl
    obtain⟨y,T,l3,O,J,b3⟩:=(y9.int underlying3).out B;have f4:DataW.trod e prog w 0 i a n 44 [p]=some Z:=by simpa[d] using f 4 _ rfl
    obtain⟨z,U,l4,P,K,b4⟩:=tH.out f4;refine⟨⟨s,t,v,y,z⟩,(Q.append (R.append (S.append (T.append U)))),rfl,fun u b=>?_,⟨F,G,I,J,K⟩,?_⟩
    · have b:u∈[l]++[m]++[o]++[c3]++[p]:=b
      simp only[AR] at b;rcases b with(((b|b)|b)|b)|b
      · exact L u b
      · exact M u b
      · exact N u b
      · exact O u b
      · exact P u b
    · subst E
      simp only[AN,List.map_nil,Rows.uptoBulk,Rows.uptoBulkAll,cv];omega⟩
def tL : y9 prog 39 1 (fun l:(List Me)=>[AV.sl 5 (l.map S9)]) (df k5) (bI cv):=y9.slice underlying39 l8 p8 tX
set_option maxRecDepth 100000 in
def tI : y9 prog 41 4 fe iY dH:=⟨fun {H f w i a fuel p x} h=>by
  obtain⟨q,n,_,C,e,k,g⟩:=DataW.trod_struct underlying41 h;have A:p.length=4:=e.trans l8;have B:q.length=4:=k;have c:prog.cellsOf 3=1:=l8;have j:prog.cellsOf 9=1:=l8;have d:prog.cellsOf 39=1:=l8
  match p,A,q,B with
  |[l,m,o,c3],_,[Q,R,S,T],_ =>
    have f0:DataW.trod f prog w 0 i a n 9 [l]=some Q:=(by simpa[j] using g 0 _ rfl);obtain⟨r,M,Y,I,D,U⟩:=(y9.str underlying9).out f0;have f1:DataW.trod f prog w 0 i a n 3 [m]=some R:=by simpa[c] using g 1 _ rfl
    obtain⟨s,N,Z,J,E,V⟩:=(y9.int underlying3).out f1;have y:DataW.trod f prog w 0 i a n 3 [o]=some S:=by simpa[c] using g 2 _ rfl
    obtain⟨t,O,l2,K,F,W⟩:=(y9.int underlying3).out y;have z:DataW.trod f prog w 0 i a n 39 [c3]=some T:=by simpa[d] using g 3 _ rfl
    obtain⟨v,P,l3,L,G,X⟩:=tL.out z;refine⟨⟨r,s,t,v⟩,(M.append (N.append (O.append P))),rfl,fun u b=>?_,⟨D,E,F,G⟩,?_⟩
    · have b:u∈[l]++[m]++[o]++[c3]:=b
      simp only[AR] at b;rcases b with((b|b)|b)|b
      · exact I u b
      · exact J u b
      · exact K u b
      · exact L u b
    · subst C
      simp only[AN,List.map_nil,Rows.uptoBulk,Rows.uptoBulkAll,dH];omega⟩
def tb : y9 prog 22 1 (fun l:(List Cl)=>[AV.sl 4 (l.map fe)]) (df iY) (bI dH):=y9.slice underlying22 l8 p8 tI
set_option maxRecDepth 100000 in
def tK : y9 prog 70 2 eV kF dZ:=⟨fun {H j w l a fuel i x} h=>by
  obtain⟨m,n,_,s,d,e,k⟩:=DataW.trod_struct underlying70 h;have q:i.length=2:=d.trans l8;have r:m.length=2:=e;have c:prog.cellsOf 3=1:=l8
  match i,q,m,r with
  |[f,g],_,[C,D],_ =>
    have f0:DataW.trod j prog w 0 l a n 3 [f]=some C:=(by simpa[c] using k 0 _ rfl);obtain⟨o,A,G,y,t,E⟩:=(y9.int underlying3).out f0;have f1:DataW.trod j prog w 0 l a n 3 [g]=some D:=by simpa[c] using k 1 _ rfl
    obtain⟨p,B,I,z,v,F⟩:=(y9.int underlying3).out f1;refine⟨⟨o,p⟩,(A.append B),rfl,fun u b=>?_,⟨t,v⟩,?_⟩
    · have b:u∈[f]++[g]:=b
      simp only[AR] at b;rcases b with b|b
      · exact y u b
      · exact z u b
    · subst s
      simp only[AN,List.map_nil,Rows.uptoBulk,Rows.uptoBulkAll,dZ];omega⟩
def tl : y9 prog 66 1 (fun l:(List V)=>[AV.sl 2 (l.map eV)]) (df kF) (bI dZ):=y9.slice underlying66 l8 p8 tK
set_option maxRecDepth 100000 in
def tR : y9 prog 68 2 im kB dJ:=⟨fun {H k w m a fuel j x} h=>by
  obtain⟨o,n,_,t,d,f,l⟩:=DataW.trod_struct underlying68 h;have r:j.length=2:=d.trans l8;have s:o.length=2:=f;have e:prog.cellsOf 3=1:=l8;have c:prog.cellsOf 66=1:=l8
  match j,r,o,s with
  |[g,i],_,[D,E],_ =>
    have f0:DataW.trod k prog w 0 m a n 3 [g]=some D:=(by simpa[e] using l 0 _ rfl);obtain⟨p,B,I,z,v,F⟩:=(y9.int underlying3).out f0;have f1:DataW.trod k prog w 0 m a n 66 [i]=some E:=by simpa[c] using l 1 _ rfl
    obtain⟨q,C,J,A,y,G⟩:=tl.out f1;refine⟨⟨p,q⟩,(B.append C),rfl,fun u b=>?_,⟨v,y⟩,?_⟩
    · have b:u∈[g]++[i]:=b
      simp only[AR] at b;rcases b with b|b
      · exact z u b
      · exact A u b
    · subst t
      simp only[AN,List.map_nil,Rows.uptoBulk,Rows.uptoBulkAll,dJ];omega⟩
def tU : y9 prog 23 1 (fun l:(List Ob)=>[AV.sl 2 (l.map im)]) (df kB) (bI dJ):=y9.slice underlying23 l8 p8 tR
set_option maxRecDepth 100000 in
def tO : y9 prog 25 3 cW iX eQ:=⟨fun {H g w k a fuel p x} h=>by
  obtain⟨q,n,_,A,e,j,i⟩:=DataW.trod_struct underlying25 h;have y:p.length=3:=e.trans l8;have z:q.length=3:=j;have f:prog.cellsOf 3=1:=l8;have c:prog.cellsOf 22=1:=l8;have d:prog.cellsOf 23=1:=l8
  match p,y,q,z with
  |[l,m,o],_,[L,M,N],_ =>
    have f0:DataW.trod g prog w 0 k a n 22 [l]=some L:=(by simpa[c] using i 0 _ rfl);obtain⟨r,I,R,E,B,O⟩:=tb.out f0;have f1:DataW.trod g prog w 0 k a n 23 [m]=some M:=by simpa[d] using i 1 _ rfl
    obtain⟨s,J,S,F,C,P⟩:=tU.out f1;have v:DataW.trod g prog w 0 k a n 3 [o]=some N:=by simpa[f] using i 2 _ rfl
    obtain⟨t,K,l2,G,D,Q⟩:=(y9.int underlying3).out v;refine⟨⟨r,s,t⟩,(I.append (J.append K)),rfl,fun u b=>?_,⟨B,C,D⟩,?_⟩
    · have b:u∈[l]++[m]++[o]:=b
      simp only[AR] at b;rcases b with(b|b)|b
      · exact E u b
      · exact F u b
      · exact G u b
    · subst A
      simp only[AN,List.map_nil,Rows.uptoBulk,Rows.uptoBulkAll,eQ];omega⟩
end
def O9 (N:Nat) (b:(List Int)) (a:ByteArray):Option (Int×Bool×(List Int)) :=
  bif AE (b.length+a.size) 140737488355328 then some ((a.size:Int),true,b++N9 a)else none
def Q6 (N:Nat) (a:(List Int)) (b:Int):Option (Bool×(List Int)) :=
  bif AE ((a.length+[b].length)*1) 140737488355328 then some (true,a++[b])else none
def J9 (N:Nat) (a:(List Int)) (b:ByteArray):Option (List Int) :=
  (O9 N a b).bind fun c=>(Q6 N c.2.2 32).bind fun d=>some d.2
def G9 (N:Nat):List Int->Nat->(List Int)->Option ((List Int))
  |[],d,c=>some c
  |x10::rest7,d,c=>(strconv_Itoa N x10).bind fun a=>(J9 N c a).bind fun b=>G9 N rest7 (d+1) b
def G5 (N:Nat) (a:(List Int)) (b:(List Int)):Option (List Int) :=
  (G9 N b 0 a).bind fun c=>some c
def F4 (N:Nat):List Ins->Nat->(List Int)->Option ((List Int))
  |[],g,f=>some f
  |x15::rest12,g,f=>((G5 N f [x15.op,x15.a]).bind fun b=>(bif x15.op=14 then(J9 N b x15.name).bind fun c=>some c else some b).bind fun e=>some e:Option (List Int)).bind fun d=>F4 N rest12 (g+1) d
def V5 (N:Nat) (c:(List Int)) (a:Me):Option (List Int) :=
  (J9 N c a.name).bind fun d=>(G5 N d [a.args,a.aO,a.aQ,(a.code.length:Int)]).bind fun e=>(F4 N a.code 0 e).bind fun b=>some b
def M8 (N:Nat):List Me->Nat->(List Int)->Option ((List Int))
  |[],b,a=>some a
  |x30::rest27,b,a=>(V5 N a x30).bind fun c=>M8 N rest27 (b+1) c
def M7 (N:Nat):List Cl->Nat->(List Int)->Option ((List Int))
  |[],e,d=>some d
  |x13::rest10,e,d=>(J9 N d x13.name).bind fun a=>(G5 N a [x13.aJ,x13.aE,(x13.aA.length:Int)]).bind fun b=>(M8 N x13.aA 0 b).bind fun c=>M7 N rest10 (e+1) c
def M9 (N:Nat):List V->Nat->(List Int)->Option ((List Int))
  |[],b,a=>some a
  |x62::rest59,b,a=>(G5 N a [x62.k,x62.n]).bind fun c=>M9 N rest59 (b+1) c
def N7 (N:Nat):List Ob->Nat->(List Int)->Option ((List Int))
  |[],b,a=>some a
  |x47::rest44,b,a=>(G5 N a [x47.cls,(x47.aE.length:Int)]).bind fun c=>(M9 N x47.aE 0 c).bind fun d=>N7 N rest44 (b+1) d
def hF (N:Nat) (a:Wd):Option (List Int) :=
  (G5 N [] [a.aR,(a.a7.length:Int)]).bind fun d=>(M7 N a.a7 0 d).bind fun e=>(G5 N e [(a.heap.length:Int)]).bind fun c=>(N7 N a.heap 0 c).bind fun b=>bif !b.isEmpty then some (N9 (strOfNums b))else none
def F3 (N:Nat) (b:l7):Option (ByteArray×l7) :=
  (strings_Cut N b.s ⟨#[32]⟩).bind fun a=>(bif !a.2.2 then some true else some (decide (a.1=⟨#[]⟩))).bind fun c=>bif c then some (⟨#[]⟩,⟨b.s,false⟩)else some (a.1,⟨a.2.1,b.fE⟩)
def j6 (N:Nat) (d:l7):Option (Int×l7) :=
  (F3 N d).bind fun a=>(strconv_Atoi N a.1).bind fun b=>(bif !b.2 then some true else(strconv_Itoa N b.1).bind fun e=>some (!e=a.1)).bind fun f=>(bif f then some ⟨a.2.s,false⟩else some a.2).bind fun c=>some (b.1,c)
def C9 (N:Nat) (b:l7) (c:Int):Option (Int×l7) :=
  (j6 N b).bind fun a=>(bif a.1<0 then some true else some (decide (c<a.1))).bind fun d=>bif d then some (0,⟨a.2.s,false⟩)else some (a.1,a.2)
def D6 (N:Nat):Nat->Nat->l7->(List Ins)->Option ((l7×(List Ins)))
  |0,e,d,c=>some (d,c)
  |h+1,e,d,c=>(j6 N d).bind fun a=>(j6 N a.2).bind fun b=>(bif a.1=14 then(F3 N b.2).bind fun f=>some (f.2,f.1)else some (b.2,AK)).bind fun(i,g)=>bif AE ((c.length+[(⟨a.1,b.1,0,0,g⟩:Ins)].length)*48) 140737488355328 then D6 N h (e+1) i (c++[⟨a.1,b.1,0,0,g⟩])else none
def K6 (N:Nat) (h:l7):Option (Me×l7) :=
  (F3 N h).bind fun c=>(j6 N c.2).bind fun d=>(j6 N d.2).bind fun e=>(j6 N e.2).bind fun f=>(C9 N f.2 60).bind fun g=>(D6 N (g.1-((0:Nat):Int)).toNat 0 g.2 []).bind fun(a,b)=>some (⟨c.1,d.1,e.1,f.1,b⟩,a)
def u6 (N:Nat):Nat->Nat->l7->(List Me)->Option ((l7×(List Me)))
  |0,d,c,a=>some (c,a)
  |e+1,d,c,a=>(K6 N c).bind fun b=>bif AE ((a.length+[b.1].length)*64) 140737488355328 then u6 N e (d+1) b.2 (a++[b.1])else none
def D8 (N:Nat):Nat->Nat->l7->(List Cl)->Option ((l7×(List Cl)))
  |0,j,i,f=>some (i,f)
  |g+1,j,i,f=>(F3 N i).bind fun a=>(j6 N a.2).bind fun b=>(j6 N b.2).bind fun c=>(C9 N c.2 8).bind fun d=>(u6 N (d.1-((0:Nat):Int)).toNat 0 d.2 []).bind fun(h,e)=>bif AE ((f.length+[(⟨a.1,b.1,c.1,e⟩:Cl)].length)*56) 140737488355328 then D8 N g (j+1) h (f++[⟨a.1,b.1,c.1,e⟩])else none
def q9 (N:Nat):Nat->Nat->l7->(List V)->Option ((l7×(List V)))
  |0,e,d,a=>some (d,a)
  |f+1,e,d,a=>(j6 N d).bind fun b=>(j6 N b.2).bind fun c=>bif AE ((a.length+[(⟨b.1,c.1⟩:V)].length)*16) 140737488355328 then q9 N f (e+1) c.2 (a++[⟨b.1,c.1⟩])else none
def D7 (N:Nat):Nat->Nat->l7->(List Ob)->Option ((l7×(List Ob)))
  |0,d,c,a=>some (c,a)
  |g+1,d,c,a=>(j6 N c).bind fun b=>(C9 N b.2 6).bind fun e=>(q9 N (e.1-((0:Nat):Int)).toNat 0 e.2 []).bind fun(h,f)=>bif AE ((a.length+[(⟨b.1,f⟩:Ob)].length)*32) 140737488355328 then D7 N g (d+1) h (a++[⟨b.1,f⟩])else none
def X8 (N:Nat) (h:l7):Option (Wd×l7) :=
  (j6 N h).bind fun f=>(C9 N f.2 12).bind fun g=>(D8 N (g.1-((0:Nat):Int)).toNat 0 g.2 []).bind fun(b,c)=>(C9 N b 60).bind fun a=>(D7 N (a.1-((0:Nat):Int)).toNat 0 a.2 []).bind fun(d,e)=>some (⟨c,e,f.1⟩,d)
def P9 (N:Nat) (b:ByteArray):Nat->Nat->Option (M3 Bool Unit)
  |0,a=>some (.next ())
  |c+1,a=>((gj b (a:Int)).bind fun d=>bif(d.toNat:Int)<=32 then some true else(gj b (a:Int)).bind fun e=>some (126<(e.toNat:Int)):Option Bool).bind fun f=>bif f then some (.ret false)else P9 N b c (a+1)
def fy (N:Nat) (a:ByteArray):Option Bool :=
  (bif(a.size:Int)<1 then some true else some (decide (12<(a.size:Int)))).bind fun b=>bif b then some false else(P9 N a ((a.size:Int)-((0:Nat):Int)).toNat 0).bind fun o=>match o with|.ret r=>some r|.next ()=>some true
def R6 (N:Nat) (a:Wd):Nat->Int->Int->Int->Option (Int)
  |0,_,_,_=>none
  |c+1,b,g,h=>(bif 0<=b then bif b<(a.a7.length:Int)then some (decide (h<=(a.a7.length:Int)))else some false else some false).bind fun d=>bif d then(J3 a.a7 b).bind fun e=>(J3 a.a7 b).bind fun f=>R6 N a c f.aJ (wr (g+e.aE)) (wr (h+1))else some g
def X0 (N:Nat) (a:Wd) (b:Int):Option Int :=
  (R6 N a N b 0 0).bind fun c=>some c
def l5 (N:Nat) (j:(List Me)) (k:ByteArray) (l:(Me->ByteArray->Option Int)):Nat->Int->Int->Option (Int)
  |0,_,_=>none
  |c+1,a,b=>bif a<b then(bif 0<=wr (a+b)then bif C8 (wr (a+b)/2)then(J3 j (wr (a+b)/2)).bind fun i=>(l i k).bind fun d=>(bif d<0 then some (wr (wr (a+b)/2+1),b)else some (a,wr (a+b)/2)).bind fun(g,h)=>some (g,h)else none else none).bind fun(e,f)=>l5 N j k l c e f else some a
def o6 (N:Nat) (a:(List Me)) (f:ByteArray) (g:Me->ByteArray->Option Int):Option (Int×Bool) :=
  (l5 N a f g N 0 (a.length:Int)).bind fun d=>(bif d<(a.length:Int)then(J3 a d).bind fun e=>(g e f).bind fun b=>some (decide (b=0))else some false).bind fun c=>some (d,c)
def cmp_isNaN_string (N:Nat) (a:ByteArray):Option Bool :=
  some (!a=a)
def kV (N:Nat) (a:ByteArray) (b:ByteArray):Option Int :=
  (cmp_isNaN_string N a).bind fun d=>(cmp_isNaN_string N b).bind fun c=>bif d then bif c then some 0 else some (-1)else bif c then some 1 else bif P6 a b then some (-1)else bif !(P6 a b||a=b)then some 1 else some 0
def Q9 (N:Nat) (a:Me) (b:ByteArray):Option Int :=
  (kV N a.name b).bind fun c=>some c
def Q4 (N:Nat) (a:Wd) (i:ByteArray):Nat->Int->Int->Option (M3 (Int×Int) Unit)
  |0,_,_=>none
  |k+1,c,j=>(bif 0<=c then bif c<(a.a7.length:Int)then some (decide (j<=(a.a7.length:Int)))else some false else some false).bind fun d=>bif d then(J3 a.a7 c).bind fun f=>(o6 N f.aA i fun e g=>Q9 N e g).bind fun b=>bif b.2 then some (.ret (c,b.1))else(J3 a.a7 c).bind fun h=>Q4 N a i k h.aJ (wr (j+1))else some (.next ())
def jM (N:Nat) (a:Wd) (b:Int) (c:ByteArray):Option (Int×Int) :=
  (Q4 N a c N b 0).bind fun o=>match o with|.ret r=>some r|.next ()=>some (-1,-1)
def hQ (N:Nat) (b:Wd) (a:Me):Option Bool :=
  (jM N b 3 a.name).bind fun c=>(bif 0<=c.2 then(J3 b.a7 3).bind fun e=>(J3 e.aA c.2).bind fun f=>bif a.aQ=f.aQ then bif a.args=1 then bif a.aO=0 then some (decide ((a.code.length:Int)=0))else some false else some false else some false else some false).bind fun d=>some d
def K8 (N:Nat) (a:Int) (b:Int):Option Bool :=
  (bif 0<=a then some (decide (a<b))else some false).bind fun c=>some c
def jG (N:Nat) (y:Wd) (z:Int) (e:Me) (d:Ins):Option Int :=
  ((bif d.op=1 then some (decide (d.op=1))else(bif d.op=6 then some (decide (d.op=6))else(bif d.op=7 then some (decide (d.op=7))else(bif d.op=8 then some (decide (d.op=8))else(bif d.op=9 then some (decide (d.op=9))else(bif d.op=10 then some (decide (d.op=10))else some (decide (d.op=17))).bind fun q=>some q).bind fun p=>some p).bind fun n=>some n).bind fun m=>some m).bind fun B=>some B).bind fun A=>(bif A then some (.next (d.a=0,false))else(bif d.op=2 then(K8 N d.a e.args).bind fun f=>some (.next (f,false))else(bif d.op=3 then some (decide (d.op=3))else some (decide (d.op=11))).bind fun s=>(bif s then(K8 N d.a e.aO).bind fun g=>some (.next (g,false))else(bif d.op=4 then some (decide (d.op=4))else some (decide (d.op=12))).bind fun t=>(bif t then(X0 N y z).bind fun h=>(K8 N d.a h).bind fun i=>some (.next (i,false))else(bif d.op=5 then(bif -1073741824<=d.a then some (decide (d.a<=1073741824))else some false).bind fun u=>some (.next (u,false))else(bif d.op=13 then(bif d.a=0 then some true else bif 4<=d.a then some (decide (d.a<(y.a7.length:Int)))else some false).bind fun v=>some (.next (v,false))else(bif d.op=14 then(K8 N d.a 5).bind fun j=>some (.next (j,true))else(bif d.op=15 then some (decide (d.op=15))else some (decide (d.op=16))).bind fun w=>bif w then(K8 N d.a (e.code.length:Int)).bind fun k=>some (.next (k,false))else some (.ret 1):Option (M3 Int (Bool×Bool))).bind fun o=>match o with|.ret r=>some (.ret r)|.next (v68,v69)=>some (.next (v68,v69)):Option (M3 Int (Bool×Bool))).bind fun o=>match o with|.ret r=>some (.ret r)|.next (v59,v60)=>some (.next (v59,v60)):Option (M3 Int (Bool×Bool))).bind fun o=>match o with|.ret r=>some (.ret r)|.next (v52,v53)=>some (.next (v52,v53)):Option (M3 Int (Bool×Bool))).bind fun o=>match o with|.ret r=>some (.ret r)|.next (v44,v45)=>some (.next (v44,v45)):Option (M3 Int (Bool×Bool))).bind fun o=>match o with|.ret r=>some (.ret r)|.next (v35,v36)=>some (.next (v35,v36)):Option (M3 Int (Bool×Bool))).bind fun o=>match o with|.ret r=>some (.ret r)|.next (v26,v27)=>some (.next (v26,v27)):Option (M3 Int (Bool×Bool))).bind fun o=>match o with|.ret r=>some (.ret r)|.next (v22,v23)=>some (.next (v22,v23)):Option (M3 Int (Bool×Bool))).bind fun o=>match o with|.ret r=>some r|.next (v1,v2)=>bif !v1 then some 3 else(bif v2 then(fy N d.name).bind fun l=>bif !l then some true else bif !v2 then bif !d.name=⟨#[]⟩then some true else bif !d.b=0 then some true else some (!d.c=0)else bif !d.b=0 then some true else some (!d.c=0)else bif !v2 then bif !d.name=⟨#[]⟩then some true else bif !d.b=0 then some true else some (!d.c=0)else bif !d.b=0 then some true else some (!d.c=0)).bind fun x=>bif x then some 2 else some 0
def jI (N:Nat) (b:Ins):Option (Int×Int) :=
  (bif b.op=9 then some (decide (b.op=9))else(bif b.op=11 then some (decide (b.op=11))else(bif b.op=12 then some (decide (b.op=12))else(bif b.op=16 then some (decide (b.op=16))else some (decide (b.op=17))).bind fun c=>some c).bind fun f=>some f).bind fun e=>some e).bind fun d=>bif d then some (1,0)else bif b.op=10 then some (1,2)else bif b.op=14 then some (wr (b.a+1),1)else bif b.op=15 then some (0,0)else some (0,1)
def J4 (N:Nat):Nat->Nat->(List Int)->Option ((List Int))
  |0,a,b=>some b
  |c+1,a,b=>(J3 b (a:Int)).bind fun d=>J4 N c (a+1) (b.set (a:Int).toNat (-1))
def M0 (N:Nat) (i:Me):Nat->(List Int)->(List I5)->Option (M3 ((List Int)×V9) (List Int))
  |0,_,_=>none
  |j+1,g,e=>bif 0<(e.length:Int)then((J3 e 0).bind fun b=>(J3 e 0).bind fun d=>bif 0<=(1:Int)&&1<=(e.length:Int)then(bif b.f0<0 then some true else some (decide ((i.code.length:Int)<=b.f0))).bind fun k=>bif k then some (.ret ([],⟨9,(i.code.length:Int)⟩))else(J3 g b.f0).bind fun q=>bif 0<=q then(J3 g b.f0).bind fun s=>bif !s=d.f1 then some (.ret ([],⟨8,b.f0⟩))else some (.next (g,e.drop (1:Int).toNat))else(J3 g b.f0).bind fun t=>(J3 i.code b.f0).bind fun f=>(jI N f).bind fun c=>(bif d.f1<c.1 then some true else bif f.op=17 then some (!d.f1=1)else some false).bind fun l=>bif l then some (.ret ([],⟨8,b.f0⟩))else bif 12<wr (d.f1+wr (c.2-c.1))then some (.ret ([],⟨4,b.f0⟩))else(bif !f.op=15 then some (!f.op=17)else some false).bind fun m=>(bif m then bif AE (((e.drop (1:Int).toNat).length+[(⟨wr (b.f0+1),wr (d.f1+wr (c.2-c.1))⟩:I5)].length)*16) 140737488355328 then some (e.drop (1:Int).toNat++[⟨wr (b.f0+1),wr (d.f1+wr (c.2-c.1))⟩])else none else some (e.drop (1:Int).toNat)).bind fun h=>(bif f.op=15 then some true else some (decide (f.op=16))).bind fun n=>(bif n then bif AE ((h.length+[(⟨f.a,wr (d.f1+wr (c.2-c.1))⟩:I5)].length)*16) 140737488355328 then some (h++[⟨f.a,wr (d.f1+wr (c.2-c.1))⟩])else none else some h).bind fun p=>some (.next (g.set b.f0.toNat d.f1,p))else none:Option (M3 ((List Int)×V9) ((List Int)×(List I5)))).bind fun o=>match o with|.ret r=>some (.ret r)|.next (v29,v30)=>M0 N i j v29 v30 else some (.next g)
def jD (N:Nat) (a:Me):Option ((List Int)×V9) :=
  bif 0<=(a.code.length:Int)&&(a.code.length:Int)<=140737488355328&&(a.code.length:Int)*8<=140737488355328 then(J4 N (((AJ (a.code.length:Int).toNat (0:Int)).length:Int)-((0:Nat):Int)).toNat 0 (AJ (a.code.length:Int).toNat 0)).bind fun b=>(M0 N a N b [⟨0,0⟩]).bind fun o=>match o with|.ret r=>some r|.next v22=>some (v22,⟨0,0⟩)else none
def P7 (N:Nat) (c:Wd) (d:Int) (e:Me):List Ins->Nat->Option (M3 V9 Unit)
  |[],a=>some (.next ())
  |x28::rest25,a=>(jG N c d e x28).bind fun b=>bif !b=0 then some (.ret ⟨b,(a:Int)⟩)else P7 N c d e rest25 (a+1)
def jN (N:Nat) (e:Wd) (b:Int) (a:Me):Option V9 :=
  (bif b<0 then some true else some (decide ((e.a7.length:Int)<=b))).bind fun g=>bif g then some ⟨6,0⟩else(fy N a.name).bind fun f=>bif !f then some ⟨7,0⟩else(bif a.args<0 then some true else bif 4<a.args then some true else bif a.aO<0 then some true else some (decide (6<a.aO))).bind fun h=>bif h then some ⟨3,0⟩else bif !a.aQ=0 then some ⟨1,0⟩else(bif(a.code.length:Int)<1 then some true else some (decide (60<(a.code.length:Int)))).bind fun d=>bif d then some ⟨5,0⟩else(P7 N e b a a.code 0).bind fun o=>match o with|.ret r=>some r|.next ()=>(jD N a).bind fun c=>some c.2
def jJ (N:Nat) (a:V) (d:Int):Option Int :=
  ((bif a.k=0 then some (decide (a.k=0))else(bif a.k=1 then some (decide (a.k=1))else some (decide (a.k=2))).bind fun f=>some f).bind fun e=>(bif e then bif !a.n=0 then some (.ret 2)else some (.next ())else(bif a.k=3 then(bif a.n< -1073741824 then some true else some (decide (1073741824<a.n))).bind fun b=>bif b then some (.ret 3)else some (.next ())else bif a.k=4 then(bif a.n<0 then some true else some (decide (d<=a.n))).bind fun c=>bif c then some (.ret 6)else some (.next ())else some (.ret 1):Option (M3 Int Unit)).bind fun o=>match o with|.ret r=>some (.ret r)|.next ()=>some (.next ()):Option (M3 Int Unit)).bind fun o=>match o with|.ret r=>some (.ret r)|.next ()=>some (.next ()):Option (M3 Int Unit)).bind fun o=>match o with|.ret r=>some r|.next ()=>some 0
def U2 (N:Nat) (c:Wd):List V->Nat->Option (M3 Int Unit)
  |[],a=>some (.next ())
  |x29::rest26,a=>(jJ N x29 (c.heap.length:Int)).bind fun b=>bif !b=0 then some (.ret b)else U2 N c rest26 (a+1)
def U3 (N:Nat) (a:Wd):List Ob->Nat->Option (M3 Int Unit)
  |[],e=>some (.next ())
  |x7::rest4,e=>(bif !x7.cls=0 then bif x7.cls<4 then some true else bif(a.a7.length:Int)<=x7.cls then some true else(X0 N a x7.cls).bind fun b=>some (!(x7.aE.length:Int)=b)else(X0 N a x7.cls).bind fun c=>some (!(x7.aE.length:Int)=c)).bind fun d=>bif d then some (.ret 8)else(U2 N a x7.aE 0).bind fun o=>match o with|.ret r=>some (.ret r)|.next ()=>U3 N a rest4 (e+1)
def lB (N:Nat) (a:Wd):Option Int :=
  (U3 N a a.heap 0).bind fun o=>match o with|.ret r=>some r|.next ()=>some 0
def Q3 (N:Nat) (c:Wd):List Cl->Nat->(List (ByteArray×Bool))->Option (M3 Int Unit)
  |[],a,b=>some (.next ())
  |x24::rest21,a,b=>((fy N x24.name).bind fun d=>bif !d then some true else bif cU x24.name b then some true else bif(a:Int)<(c.a7.length:Int)then(J3 c.a7 (a:Int)).bind fun g=>some (!x24.name=g.name)else some false:Option Bool).bind fun e=>bif e then some (.ret 7)else bif AE (b.length+1) 140737488355328 then(bif(a:Int)<(c.a7.length:Int)then(J3 c.a7 (a:Int)).bind fun h=>bif !x24.aJ=h.aJ then some true else bif !x24.aE=0 then some true else bif(c.a7.length:Int)<=(a:Int)then bif x24.aJ<0 then some true else bif(a:Int)<=x24.aJ then some true else bif !x24.aJ=0 then bif x24.aJ<4 then some true else bif x24.aE<0 then some true else some (decide (6<x24.aE))else bif x24.aE<0 then some true else some (decide (6<x24.aE))else bif x24.aE<0 then some true else some (decide (6<x24.aE))else bif(c.a7.length:Int)<=(a:Int)then bif x24.aJ<0 then some true else bif(a:Int)<=x24.aJ then some true else bif !x24.aJ=0 then bif x24.aJ<4 then some true else bif x24.aE<0 then some true else some (decide (6<x24.aE))else bif x24.aE<0 then some true else some (decide (6<x24.aE))else bif x24.aE<0 then some true else some (decide (6<x24.aE))).bind fun f=>bif f then some (.ret 3)else Q3 N c rest21 (a+1) (Y8 x24.name true b)else none
def P8 (N:Nat) (i:Wd) (j:Wd) (c:Nat) (e:Cl):List Me->Nat->Option (M3 Int Unit)
  |[],a=>some (.next ())
  |x86::rest83,a=>((bif 0<(a:Int)then(J3 e.aA (wr ((a:Int)-1))).bind fun h=>some (!P6 h.name x86.name)else some false).bind fun f=>bif f then some (.ret 7)else(bif !x86.aQ=0 then bif(c:Int)=3 then(hQ N j x86).bind fun d=>some d else some false else some false).bind fun g=>bif g then some (.next ())else(jN N i (c:Int) x86).bind fun b=>bif !b.err=0 then some (.ret b.err)else some (.next ()):Option (M3 Int Unit)).bind fun o=>match o with|.ret r=>some (.ret r)|.next ()=>P8 N i j c e rest83 (a+1)
def Q0 (N:Nat) (b:Wd) (d:Wd):List Cl->Nat->Option (M3 Int Unit)
  |[],a=>some (.next ())
  |x72::rest69,a=>(X0 N b (a:Int)).bind fun c=>bif 6<c then some (.ret 3)else bif 8<(x72.aA.length:Int)then some (.ret 5)else(P8 N b d a x72 x72.aA 0).bind fun o=>match o with|.ret r=>some (.ret r)|.next ()=>Q0 N b d rest69 (a+1)
def O3 (N:Nat) (a:Wd):Option Int :=
  (kv N).bind fun c=>(bif(a.a7.length:Int)<(c.a7.length:Int)then some true else bif 12<(a.a7.length:Int)then some true else some (decide (60<(a.heap.length:Int)))).bind fun e=>bif e then some 5 else(bif a.aR<0 then some true else some (decide (1073741824<a.aR))).bind fun d=>bif d then some 3 else(Q3 N c a.a7 0 []).bind fun o=>match o with|.ret r=>some r|.next ()=>(Q0 N a c a.a7 0).bind fun o=>match o with|.ret r=>some r|.next ()=>(lB N a).bind fun b=>some b
def fx (N:Nat) (c:(List Int)):Option (Wd×Int) :=
  (X8 N ⟨strOfNums c,true⟩).bind fun a=>(bif !a.2.fE then some true else some (!a.2.s=⟨#[]⟩)).bind fun d=>bif d then some (⟨[],[],0⟩,2)else(O3 N a.1).bind fun b=>bif !b=0 then some (⟨[],[],0⟩,b)else some (a.1,0)
def H6 (N:Nat):List Int->Nat->ByteArray->Option (ByteArray)
  |[],c,b=>some b
  |x10::rest7,c,b=>(strconv_Itoa N x10).bind fun a=>bif b.size+a.size<=4611686018427387904 then bif(b++a).size+(⟨#[32]⟩:ByteArray).size<=4611686018427387904 then H6 N rest7 (c+1) ((b++a)++⟨#[32]⟩)else none else none
def H5 (N:Nat) (a:(List Int)) (b:ByteArray):Option ByteArray :=
  (H6 N a 0 b).bind fun c=>some c
def I8 (N:Nat):List Ins->Nat->ByteArray->Option (ByteArray)
  |[],d,c=>some c
  |x47::rest44,d,c=>((H5 N [x47.op,x47.a] c).bind fun b=>(bif x47.op=14 then bif b.size+x47.name.size<=4611686018427387904 then bif(b++x47.name).size+(⟨#[32]⟩:ByteArray).size<=4611686018427387904 then some ((b++x47.name)++⟨#[32]⟩)else none else none else some b).bind fun f=>some f:Option ByteArray).bind fun e=>I8 N rest44 (d+1) e
def H9 (N:Nat):List Me->Nat->ByteArray->Option (ByteArray)
  |[],b,a=>some a
  |x30::rest27,b,a=>bif a.size+x30.name.size<=4611686018427387904 then bif(a++x30.name).size+(⟨#[32]⟩:ByteArray).size<=4611686018427387904 then(H5 N [x30.args,x30.aO,x30.aQ,(x30.code.length:Int)] ((a++x30.name)++⟨#[32]⟩)).bind fun c=>(I8 N x30.code 0 c).bind fun d=>H9 N rest27 (b+1) d else none else none
def I7 (N:Nat):List Cl->Nat->ByteArray->Option (ByteArray)
  |[],d,a=>some a
  |x13::rest10,d,a=>bif a.size+x13.name.size<=4611686018427387904 then bif(a++x13.name).size+(⟨#[32]⟩:ByteArray).size<=4611686018427387904 then(H5 N [x13.aJ,x13.aE,(x13.aA.length:Int)] ((a++x13.name)++⟨#[32]⟩)).bind fun b=>(H9 N x13.aA 0 b).bind fun c=>I7 N rest10 (d+1) c else none else none
def K5 (N:Nat):List V->Nat->ByteArray->Option (ByteArray)
  |[],b,a=>some a
  |x86::rest83,b,a=>(H5 N [x86.k,x86.n] a).bind fun c=>K5 N rest83 (b+1) c
def K9 (N:Nat):List Ob->Nat->ByteArray->Option (ByteArray)
  |[],b,a=>some a
  |x71::rest68,b,a=>(H5 N [x71.cls,(x71.aE.length:Int)] a).bind fun c=>(K5 N x71.aE 0 c).bind fun d=>K9 N rest68 (b+1) d
def jH (N:Nat) (a:Wd):Option ByteArray :=
  (H5 N [a.aR,(a.a7.length:Int)] ⟨#[]⟩).bind fun d=>(I7 N a.a7 0 d).bind fun e=>(H5 N [(a.heap.length:Int)] e).bind fun b=>(K9 N a.heap 0 b).bind fun c=>some c
def jF (N:Nat):Option Bool :=
  (jL N).bind fun g=>(hF N g).bind fun f=>(fx N f).bind fun e=>(bif e.2=0 then bif(e.1.a7.length:Int)=4 then(jL N).bind fun a=>(jH N a).bind fun b=>bif strOfNums f=b then(O3 N e.1).bind fun c=>bif c=0 then(O3 N ⟨[],[],0⟩).bind fun d=>some (decide (d=5))else some false else some false else some false else some false).bind fun h=>some h
def kY (N:Nat) (d:Wd) (a:Int):Option Bool :=
  (jF N).bind fun e=>bif !e then some false else(O3 N d).bind fun f=>bif !f=0 then some true else(hF N d).bind fun c=>(bif a<0 then some true else some (decide ((c.length:Int)<=a))).bind fun g=>bif g then some true else bif 0<=a&&a<=(c.length:Int)then(fx N (c.take a.toNat)).bind fun b=>some (b.2=2)else none
def newRow (a:AV):List (List AV):=[[.str ⟨#[79,98,106,101,99,116]⟩,.int (-1),.int 0,.aC],[.str ⟨#[78,105,108]⟩,.int 0,.int 0,.aC],[.str ⟨#[66,111,111,108]⟩,.int 0,.int 0,.aC],[.str ⟨#[73,110,116]⟩,.int 0,.int 0,a]]
def uO : ∀k:Nat,k<5->∃x p,kK[k]?=some x/\([3,1,2,4,5]:List Int)[k]?=some p/\H8[k]?=some ⟨x,1,0,p,[]⟩
 |0,_=>⟨_,_,rfl,rfl,rfl⟩
 |1,_=>⟨_,_,rfl,rfl,rfl⟩
 |2,_=>⟨_,_,rfl,rfl,rfl⟩
 |3,_=>⟨_,_,rfl,rfl,rfl⟩
 |4,_=>⟨_,_,rfl,rfl,rfl⟩
 |k+5,h=>absurd h d9
set_option maxRecDepth 100000 in
def nK (N:Nat) (r:Wd) (h:jL N=some r):Spec prog 10 [] [] (.agg (cW r)) [] []:=by
 obtain rfl:=Option.some.inj h;refine Spec.of fV func10 rfl ntmps10 l8 rfl rfl rfl fun f a=>?_
 (repeat (first|refine bd a ?_|refine bu a ?_|refine cQ a ?_|refine cC a ?_|refine cD a ?_|refine cE a ?_|refine bw a ?_))
 (try refine Or.inr ?_)
 refine Exists.intro (newRow .aC) (A5 (by repeat (first|exact trivial|exact rfl|(refine A5 ?_ ?_))) ?_)
 (repeat (first|refine bd a ?_|refine bu a ?_|refine cQ a ?_|refine cC a ?_|refine cD a ?_|refine cE a ?_|refine bw a ?_))
 refine Exists.intro (List.map gb kK) (A5 (by repeat (first|exact trivial|exact rfl|(refine A5 ?_ ?_))) ?_);refine X4 (fun B=>?_);show j4 prog f _ _ _ _;refine j4.gh (Gh.fF (r:=8) (i:=3) (off:=3) (j:=104) (j':=105) (isz:=5) (ie:=46) rfl rfl rfl rfl rfl rfl rfl rfl) (fun _=>?_);refine j4.fB (ι:=Hd) (fun g=>[(0,.ptr 0 0),(1,.ptr 1 0)]) (fun g=>[(0,.box [.aC,.aC,.int 0] 25),(1,.box [.aF 8,.aC,.int 0] 25),(8,.row 4 (newRow (.aU g.v)) 41),(104,.row 5 (H8.map S9) 46),(105,.eqv 104 g.v)]) (fun z u H E=>?_) (by intro q;rw[a];rfl) ?_
 ·refine j4.ib fun y C s G D=>?_;refine j4.db (ι:={ q:Nat×Hd // q.1<=5 }) (fun q=>[(0,.ptr 0 0),(1,.ptr 1 0),(10,.aF 10),(11,.int 5),(12,.int q.1.1)]) (fun q=>[(0,.box [.aC,.aC,.int 0] 25),(1,.box [.aF 8,.aC,.int 0] 25),(8,.row 4 (newRow (.aU q.1.2.v)) 41),(10,.row 1 (kK.map gb) 9),(104,.row 5 ((H8.take q.1.1).map S9) 46),(105,.eqv 104 q.1.2.v)]) (fun q=>5-q.1.1) ⟨(0,⟨none,0,0⟩),d9⟩ [] ⟨⟨rfl,rfl,rfl,rfl,rfl,trivial⟩,⟨rfl,rfl,rfl,rfl,rfl,rfl,trivial⟩,rfl,rfl⟩ (by intro q;rw[a];rfl) ?_;rintro⟨⟨k,hd⟩,m⟩ A nl w F;have m:k<=5:=m
  (repeat (first|refine bd a ?_|refine bu a ?_|refine cQ a ?_|refine cC a ?_|refine cD a ?_|refine cE a ?_|refine bw a ?_))
  refine oL (fun c=>?_) (fun l=>?_)
  ·have c:k<5:=by have:(k:Int)<5:=c;omega
   obtain⟨x,p,o,n,t⟩:=uO k c
   (repeat (first|refine bd a ?_|refine bu a ?_|refine cQ a ?_|refine cC a ?_|refine cD a ?_|refine cE a ?_|refine bw a ?_))
   refine eO (i:=(k:Int)) (by rw[W9];exact o) ?_;refine fD o ?_;show j4 prog f _ _ _ _;refine j4.snoc (ml a l8 ?_);refine A5 p8 (A5 (by show(3:Int)<4;decide) ?_);refine A5 (by show 3<4;decide) (fun d b=>?_);have b:(newRow (.aU hd.v))[3]?=some d:=b;obtain rfl:d=[.str ⟨#[73,110,116]⟩,.int 0,.int 0,.aU hd.v]:=(Option.some.inj b).symm;refine A5 rfl ?_;refine Exists.intro (List.map Z0 [3,1,2,4,5]) (A5 (by repeat (first|exact trivial|exact rfl|(refine A5 ?_ ?_))) ?_);refine eO (i:=(k:Int)) (by rw[W9];exact n) ?_;refine fD n ?_;refine Exists.intro (List.map S9 [⟨x,1,0,p,[]⟩]) (A5 (by repeat (first|exact trivial|exact rfl|(refine A5 ?_ ?_))) ?_);refine A5 ?_ (Exists.intro (List.map S9 (H8.take k++[⟨x,1,0,p,[]⟩])) (A5 (lR (V7 _)) ?_))
   ·show((List.map S9 (H8.take k)).length+1)*64<=_;rw[AM,List.length_take];omega
   refine A5 p8 (A5 (by show(3:Int)<4;decide) ?_);refine A5 (by show 3<4;decide) (A5 ?_ ?_)
   ·intro d b;have b:(newRow (.aU hd.v))[3]?=some d:=b;obtain rfl:d=[.str ⟨#[73,110,116]⟩,.int 0,.int 0,.aU hd.v]:=(Option.some.inj b).symm;show 3<4;omega
   show J7 f _ _ _;refine J7.gh (Gh.aw 8 106 rfl rfl rfl (fun _=>rfl) rfl) (fun g=>?_);refine J7.done ?_;show j4 prog f _ _ _ _
   (repeat (first|refine bd a ?_|refine bu a ?_|refine cQ a ?_|refine cC a ?_|refine cD a ?_|refine cE a ?_|refine bw a ?_))
   refine Or.inl (A5 ⟨d9,d9⟩ ?_);refine nl _ _ ?_;refine J7.done ?_;have e:H8.take k++[⟨x,1,0,p,[]⟩]=H8.take (k+1):=by rw[List.take_add_one,t];rfl
   refine⟨⟨(k+1,g),c⟩,[(104,31),(105,106)],by show 5-(k+1)<5-k;omega,⟨⟨rfl,rfl,rfl,rfl,rfl,trivial⟩,⟨rfl,rfl,rfl,rfl,?_,rfl,trivial⟩,rfl,rfl⟩⟩;exact congrArg (fun q=>some (Obj.row 5 (List.map S9 q) 46)) e
  ·have e:k=5:=by have:¬((k:Int)<5):=l;omega
   subst e
   (repeat (first|refine bd a ?_|refine bu a ?_|refine cQ a ?_|refine cC a ?_|refine cD a ?_|refine cE a ?_|refine bw a ?_))
   refine w _ _ _ ?_;refine s _ _ ?_;refine u _ _ ?_;refine J7.done ?_;exact⟨hd,[],trivial,⟨⟨rfl,rfl,trivial⟩,⟨rfl,rfl,rfl,rfl,rfl,trivial⟩,rfl,rfl⟩⟩
 intro g;show j4 prog f _ _ _ _;refine j4.eR 8 3 3 104 105 rfl rfl rfl rfl rfl rfl rfl rfl ?_;refine j4.ay 8 (List.map fe G7.a7) rfl (by repeat (first|exact trivial|exact rfl|(refine A5 ?_ ?_))) ?_;refine j4.bB 8 rfl ?_
 (repeat (first|refine bd a ?_|refine bu a ?_|refine cQ a ?_|refine cC a ?_|refine cD a ?_|refine cE a ?_|refine bw a ?_))
 exact⟨[],_,rfl,(by repeat (first|exact trivial|exact rfl|(refine A5 ?_ ?_))),trivial,rfl,rfl,rfl,rfl,rfl⟩
end Go.Proofs.YtibjcppjfkamhaaDoor
