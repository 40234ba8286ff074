/- THE WALK OVER READINGS: a region's operations in a row, and what must be shown of them. No program in sight; types are told by the table. -/
import Derived.Test.YtahmeibkdhbngaaAr
namespace Go.Proofs.Ytahmeibkdhbngaa
open Go.RowKit
set_option linter.unusedVariables false
def top : Nat:=1000
def aH7 : Os→Os→Prop
 |[],_=>True
 |(k,o)::r,os=>lk os k=some o∧aH7 r os
theorem aH0 {os:Os}:∀{need:Os},aH7 need os→∀id o,lk need id=some o→lk os id=some o
 |(k,x)::r,h,id,o,hl=>by
  rw [l7] at hl
  split at hl
  ·rename_i e
   subst e
   cases hl
   exact h.1
  ·exact aH0 h.2 id o hl
def Y3 : AV→Bool
 |.int _=>true
 |.ik _ _=>true
 |.bool _=>true
 |.str _=>true
 |.any=>true
 |.con _=>true
 |_=>false
def bE9 : AV→Bool
 |.tup l=>l.all Y3
 |.agg l=>l.all Y3
 |a=>Y3 a
theorem aP9 {c c':Ctx} {w w':World} {v:Value} {a:AV} (h:Y3 a=true) (hr:Rd c w v a):Rd c' w' v a:=by
 cases a<;>first|cases h|skip
 ·exact Rd.any_ v
 ·obtain ⟨rfl,h⟩:=hr.int_; exact .fz (.int h)
 ·rw [hr.ik_]; exact .fz (.ik _ _)
 ·rw [hr.bool_]; exact .fz (.bool _)
 ·obtain ⟨rfl,h⟩:=hr.str_; exact .fz (.str h)
 ·rw [hr.con_]; exact .fz (.con _)
theorem aL5 {c c':Ctx} {w w':World}:∀{us:List Value} {as:List AV},as.all Y3=true→p9 c w us as→p9 c' w' us as
 |_,_,_,.nil=>.nil
 |_,_,h,.cons x t=>by
  simp only [List.all_cons,Bool.and_eq_true] at h
  exact .cons (aP9 h.1 x) (aL5 h.2 t)
theorem bU0 {c c':Ctx} {w w':World} {v:Value} {a:AV} (h:bE9 a=true) (hr:Rd c w v a):Rd c' w' v a:=by
 unfold bE9 at h
 split at h
 ·obtain ⟨us,rfl,hu⟩:=hr.tup_; exact .tup (aL5 h hu)
 ·obtain ⟨us,rfl,hu⟩:=hr.agg_; exact .agg (aL5 h hu)
 ·exact aP9 h hr
def bF3 : Obj→Prop
 |.gone=>True
 |.row _ ls _=>∀cs∈ls,cs.all Y3=true
 |.deep _ _ cols l _ _=>∀cs∈l,∀(off:Nat) (a:AV),cs[off]?=some a→match lk cols off with
  |none=>Y3 a=true
  |some _=>∃isz ls,a=.sl isz ls∧∀cs'∈ls,cs'.all Y3=true
 |_=>False
def aN6 : Os→Prop
 |[]=>True
 |p::r=>bF3 p.2∧aN6 r
theorem aN6.at : ∀{l:Os},aN6 l→∀{id:Nat} {o:Obj},lk l id=some o→bF3 o
 |(k,x)::r,h,id,o,hl=>by
  rw [l7] at hl
  split at hl
  ·cases hl; exact h.1
  ·exact aN6.at h.2 hl
def bE7 : AV→Bool
 |.tup l=>l.all fun a=>match a with|.own _=>true|.agg cs=>cs.all Y3|a=>Y3 a
 |.own _=>true
 |.agg cs=>cs.all Y3
 |a=>Y3 a
theorem bF8 {Φ Φ':Nat→Prop} {w w':World} {v:Value} {a:AV} (h:Y3 a=true) (hr:Rf Φ w v a):Rf Φ' w' v a:=by
 cases hr<;>first|cases h|skip
 ·exact .any _
 ·exact .int (by assumption)
 ·exact .ik _ _
 ·exact .bool _
 ·exact .str (by assumption)
 ·exact .con _
theorem aU6 {Φ Φ':Nat→Prop} {w w':World}:∀{us:List Value} {as:List AV},as.all Y3=true→w9 Φ w us as→w9 Φ' w' us as
 |_,_,_,.nil=>.nil
 |_,_,h,.cons x t=>by
  simp only [List.all_cons,Bool.and_eq_true] at h
  exact .cons (bF8 h.1 x) (aU6 h.2 t)
theorem bF3.rep {c c':Ctx} {w:World} {id:Nat} {o:Obj} (hf:bF3 o) (h:Q9 c w id o) (h1:c'.hd=c.hd) (h2:c'.μ=c.μ):Q9 c' w id o:=by
 cases o with
 |gone=>trivial
 |row sz ls e =>
  obtain ⟨css,p1,p2,p3⟩:=h
  exact ⟨css,by rw [h1]; exact p1,p2,fun i us cs hu hc=>aU6 (hf cs (List.mem_of_getElem? hc)) (p3 i us cs hu hc)⟩
 |deep sz e cols l hs sh =>
  obtain ⟨css,p1,p2,p3,p4⟩:=h
  refine ⟨css,by rw [h1]; exact p1,⟨p2.len,fun i us cs hu hc=>⟨(p2.cell i us cs hu hc).1,fun off u a b1 b2 b3=>?_⟩,fun i us cs off isz ie u hu hc b1 b2 b3=>?_,fun i off x us u b1 b2 b3=>by rw [h1]; exact p2.hole i off x us u b1 b2 b3,p2.apart⟩,by rw [h1]; exact p3,by rw [h1]; exact p4⟩
  ·have:=hf cs (List.mem_of_getElem? hc) off a b2
   rw [b3] at this
   exact bF8 this ((p2.cell i us cs hu hc).2 off u a b1 b2 b3)
  ·obtain ⟨ls,q1,css',q2,q3,q4⟩:=p2.inner i us cs off isz ie u hu hc b1 b2 b3
   have:=hf cs (List.mem_of_getElem? hc) off _ q1
   rw [b1] at this
   obtain ⟨isz',ls',e1,e2⟩:=this
   cases e1
   exact ⟨ls,q1,css',q2,q3,fun k us' cs' h3 h4=>aU6 (e2 cs' (List.mem_of_getElem? h4)) (q4 k us' cs' h3 h4)⟩
 |_=>exact hf.elim
theorem bR7 {c c':Ctx} {w:World} {v:Value} {a:AV} (hf:bE7 a=true) (h:Rd c w v a) (h1:c'.hd=c.hd):Rd c' w v a:=by
 have own:∀{v:Value} {id:Nat},Rd c w v (.own id)→Rd c' w v (.own id):=fun {v id} h=>by
  obtain ⟨A,n,cap,e1,e2,e3,e4⟩:=h.own_
  rw [e1]
  exact .own (by rw [h1]; exact e2) e3 e4
 have agg:∀{v:Value} {cs:List AV},cs.all Y3=true→Rd c w v (.agg cs)→Rd c' w v (.agg cs):=fun {v cs} hf h=>by
  obtain ⟨us,rfl,hu⟩:=h.agg_
  exact .agg (aL5 hf hu)
 unfold bE7 at hf
 split at hf
 ·rename_i l
  obtain ⟨us,rfl,hu⟩:=h.tup_
  refine .tup ?_
  clear h
  induction l generalizing us with
  |nil=>cases hu; exact .nil
  |cons a l ih =>
   cases hu with|cons h t =>
   simp only [List.all_cons,Bool.and_eq_true] at hf
   refine .cons ?_ (ih hf.2 _ t)
   cases a<;>first|exact own h|exact agg hf.1 h|exact aP9 hf.1 h
 ·exact own h
 ·exact agg hf h
 ·exact aP9 hf h
structure q8 (P:Program) (f:Nat) (ins:List AV) (os:Os) (K:Kt):Prop where
 out:(∃(ins0 ins':List AV) (g need upd:Os) (news:List Nat) (av:AV),Spec P f need ins' av upd news∧aC3 os ins ins0 g∧aN5 ins0 ins'∧aH7 need os∧(need.all fun p=>(lk g p.1).isNone)=true∧(need.all fun p=>aD0 news p.2.ids)=true ∧
  K av ((g++need).map (·.1)) news (upd++x9 g)) ∨
 (∃(ins0 ins':List AV) (g:Os) (av:AV),Spec P f [] ins' av [] []∧aC0 os ins ins0 g∧aN5 ins0 ins'∧bE9 av=true∧K av (g.map (·.1)) [] []) ∨
 (∃(ins0 ins':List AV) (g upd:Os) (news:List Nat) (av:AV),Spec P f [] ins' av upd news∧aC0 os ins ins0 g∧aN5 ins0 ins'∧bE7 av=true∧aN6 upd∧K av (g.map (·.1)) news upd)
section
variable {P:Program} {tab:F8} {et:U1} {o:Oper} {ev:Ev} {os:Os} {K:Kt}
theorem q8.fz {f:Nat} {ins ins':List AV} {need upd:Os} {news:List Nat} {av:AV} (h:Spec P f need ins' av upd news) (hle:aN5 (M8 os ins).1 ins') (hs:aH7 need os) (hd:(need.all fun p=>(lk (M8 os ins).2 p.1).isNone)=true)
  (hf:(need.all fun p=>aD0 news p.2.ids)=true) (hK:K av (((M8 os ins).2++need).map (·.1)) news (upd++x9 (M8 os ins).2)):q8 P f ins os K :=
 ⟨.inl ⟨_,ins',_,need,upd,news,av,h,bQ2 ins,hle,hs,hd,hf,hK⟩⟩
theorem q8.as {f:Nat} {ins ins':List AV} {need upd:Os} {news:List Nat} {av:AV} (h:Spec P f need ins' av upd news) (hle:aN5 ins ins') (hs:aH7 need os)
  (hf:(need.all fun p=>aD0 news p.2.ids)=true) (hK:K av (need.map (·.1)) news upd):q8 P f ins os K :=
 ⟨.inl ⟨ins,ins',[],need,upd,news,av,h,⟨fun _ _ h=>(by cases h),fun _ _ h=>(by cases h),fun c w us _ h=>p9.mono (c:=c) (c':=c.fz []) (fun _ _=>rfl) (fun _ h=>Or.inl h) (fun _ _=>⟨rfl,rfl⟩) h⟩,hle,hs,List.all_eq_true.2 fun _ _=>rfl,hf,by simpa [x9] using hK⟩⟩
theorem aT9 {c:Go.Call} {f:Operand} {g:Nat} {cus:List Value} {ρ:Operand→Value} {w:World} (ho:o.op=.call c) (hc:c.callee=.value f) (hcall:callable P g=true) (e1:ρ f=.func (.func g) #[] cus.toArray) :
  (execOp ρ o).run P w=.ok (.enter g (c.args.toList.map ρ++cus).toArray) w:=by
 unfold callable at hcall
 split at hcall
 ·rename_i fn hfn
  simp only [Bool.and_eq_true,Bool.not_eq_true',beq_eq_false_iff_ne,ne_eq] at hcall
  have hbody:fn.body.isNone=false:=by cases hb:fn.body<;>simp_all
  have hm:c.args.map ρ++cus.toArray=(c.args.toList.map ρ++cus).toArray:=by
   apply Array.toList_inj.1
   simp
  simp [execOp,ho,resolve,hc,e1,Deferred.ofValue,invoke,callFunc,hfn,hcall.2,hm]
  intro hbn
  rw [hbn] at hbody
  cases hbody
 ·cases hcall
theorem bZ8 {c:Go.Call} {f:Operand} {g:Nat} {caps:List AV} (ho:o.op=.call c) (hc:c.callee=.value f) (hf:ev f=.fn g caps) {ins0 ins':List AV} {gz:Os} {av:AV} (hspec:Spec P g [] ins' av [] [])
  (hz:aC0 os (c.args.toList.map ev++caps) ins0 gz) (hle:aN5 ins0 ins') (hfl:bE9 av=true) (hK:K av (gz.map (·.1)) [] []):H6 P o ev os K:=by
 intro _
 obtain ⟨hcall,hnews,hspec⟩:=hspec
 refine ⟨av,gz,[],[],fun cx w ρ hok hr=>?_,hz.sub,fun id hid=>(by cases hid),hK⟩
 have rf:Rd cx w (ρ f) (.fn g caps):=by
  have:=hr f (by simp [ho,Op.operands,Go.Call.operands,hc])
  rwa [hf] at this
 obtain ⟨cus,e1,hcus⟩:=rf.fn_
 have hargs:p9 cx w (c.args.toList.map ρ++cus) (c.args.toList.map ev++caps):=(aN9 fun x hx=>hr x (by simp [ho,Op.operands,Go.Call.operands,hc]; exact .inr (by simpa using hx))).append hcus
 have hargs':=aQ6 hle (hz.run cx w _ hok hargs)
 have p1:=Post.freeze hok
 have no:∀(id:Nat) (o:Obj),lk ([]:Os) id=some o→False:=fun id o h=>(by cases h)
 have ok1:E9 (cx.fz gz) w []:=⟨fun id o h=>(no id o h).elim,fun id o b h=>(no id o h).elim,fun id id' o o' b _ h=>(no id o h).elim,p1.hok.phi⟩
 have hcalls:=hspec (cx.fz gz) w (c.args.toList.map ρ++cus).toArray ok1 (by simpa using hargs')
 rw [aT9 ho hc hcall e1]
 refine hcalls.mono fun e w' ⟨v,c',he,hp,hrd⟩=>⟨v,he,cx,⟨hp.wos,hp.tape,hp.output,hp.size,fun _ h=>h,fun _ h=>.inl h,fun b hb _=>hp.keep b hb fun ⟨id,o,h,_⟩=>no id o h,fun _ _=>⟨rfl,rfl⟩,
  ⟨fun id o h=>(no id o h).elim,fun id o b h=>(no id o h).elim,fun id id' o o' b _ h=>(no id o h).elim,fun b hb=>Nat.lt_of_lt_of_le (hok.phi b hb) hp.size⟩,fun id o b h=>(no id o h).elim⟩,bU0 hfl hrd⟩
theorem bV4 {c:Go.Call} {f:Operand} {g:Nat} {caps:List AV} (ho:o.op=.call c) (hc:c.callee=.value f) (hf:ev f=.fn g caps) {ins0 ins':List AV} {gz upd:Os} {news:List Nat} {av:AV} (hspec:Spec P g [] ins' av upd news)
  (hz:aC0 os (c.args.toList.map ev++caps) ins0 gz) (hle:aN5 ins0 ins') (hfl:bE7 av=true) (hfu:aN6 upd) (hK:K av (gz.map (·.1)) news upd):H6 P o ev os K:=by
 intro _
 obtain ⟨hcall,hnews,hspec⟩:=hspec
 refine ⟨av,gz,upd,news,fun cx w ρ hok hr=>?_,hz.sub,hnews,hK⟩
 have rf:Rd cx w (ρ f) (.fn g caps):=by
  have:=hr f (by simp [ho,Op.operands,Go.Call.operands,hc])
  rwa [hf] at this
 obtain ⟨cus,e1,hcus⟩:=rf.fn_
 have hargs:p9 cx w (c.args.toList.map ρ++cus) (c.args.toList.map ev++caps):=(aN9 fun x hx=>hr x (by simp [ho,Op.operands,Go.Call.operands,hc]; exact .inr (by simpa using hx))).append hcus
 have hargs':=aQ6 hle (hz.run cx w _ hok hargs)
 have p1:=Post.freeze hok
 have no:∀(id:Nat) (o:Obj),lk ([]:Os) id=some o→False:=fun id o h=>(by cases h)
 have ok1:E9 (cx.fz gz) w []:=⟨fun id o h=>(no id o h).elim,fun id o b h=>(no id o h).elim,fun id id' o o' b _ h=>(no id o h).elim,p1.hok.phi⟩
 have hcalls:=hspec (cx.fz gz) w (c.args.toList.map ρ++cus).toArray ok1 (by simpa using hargs')
 rw [aT9 ho hc hcall e1]
 refine hcalls.mono fun e w' ⟨v,c',he,hp,hrd⟩=>⟨v,he,{ c' with Φ:=cx.Φ },⟨hp.wos,hp.tape,hp.output,hp.size,fun _ h=>h,fun _ h=>.inl h,fun b hb _=>hp.keep b hb fun ⟨id,o,h,_⟩=>no id o h,fun i hi=>hp.ctx i hi,
  ⟨fun id o h=>(hfu.at h).rep (hp.hok.rep id o h) rfl rfl,fun id o b h hf=>?_,fun id id' o o' b hne h h' hf=>?_,fun b hb=>Nat.lt_of_lt_of_le (hok.phi b hb) hp.size⟩,fun id o b h hf=>?_⟩,bR7 hfl hrd rfl⟩
 ·have hf':foot c' id o b:=by cases o<;>exact hf
  have:=hp.hok.lt id o b h hf'
  exact ⟨this.1,fun hb=>this.2 (hp.phi b (.inl hb))⟩
 ·have hf1:foot c' id o b:=by cases o<;>exact hf
  intro hf2
  have hf2':foot c' id' o' b:=by cases o'<;>exact hf2
  exact hp.hok.sep id id' o o' b hne h h' hf1 hf2'
 ·have hf':foot c' id o b:=by cases o<;>exact hf
  rcases hp.feet id o b h hf' with h1|⟨i,x,h1,_⟩
  ·exact .inl h1
  ·exact (no i x h1).elim
theorem b06 {c:Go.Call} {f:Operand} {g:Nat} {caps:List AV} (ho:o.op=.call c) (hc:c.callee=.value f) (hf:ev f=.fn g caps) (h:q8 P g (c.args.toList.map ev++caps) os K):H6 P o ev os K:=by
 rcases h.out with ⟨ins0,ins',gz,need,upd,news,av,hspec,hz,hle,hs,hd,hfr,hK⟩|⟨ins0,ins',gz,av,hspec,hz,hle,hfl,hK⟩|⟨ins0,ins',gz,upd,news,av,hspec,hz,hle,hfl,hfu,hK⟩
 case inr.inl=>exact bZ8 ho hc hf hspec hz hle hfl hK
 case inr.inr=>exact bV4 ho hc hf hspec hz hle hfl hfu hK
 intro _
 obtain ⟨hcall,hnews,hspec⟩:=hspec
 have hsub:=aH0 hs
 obtain ⟨s1,s2,s3⟩:=aE2 hz.sub hsub
 have hnone:∀id x,lk need id=some x→lk gz id=none:=fun id x h=>by
  have:=List.all_eq_true.1 hd _ (J8 h)
  simpa using this
 refine ⟨av,gz++need,upd++x9 gz,news,fun cx w ρ hok hr=>?_,s1,fun id hid=>?_,hK⟩
 ·have rf:Rd cx w (ρ f) (.fn g caps):=by
   have:=hr f (by simp [ho,Op.operands,Go.Call.operands,hc])
   rwa [hf] at this
  obtain ⟨cus,e1,hcus⟩:=rf.fn_
  have hargs:p9 cx w (c.args.toList.map ρ++cus) (c.args.toList.map ev++caps):=(aN9 fun x hx=>hr x (by simp [ho,Op.operands,Go.Call.operands,hc]; exact .inr (by simpa using hx))).append hcus
  have hargs':=aQ6 hle (hz.run cx w _ (hok.sub s3) hargs)
  have p1:=(Post.freeze (hok.sub s3)).widen s3
  have ok1:E9 (cx.fz gz) w need:=by
   have hfrm:=hok.frame (fun _ _ h=>h) p1 (fun _ h=>(by cases h)) (fun _ _ _ _ _ h=>(by cases h))
   refine hfrm.sub fun id x hl=>?_
   have hg:lk (x9 gz) id=none:=by
    have:=aB9 gz id
    rw [hnone id x hl] at this
    cases hq:lk (x9 gz) id with
    |none=>rfl
    |some y=>rw [hq] at this; cases this
   rw [y5,hg]
   simpa using s2 id x hl
  have hcalls:=hspec (cx.fz gz) w (c.args.toList.map ρ++cus).toArray ok1 (by simpa using hargs')
  rw [aT9 ho hc hcall e1]
  refine hcalls.mono fun e w' ⟨v,c',he,hp,hrd⟩=>⟨v,he,c',?_,hrd⟩
  have:=Post.trans hok p1 hp (fun _ h=>(by cases h)) hnews (fun id x hl=>by
   have hg:lk (x9 gz) id=none:=by
    have:=aB9 gz id
    rw [hnone id x hl] at this
    cases hq:lk (x9 gz) id with
    |none=>rfl
    |some y=>rw [hq] at this; cases this
   rw [y5,hg]
   simpa using s2 id x hl) (fun _ _ _ _ _ h=>(by cases h)) (fun id x hl hu y hy=>by
   rw [y5] at hl
   cases hg:lk (x9 gz) id with
   |some z =>
    rw [hg] at hl
    simp at hl
    subst hl
    rw [aC8 hg]
    simp [Obj.ids]
   |none =>
    rw [hg] at hl
    simp at hl
    rw [y5] at hl
    cases hgz:lk gz id with
    |some z =>
     rw [hgz] at hl
     simp at hl
     subst hl
     rw [hz.ids id z hgz]
     simp
    |none =>
     rw [hgz] at hl
     simp at hl
     exact Y0 (List.all_eq_true.1 hfr _ (J8 hl)) y hy)
  simpa using this
 ·rw [y5]
  have:=hnews id hid
  cases hu:lk upd id with
  |none=>rw [hu] at this; cases this
  |some x=>rfl
def bA6 (os:Os):AV→Bool
 |.own id=>match lk os id with
  |some (.deep _ _ _ _ _ _)=>true
  |_=>false
 |.ep id _ _ _=>match lk os id with
  |some (.deep _ _ _ _ _ _)=>true
  |_=>false
 |_=>false
def b54 (tab:F8) (t:TypeId):Bool:=match lk tab t with
 |some ti=>match lk tab ti.elem with
  |some te=>Nat.beq te.kind 1 && Nat.beq te.len 1
  |none=>false
 |none=>false
theorem aQ9 {b:Bool} {X Y Z:Prop} (h:bif b then X else Y) (hx:b=true→X→Z) (hy:b=false→Y→Z):Z:=by
 cases b
 ·exact hy rfl h
 ·exact hx rfl h
def bX2 (tab:F8) (t:TypeId):Bool:=match lk tab t with
 |some ti=>Nat.beq ti.kind 2
 |none=>false
def b40 (tab:F8) (t:TypeId) (x:AV):Bool :=
 match lk tab t with
 |some ti=>match x with
  |.str _=>Nat.beq ti.kind 4
  |.mp _=>Nat.beq ti.kind 8
  |_=>Nat.beq ti.kind 2
 |none=>false
def bI4 (P:Program) (tab:F8) (d:Nat) (c:Go.Call) (ev:Ev) (os:Os) (K:Kt):Prop :=
 match c.callee with
 |.builtin b=>match b,c.args.toList,c.argTypes.toList with
  |.len,[x],[t]=>bif bA6 os (ev x) then (match bX2 tab t with
    |true=>bJ7 os (ev x) K
    |false=>False) else match b40 tab t (ev x) with
   |true=>bN0 os (ev x) K
   |false=>False
  |.append,[x,y],[t,t']=>bif bA6 os (ev x) then aV6 tab os d t t' (ev x) (ev y) K else aZ0 tab os d t t' (ev x) (ev y) K
  |.min,[x,y],_=>bL3 (ev x) (ev y) K
  |.max,[x,y],_=>bM7 (ev x) (ev y) K
  |_,_,_=>False
 |.value f=>match ev f with
  |.fn g caps=>q8 P g (c.args.toList.map ev++caps) os K
  |_=>False
 |.invoke _ _=>False
theorem bV1 (hT:D6 P tab) (d:Nat) {c:Go.Call} (ho:o.op=.call c) (h:bI4 P tab d c ev os K):H6 P o ev os K:=by
 unfold bI4 at h
 obtain ⟨callee,args,argTypes⟩:=c
 split at h
 ·rename_i b hb
  simp only at hb
  subst hb
  split at h
  ·rename_i x t ha ht
   have ha':args=#[x]:=by simpa using congrArg List.toArray ha
   have ht':argTypes=#[t]:=by simpa using congrArg List.toArray ht
   subst ha' ht'
   refine aQ9 h (fun _ h=>?_) fun _ h=>?_
   ·split at h
    ·rename_i hk
     unfold bX2 at hk
     split at hk
     ·rename_i ti hti
      exact bZ4 hT hti (Nat.eq_of_beq_eq_true hk) ho h
     ·cases hk
    ·exact h.elim
   split at h
   ·rename_i hl
    refine b27 hT ho ?_ h
    unfold b40 at hl
    split at hl
    ·rename_i ti hti
     rw [hti]
     split at hl
     ·rename_i s hx
      rw [hx]
      exact Nat.eq_of_beq_eq_true hl
     ·rename_i s hx
      rw [hx]
      exact Nat.eq_of_beq_eq_true hl
     ·rename_i hne hne2
      have:=Nat.eq_of_beq_eq_true hl
      cases hx:ev x<;>first|exact this|exact absurd hx (hne _)|exact absurd hx (hne2 _)
    ·cases hl
   ·exact h.elim
  ·rename_i x y t t' ha ht
   have ha':args=#[x,y]:=by simpa using congrArg List.toArray ha
   have ht':argTypes=#[t,t']:=by simpa using congrArg List.toArray ht
   subst ha' ht'
   exact aQ9 h (fun _ h=>bN8 hT d ho h) fun _ h=>bQ7 hT d ho h
  ·rename_i x y ha
   have ha':args=#[x,y]:=by simpa using congrArg List.toArray ha
   subst ha'
   exact b08 ho h
  ·rename_i x y ha
   have ha':args=#[x,y]:=by simpa using congrArg List.toArray ha
   subst ha'
   exact b23 ho h
  ·exact h.elim
 ·rename_i f hf
  split at h
  ·rename_i g caps hg
   exact b06 ho hf hg h
  ·exact h.elim
 ·exact h.elim
def aK0 (P:Program) (tab:F8) (et:U1) (d:Nat) (op:Op) (ev:Ev) (os:Os) (K:Kt):Prop :=
 match op with
 |.move x=>K (ev x) [] [] []
 |.assign x=>K (ev x) [] [] []
 |.pick c a b=>bH7 ev c a b K
 |.alloc t=>bA2 tab d t K
 |.box t x=>bM6 d t (ev x) K
 |.build t ps=>bA0 tab ev t ps K
 |.buildSlice t n ps=>bif b54 tab t then (aY2 tab os ev d t n ps K∨aE6 tab os ev d t n ps K) else aE6 tab os ev d t n ps K
 |.load t x=>bif bA6 os (ev x) then bC1 tab os t (ev x) K else bJ5 tab os t (ev x) (bS3 os K)
 |.store t x y=>bif bA6 os (ev x) then aY7 tab os t (ev x) (ev y) K else aZ6 tab os t (ev x) (ev y) K
 |.nilCheck x=>bL4 (ev x) K
 |.binOp op t x y _=>bN3 tab et op t (ev x) (ev y) (fun av=>K av [] [] [])
 |.unOp op _ x=>bW0 op (ev x) K
 |.convert s t x=>bH0 tab s t (ev x) K
 |.makeFunc fn f c=>bH2 ev fn f c K
 |.makeSlice t x y=>bH9 tab d t (ev x) (ev y) K
 |.slice t x lo hi none=>bif bA6 os (ev x) then aX0 tab os d t (ev x) (J2 ev lo) (J2 ev hi) K else bB4 tab os d t (ev x) (J2 ev lo) (J2 ev hi) K
 |.fieldAddr s x f=>aM5 tab s (ev x) f K
 |.field s x f=>bA3 tab s (ev x) f K
 |.indexAddr t x i=>bif bA6 os (ev x) then aK4 tab os t (ev x) (ev i) K else aM9 tab os t (ev x) (ev i) K
 |.index t x i=>bC3 tab t (ev x) (ev i) K
 |.extract x i=>aU5 (ev x) i K
 |.makeMap _ none=>bD0 d K
 |.lookup t x k false=>aY1 tab os t (ev x) (ev k) K
 |.mapUpdate t x k v=>aN4 tab os t (ev x) (ev k) (ev v) K
 |.call c=>bI4 P tab d c ev os K
 |_=>False
theorem step_ok (hT:D6 P tab) (hE:T9 P et) (d:Nat) (h:aK0 P tab et d o.op ev os K):H6 P o ev os K:=by
 cases ho:o.op<;>rw [ho] at h<;>simp only [aK0] at h
 case move x=>exact bL0 (.inl ho) h
 case assign x=>exact bL0 (.inr ho) h
 case pick c a b=>exact bZ9 ho h
 case alloc t=>exact bR8 hT d ho h
 case box t x=>exact b39 d ho h
 case build t ps=>exact bS4 hT ho h
 case buildSlice t n ps=>exact aQ9 h (fun _ h=>h.elim (fun h=>bR0 hT d ho h) fun h=>aS0 hT d ho h) fun _ h=>aS0 hT d ho h
 case load t x=>exact aQ9 h (fun _ h=>bU9 hT ho h) fun _ h=>(bX4 hT ho h).res
 case store t x y=>exact aQ9 h (fun _ h=>bO1 hT ho h) fun _ h=>bP1 hT ho h
 case nilCheck x=>exact b44 ho h
 case binOp op t x y ty=>exact b22 hT hE ho h
 case unOp op t x=>exact b56 ho h
 case convert s t x=>exact b03 hT ho h
 case makeFunc fn f c=>exact bY3 ho h
 case makeSlice t x y=>exact bZ2 hT d ho h
 case slice t x lo hi mx=>cases mx with
  |none=>exact aQ9 h (fun _ h=>bP2 hT d ho h) fun _ h=>bT7 hT d ho h
  |some m=>exact h.elim
 case fieldAddr s x f=>exact bG0 hT ho h
 case field s x f=>exact bR4 hT ho h
 case indexAddr t x i=>exact aQ9 h (fun _ h=>bE2 hT ho h) fun _ h=>bG6 hT ho h
 case index t x i=>exact bS1 hT ho h
 case extract x i=>exact bN6 ho h
 case makeMap t r=>cases r with
  |none=>exact bM3 d ho h
  |some r=>exact h.elim
 case lookup t x k b=>cases b with
  |false=>exact bR2 hT ho h
  |true=>exact h.elim
 case mapUpdate t x k v=>exact bI8 hT ho h
 case call c=>exact bV1 hT d ho h
end
end Go.Proofs.Ytahmeibkdhbngaa
