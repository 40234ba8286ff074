/- THE WALK OVER READINGS: a region's operations in a row, and what must be shown of them. No program in sight; types are told by the table. -/
import Derived.Test.YtibjcppjfkamhaaDoorAr
namespace Go.Proofs.YtibjcppjfkamhaaDoor
open Go.RowKit
set_option linter.unusedVariables false
def top : Nat:=1000
def aK1 : Os→Os→Prop
 |[],_=>True
 |(k,o)::r,os=>lk os k=some o∧aK1 r os
theorem aM2 {os:Os}:∀{need:Os},aK1 need os→∀id o,lk need id=some o→lk os id=some o
 |(k,x)::r,h,id,o,hl=>by
  rw [p8] at hl
  split at hl
  ·rename_i e
   subst e
   cases hl
   exact h.1
  ·exact aM2 h.2 id o hl
def aD4 : AV→Bool
 |.int _=>true
 |.ik _ _=>true
 |.bool _=>true
 |.str _=>true
 |.any=>true
 |.con _=>true
 |.ifc _=>true
 |_=>false
def bP7 : AV→Bool
 |.tup l=>l.all aD4
 |.agg l=>l.all aD4
 |a=>aD4 a
theorem aX3 {c c':Ctx} {w w':World} {v:Value} {a:AV} (h:aD4 a=true) (hr:Rd c w v a):Rd c' w' v a:=by
 cases a<;>first|cases h|skip
 ·exact Rd.any_ v
 ·obtain ⟨rfl,h⟩:=hr.int_; exact .fz (.int h)
 ·rw [hr.ik_]; exact .fz (.ik _ _)
 ·rw [hr.bool_]; exact .fz (.bool _)
 ·obtain ⟨rfl,h⟩:=hr.str_; exact .fz (.str h)
 ·rcases hr.ifc_ with ⟨rfl,rfl⟩|⟨t,p,rfl,rfl⟩
  ·exact .fz .ifcn
  ·exact .fz (.ifcs t p)
 ·rw [hr.con_]; exact .fz (.con _)
theorem aS2 {c c':Ctx} {w w':World}:∀{us:List Value} {as:List AV},as.all aD4=true→q9 c w us as→q9 c' w' us as
 |_,_,_,.nil=>.nil
 |_,_,h,.cons x t=>by
  simp only [List.all_cons,Bool.and_eq_true] at h
  exact .cons (aX3 h.1 x) (aS2 h.2 t)
theorem cD1 {c c':Ctx} {w w':World} {v:Value} {a:AV} (h:bP7 a=true) (hr:Rd c w v a):Rd c' w' v a:=by
 unfold bP7 at h
 split at h
 ·obtain ⟨us,rfl,hu⟩:=hr.tup_; exact .tup (aS2 h hu)
 ·obtain ⟨us,rfl,hu⟩:=hr.agg_; exact .agg (aS2 h hu)
 ·exact aX3 h hr
def bP4 : Obj→Prop
 |.gone=>True
 |.row _ ls _=>∀cs∈ls,cs.all aD4=true
 |.deep _ _ cols l _ _=>∀cs∈l,∀(off:Nat) (a:AV),cs[off]?=some a→match lk cols off with
  |none=>aD4 a=true
  |some _=>∃isz ls,a=.sl isz ls∧∀cs'∈ls,cs'.all aD4=true
 |_=>False
def aV2 : Os→Prop
 |[]=>True
 |p::r=>bP4 p.2∧aV2 r
theorem aV2.at : ∀{l:Os},aV2 l→∀{id:Nat} {o:Obj},lk l id=some o→bP4 o
 |(k,x)::r,h,id,o,hl=>by
  rw [p8] at hl
  split at hl
  ·cases hl; exact h.1
  ·exact aV2.at h.2 hl
def bP2 : AV→Bool
 |.tup l=>l.all fun a=>match a with|.own _=>true|.agg cs=>cs.all aD4|a=>aD4 a
 |.own _=>true
 |.agg cs=>cs.all aD4
 |a=>aD4 a
theorem bQ5 {Φ Φ':Nat→Prop} {w w':World} {v:Value} {a:AV} (h:aD4 a=true) (hr:Rf Φ w v a):Rf Φ' w' v a:=by
 cases hr<;>first|cases h|skip
 ·exact .any _
 ·exact .int (by assumption)
 ·exact .ik _ _
 ·exact .bool _
 ·exact .str (by assumption)
 ·exact .ifcn
 ·exact .ifcs _ _
 ·exact .con _
theorem a01 {Φ Φ':Nat→Prop} {w w':World}:∀{us:List Value} {as:List AV},as.all aD4=true→z8 Φ w us as→z8 Φ' w' us as
 |_,_,_,.nil=>.nil
 |_,_,h,.cons x t=>by
  simp only [List.all_cons,Bool.and_eq_true] at h
  exact .cons (bQ5 h.1 x) (a01 h.2 t)
theorem bP4.rep {c c':Ctx} {w:World} {id:Nat} {o:Obj} (hf:bP4 o) (h:aB1 c w id o) (h1:c'.hd=c.hd) (h2:c'.μ=c.μ):aB1 c' w id o:=by
 cases o with
 |gone=>trivial
 |row sz ls e =>
  obtain ⟨css,p1,p2,p3⟩:=h
  exact ⟨css,by rw [h1]; exact p1,p2,fun i us cs hu hc=>a01 (hf cs (List.mem_of_getElem? hc)) (p3 i us cs hu hc)⟩
 |deep sz e cols l hs sh =>
  obtain ⟨css,p1,p2,p3,p4⟩:=h
  refine ⟨css,by rw [h1]; exact p1,⟨p2.len,fun i us cs hu hc=>⟨(p2.cell i us cs hu hc).1,fun off u a b1 b2 b3=>?_⟩,fun i us cs off isz ie u hu hc b1 b2 b3=>?_,fun i off x us u b1 b2 b3=>by rw [h1]; exact p2.hole i off x us u b1 b2 b3,p2.apart⟩,by rw [h1]; exact p3,by rw [h1]; exact p4⟩
  ·have:=hf cs (List.mem_of_getElem? hc) off a b2
   rw [b3] at this
   exact bQ5 this ((p2.cell i us cs hu hc).2 off u a b1 b2 b3)
  ·obtain ⟨ls,q1,css',q2,q3,q4⟩:=p2.inner i us cs off isz ie u hu hc b1 b2 b3
   have:=hf cs (List.mem_of_getElem? hc) off _ q1
   rw [b1] at this
   obtain ⟨isz',ls',e1,e2⟩:=this
   cases e1
   exact ⟨ls,q1,css',q2,q3,fun k us' cs' h3 h4=>a01 (e2 cs' (List.mem_of_getElem? h4)) (q4 k us' cs' h3 h4)⟩
 |_=>exact hf.elim
theorem cA3 {c c':Ctx} {w:World} {v:Value} {a:AV} (hf:bP2 a=true) (h:Rd c w v a) (h1:c'.hd=c.hd):Rd c' w v a:=by
 have own:∀{v:Value} {id:Nat},Rd c w v (.own id)→Rd c' w v (.own id):=fun {v id} h=>by
  obtain ⟨A,n,cap,e1,e2,e3,e4⟩:=h.own_
  rw [e1]
  exact .own (by rw [h1]; exact e2) e3 e4
 have agg:∀{v:Value} {cs:List AV},cs.all aD4=true→Rd c w v (.agg cs)→Rd c' w v (.agg cs):=fun {v cs} hf h=>by
  obtain ⟨us,rfl,hu⟩:=h.agg_
  exact .agg (aS2 hf hu)
 unfold bP2 at hf
 split at hf
 ·rename_i l
  obtain ⟨us,rfl,hu⟩:=h.tup_
  refine .tup ?_
  clear h
  induction l generalizing us with
  |nil=>cases hu; exact .nil
  |cons a l ih =>
   cases hu with|cons h t =>
   simp only [List.all_cons,Bool.and_eq_true] at hf
   refine .cons ?_ (ih hf.2 _ t)
   cases a<;>first|exact own h|exact agg hf.1 h|exact aX3 hf.1 h
 ·exact own h
 ·exact agg hf h
 ·exact aX3 hf h
structure l7 (P:Program) (f:Nat) (ins:List AV) (os:Os) (K:Kt):Prop where
 out:(∃(ins0 ins':List AV) (g need upd:Os) (news:List Nat) (av:AV),Spec P f need ins' av upd news∧aH1 os ins ins0 g∧aI1 ins0 ins'∧aK1 need os∧(need.all fun p=>(lk g p.1).isNone)=true∧(need.all fun p=>aG1 news p.2.ids)=true ∧
  K av ((g++need).map (·.1)) news (upd++F6 g)) ∨
 (∃(ins0 ins':List AV) (g:Os) (av:AV),Spec P f [] ins' av [] []∧aG9 os ins ins0 g∧aI1 ins0 ins'∧bP7 av=true∧K av (g.map (·.1)) [] []) ∨
 (∃(ins0 ins':List AV) (g upd:Os) (news:List Nat) (av:AV),Spec P f [] ins' av upd news∧aG9 os ins ins0 g∧aI1 ins0 ins'∧bP2 av=true∧aV2 upd∧K av (g.map (·.1)) news upd)
section
variable {P:Program} {tab:H7} {et:aB3} {o:Oper} {ev:Ev} {os:Os} {K:Kt}
theorem l7.fz {f:Nat} {ins ins':List AV} {need upd:Os} {news:List Nat} {av:AV} (h:Spec P f need ins' av upd news) (hle:aI1 (M4 os ins).1 ins') (hs:aK1 need os) (hd:(need.all fun p=>(lk (M4 os ins).2 p.1).isNone)=true)
  (hf:(need.all fun p=>aG1 news p.2.ids)=true) (hK:K av (((M4 os ins).2++need).map (·.1)) news (upd++F6 (M4 os ins).2)):l7 P f ins os K :=
 ⟨.inl ⟨_,ins',_,need,upd,news,av,h,b69 ins,hle,hs,hd,hf,hK⟩⟩
theorem l7.as {f:Nat} {ins ins':List AV} {need upd:Os} {news:List Nat} {av:AV} (h:Spec P f need ins' av upd news) (hle:aI1 ins ins') (hs:aK1 need os)
  (hf:(need.all fun p=>aG1 news p.2.ids)=true) (hK:K av (need.map (·.1)) news upd):l7 P f ins os K :=
 ⟨.inl ⟨ins,ins',[],need,upd,news,av,h,⟨fun _ _ h=>(by cases h),fun _ _ h=>(by cases h),fun c w us _ h=>q9.mono (c:=c) (c':=c.fz []) (fun _ _=>rfl) (fun _ h=>Or.inl h) (fun _ _=>⟨rfl,rfl⟩) h⟩,hle,hs,List.all_eq_true.2 fun _ _=>rfl,hf,by simpa [F6] using hK⟩⟩
theorem a92 {c:Go.Call} {f:Operand} {g:Nat} {cus:List Value} {ρ:Operand→Value} {w:World} (ho:o.op=.call c) (hc:c.callee=.value f) (hcall:callable P g=true) (e1:ρ f=.func (.func g) #[] cus.toArray) :
  (execOp ρ o).run P w=.ok (.enter g (c.args.toList.map ρ++cus).toArray) w:=by
 unfold callable at hcall
 split at hcall
 ·rename_i fn hfn
  simp only [Bool.and_eq_true,Bool.not_eq_true',beq_eq_false_iff_ne,ne_eq] at hcall
  have hbody:fn.body.isNone=false:=by cases hb:fn.body<;>simp_all
  have hm:c.args.map ρ++cus.toArray=(c.args.toList.map ρ++cus).toArray:=by
   apply Array.toList_inj.1
   simp
  simp [execOp,ho,resolve,hc,e1,Deferred.ofValue,invoke,callFunc,hfn,hcall.2,hm]
  intro hbn
  rw [hbn] at hbody
  cases hbody
 ·cases hcall
theorem cI6 {c:Go.Call} {f:Operand} {g:Nat} {caps:List AV} (ho:o.op=.call c) (hc:c.callee=.value f) (hf:ev f=.fn g caps) {ins0 ins':List AV} {gz:Os} {av:AV} (hspec:Spec P g [] ins' av [] [])
  (hz:aG9 os (c.args.toList.map ev++caps) ins0 gz) (hle:aI1 ins0 ins') (hfl:bP7 av=true) (hK:K av (gz.map (·.1)) [] []):J5 P o ev os K:=by
 intro _
 obtain ⟨hcall,hnews,hspec⟩:=hspec
 refine ⟨av,gz,[],[],fun cx w ρ hok hr=>?_,hz.sub,fun id hid=>(by cases hid),hK⟩
 have rf:Rd cx w (ρ f) (.fn g caps):=by
  have:=hr f (by simp [ho,Op.operands,Go.Call.operands,hc])
  rwa [hf] at this
 obtain ⟨cus,e1,hcus⟩:=rf.fn_
 have hargs:q9 cx w (c.args.toList.map ρ++cus) (c.args.toList.map ev++caps):=(aT9 fun x hx=>hr x (by simp [ho,Op.operands,Go.Call.operands,hc]; exact .inr (by simpa using hx))).append hcus
 have hargs':=aR5 hle (hz.run cx w _ hok hargs)
 have p1:=Post.freeze hok
 have no:∀(id:Nat) (o:Obj),lk ([]:Os) id=some o→False:=fun id o h=>(by cases h)
 have ok1:I6 (cx.fz gz) w []:=⟨fun id o h=>(no id o h).elim,fun id o b h=>(no id o h).elim,fun id id' o o' b _ h=>(no id o h).elim,p1.hok.phi⟩
 have hcalls:=hspec (cx.fz gz) w (c.args.toList.map ρ++cus).toArray ok1 (by simpa using hargs')
 rw [a92 ho hc hcall e1]
 refine hcalls.mono fun e w' ⟨v,c',he,hp,hrd⟩=>⟨v,he,cx,⟨hp.wos,hp.tape,hp.output,hp.size,fun _ h=>h,fun _ h=>.inl h,fun b hb _=>hp.keep b hb fun ⟨id,o,h,_⟩=>no id o h,fun _ _=>⟨rfl,rfl⟩,
  ⟨fun id o h=>(no id o h).elim,fun id o b h=>(no id o h).elim,fun id id' o o' b _ h=>(no id o h).elim,fun b hb=>Nat.lt_of_lt_of_le (hok.phi b hb) hp.size⟩,fun id o b h=>(no id o h).elim⟩,cD1 hfl hrd⟩
theorem cC6 {c:Go.Call} {f:Operand} {g:Nat} {caps:List AV} (ho:o.op=.call c) (hc:c.callee=.value f) (hf:ev f=.fn g caps) {ins0 ins':List AV} {gz upd:Os} {news:List Nat} {av:AV} (hspec:Spec P g [] ins' av upd news)
  (hz:aG9 os (c.args.toList.map ev++caps) ins0 gz) (hle:aI1 ins0 ins') (hfl:bP2 av=true) (hfu:aV2 upd) (hK:K av (gz.map (·.1)) news upd):J5 P o ev os K:=by
 intro _
 obtain ⟨hcall,hnews,hspec⟩:=hspec
 refine ⟨av,gz,upd,news,fun cx w ρ hok hr=>?_,hz.sub,hnews,hK⟩
 have rf:Rd cx w (ρ f) (.fn g caps):=by
  have:=hr f (by simp [ho,Op.operands,Go.Call.operands,hc])
  rwa [hf] at this
 obtain ⟨cus,e1,hcus⟩:=rf.fn_
 have hargs:q9 cx w (c.args.toList.map ρ++cus) (c.args.toList.map ev++caps):=(aT9 fun x hx=>hr x (by simp [ho,Op.operands,Go.Call.operands,hc]; exact .inr (by simpa using hx))).append hcus
 have hargs':=aR5 hle (hz.run cx w _ hok hargs)
 have p1:=Post.freeze hok
 have no:∀(id:Nat) (o:Obj),lk ([]:Os) id=some o→False:=fun id o h=>(by cases h)
 have ok1:I6 (cx.fz gz) w []:=⟨fun id o h=>(no id o h).elim,fun id o b h=>(no id o h).elim,fun id id' o o' b _ h=>(no id o h).elim,p1.hok.phi⟩
 have hcalls:=hspec (cx.fz gz) w (c.args.toList.map ρ++cus).toArray ok1 (by simpa using hargs')
 rw [a92 ho hc hcall e1]
 refine hcalls.mono fun e w' ⟨v,c',he,hp,hrd⟩=>⟨v,he,{ c' with Φ:=cx.Φ },⟨hp.wos,hp.tape,hp.output,hp.size,fun _ h=>h,fun _ h=>.inl h,fun b hb _=>hp.keep b hb fun ⟨id,o,h,_⟩=>no id o h,fun i hi=>hp.ctx i hi,
  ⟨fun id o h=>(hfu.at h).rep (hp.hok.rep id o h) rfl rfl,fun id o b h hf=>?_,fun id id' o o' b hne h h' hf=>?_,fun b hb=>Nat.lt_of_lt_of_le (hok.phi b hb) hp.size⟩,fun id o b h hf=>?_⟩,cA3 hfl hrd rfl⟩
 ·have hf':foot c' id o b:=by cases o<;>exact hf
  have:=hp.hok.lt id o b h hf'
  exact ⟨this.1,fun hb=>this.2 (hp.phi b (.inl hb))⟩
 ·have hf1:foot c' id o b:=by cases o<;>exact hf
  intro hf2
  have hf2':foot c' id' o' b:=by cases o'<;>exact hf2
  exact hp.hok.sep id id' o o' b hne h h' hf1 hf2'
 ·have hf':foot c' id o b:=by cases o<;>exact hf
  rcases hp.feet id o b h hf' with h1|⟨i,x,h1,_⟩
  ·exact .inl h1
  ·exact (no i x h1).elim
theorem cI1 {c:Go.Call} {f:Operand} {g:Nat} {caps:List AV} (ho:o.op=.call c) (hc:c.callee=.value f) (hf:ev f=.fn g caps) (h:l7 P g (c.args.toList.map ev++caps) os K):J5 P o ev os K:=by
 rcases h.out with ⟨ins0,ins',gz,need,upd,news,av,hspec,hz,hle,hs,hd,hfr,hK⟩|⟨ins0,ins',gz,av,hspec,hz,hle,hfl,hK⟩|⟨ins0,ins',gz,upd,news,av,hspec,hz,hle,hfl,hfu,hK⟩
 case inr.inl=>exact cI6 ho hc hf hspec hz hle hfl hK
 case inr.inr=>exact cC6 ho hc hf hspec hz hle hfl hfu hK
 intro _
 obtain ⟨hcall,hnews,hspec⟩:=hspec
 have hsub:=aM2 hs
 obtain ⟨s1,s2,s3⟩:=aJ1 hz.sub hsub
 have hnone:∀id x,lk need id=some x→lk gz id=none:=fun id x h=>by
  have:=List.all_eq_true.1 hd _ (O3 h)
  simpa using this
 refine ⟨av,gz++need,upd++F6 gz,news,fun cx w ρ hok hr=>?_,s1,fun id hid=>?_,hK⟩
 ·have rf:Rd cx w (ρ f) (.fn g caps):=by
   have:=hr f (by simp [ho,Op.operands,Go.Call.operands,hc])
   rwa [hf] at this
  obtain ⟨cus,e1,hcus⟩:=rf.fn_
  have hargs:q9 cx w (c.args.toList.map ρ++cus) (c.args.toList.map ev++caps):=(aT9 fun x hx=>hr x (by simp [ho,Op.operands,Go.Call.operands,hc]; exact .inr (by simpa using hx))).append hcus
  have hargs':=aR5 hle (hz.run cx w _ (hok.sub s3) hargs)
  have p1:=(Post.freeze (hok.sub s3)).widen s3
  have ok1:I6 (cx.fz gz) w need:=by
   have hfrm:=hok.frame (fun _ _ h=>h) p1 (fun _ h=>(by cases h)) (fun _ _ _ _ _ h=>(by cases h))
   refine hfrm.sub fun id x hl=>?_
   have hg:lk (F6 gz) id=none:=by
    have:=aG7 gz id
    rw [hnone id x hl] at this
    cases hq:lk (F6 gz) id with
    |none=>rfl
    |some y=>rw [hq] at this; cases this
   rw [F5,hg]
   simpa using s2 id x hl
  have hcalls:=hspec (cx.fz gz) w (c.args.toList.map ρ++cus).toArray ok1 (by simpa using hargs')
  rw [a92 ho hc hcall e1]
  refine hcalls.mono fun e w' ⟨v,c',he,hp,hrd⟩=>⟨v,he,c',?_,hrd⟩
  have:=Post.trans hok p1 hp (fun _ h=>(by cases h)) hnews (fun id x hl=>by
   have hg:lk (F6 gz) id=none:=by
    have:=aG7 gz id
    rw [hnone id x hl] at this
    cases hq:lk (F6 gz) id with
    |none=>rfl
    |some y=>rw [hq] at this; cases this
   rw [F5,hg]
   simpa using s2 id x hl) (fun _ _ _ _ _ h=>(by cases h)) (fun id x hl hu y hy=>by
   rw [F5] at hl
   cases hg:lk (F6 gz) id with
   |some z =>
    rw [hg] at hl
    simp at hl
    subst hl
    rw [aH6 hg]
    simp [Obj.ids]
   |none =>
    rw [hg] at hl
    simp at hl
    rw [F5] at hl
    cases hgz:lk gz id with
    |some z =>
     rw [hgz] at hl
     simp at hl
     subst hl
     rw [hz.ids id z hgz]
     simp
    |none =>
     rw [hgz] at hl
     simp at hl
     exact aC6 (List.all_eq_true.1 hfr _ (O3 hl)) y hy)
  simpa using this
 ·rw [F5]
  have:=hnews id hid
  cases hu:lk upd id with
  |none=>rw [hu] at this; cases this
  |some x=>rfl
def bK7 (os:Os):AV→Bool
 |.own id=>match lk os id with
  |some (.deep _ _ _ _ _ _)=>true
  |_=>false
 |.ep id _ _ _=>match lk os id with
  |some (.deep _ _ _ _ _ _)=>true
  |_=>false
 |_=>false
def cO9 (tab:H7) (t:TypeId):Bool:=match lk tab t with
 |some ti=>match lk tab ti.elem with
  |some te=>Nat.beq te.kind 1 && Nat.beq te.len 1
  |none=>false
 |none=>false
theorem aO3 {b:Bool} {X Y Z:Prop} (h:bif b then X else Y) (hx:b=true→X→Z) (hy:b=false→Y→Z):Z:=by
 cases b
 ·exact hy rfl h
 ·exact hx rfl h
def cF5 (tab:H7) (t:TypeId):Bool:=match lk tab t with
 |some ti=>Nat.beq ti.kind 2
 |none=>false
def cN4 (tab:H7) (t:TypeId) (x:AV):Bool :=
 match lk tab t with
 |some ti=>match x with
  |.str _=>Nat.beq ti.kind 4
  |.mp _=>Nat.beq ti.kind 8
  |_=>Nat.beq ti.kind 2
 |none=>false
def bT7 (P:Program) (tab:H7) (d:Nat) (c:Go.Call) (ev:Ev) (os:Os) (K:Kt):Prop :=
 match c.callee with
 |.builtin b=>match b,c.args.toList,c.argTypes.toList with
  |.len,[x],[t]=>bif bK7 os (ev x) then (match cF5 tab t with
    |true=>bT1 os (ev x) K
    |false=>False) else match cN4 tab t (ev x) with
   |true=>b46 os (ev x) K
   |false=>False
  |.append,[x,y],[t,t']=>bif bK7 os (ev x) then aZ8 tab os d t t' (ev x) (ev y) K else bif cM3 (ev y) then a02 tab os d t t' (ev x) (ev y) K else bF0 tab os d t t' (ev x) (ev y) K
  |.min,[x,y],_=>b22 (ev x) (ev y) K
  |.max,[x,y],_=>b31 (ev x) (ev y) K
  |_,_,_=>False
 |.value f=>match ev f with
  |.fn g caps=>l7 P g (c.args.toList.map ev++caps) os K
  |_=>False
 |.invoke _ _=>False
theorem cB7 (hT:F8 P tab) (d:Nat) {c:Go.Call} (ho:o.op=.call c) (h:bT7 P tab d c ev os K):J5 P o ev os K:=by
 unfold bT7 at h
 obtain ⟨callee,args,argTypes⟩:=c
 split at h
 ·rename_i b hb
  simp only at hb
  subst hb
  split at h
  ·rename_i x t ha ht
   have ha':args=#[x]:=by simpa using congrArg List.toArray ha
   have ht':argTypes=#[t]:=by simpa using congrArg List.toArray ht
   subst ha' ht'
   refine aO3 h (fun _ h=>?_) fun _ h=>?_
   ·split at h
    ·rename_i hk
     unfold cF5 at hk
     split at hk
     ·rename_i ti hti
      exact cH7 hT hti (Nat.eq_of_beq_eq_true hk) ho h
     ·cases hk
    ·exact h.elim
   split at h
   ·rename_i hl
    refine cL7 hT ho ?_ h
    unfold cN4 at hl
    split at hl
    ·rename_i ti hti
     rw [hti]
     split at hl
     ·rename_i s hx
      rw [hx]
      exact Nat.eq_of_beq_eq_true hl
     ·rename_i s hx
      rw [hx]
      exact Nat.eq_of_beq_eq_true hl
     ·rename_i hne hne2
      have:=Nat.eq_of_beq_eq_true hl
      cases hx:ev x<;>first|exact this|exact absurd hx (hne _)|exact absurd hx (hne2 _)
    ·cases hl
   ·exact h.elim
  ·rename_i x y t t' ha ht
   have ha':args=#[x,y]:=by simpa using congrArg List.toArray ha
   have ht':argTypes=#[t,t']:=by simpa using congrArg List.toArray ht
   subst ha' ht'
   exact aO3 h (fun _ h=>b29 hT d ho h) fun _ h=>aO3 h (fun _ h=>b24 hT d ho h) fun _ h=>b96 hT d ho h
  ·rename_i x y ha
   have ha':args=#[x,y]:=by simpa using congrArg List.toArray ha
   subst ha'
   exact cL5 ho h
  ·rename_i x y ha
   have ha':args=#[x,y]:=by simpa using congrArg List.toArray ha
   subst ha'
   exact cM9 ho h
  ·exact h.elim
 ·rename_i f hf
  split at h
  ·rename_i g caps hg
   exact cI1 ho hf hg h
  ·exact h.elim
 ·exact h.elim
def aQ8 (P:Program) (tab:H7) (et:aB3) (d:Nat) (op:Op) (ev:Ev) (os:Os) (K:Kt):Prop :=
 match op with
 |.move x=>K (ev x) [] [] []
 |.assign x=>K (ev x) [] [] []
 |.pick c a b=>bQ9 ev c a b K
 |.alloc t=>bL3 tab d t K
 |.box t x=>b45 d t (ev x) K
 |.build t ps=>bJ8 tab ev t ps K
 |.buildSlice t n ps=>bif cO9 tab t then (bC1 tab os ev d t n ps K∨aI3 tab os ev d t n ps K) else aI3 tab os ev d t n ps K
 |.load t x=>bif bK7 os (ev x) then bJ5 tab os t (ev x) K else bW0 tab os t (ev x) (cE5 os K)
 |.store t x y=>bif bK7 os (ev x) then bD3 tab os t (ev x) (ev y) K else bD2 tab os t (ev x) (ev y) K
 |.nilCheck x=>b43 (ev x) K
 |.binOp op t x y _=>bif cD0 y then b37 tab op t (ev x) (ev y) K else b34 tab et op t (ev x) (ev y) (fun av=>K av [] [] [])
 |.unOp op _ x=>cC4 op (ev x) K
 |.convert s t x=>bU3 tab s t (ev x) K
 |.makeFunc fn f c=>bV8 ev fn f c K
 |.makeSlice t x y=>bS3 tab d t (ev x) (ev y) K
 |.slice t x lo hi none=>bif bK7 os (ev x) then bD5 tab os d t (ev x) (M3 ev lo) (M3 ev hi) K else bI7 tab os d t (ev x) (M3 ev lo) (M3 ev hi) K
 |.fieldAddr s x f=>aT6 tab s (ev x) f K
 |.field s x f=>bK5 tab s (ev x) f K
 |.indexAddr t x i=>bif bK7 os (ev x) then aR2 tab os t (ev x) (ev i) K else aT0 tab os t (ev x) (ev i) K
 |.index t x i=>bK2 tab t (ev x) (ev i) K
 |.extract x i=>a09 (ev x) i K
 |.makeMap _ none=>bN2 d K
 |.lookup t x k false=>bE8 tab os t (ev x) (ev k) K
 |.mapUpdate t x k v=>aT4 tab os t (ev x) (ev k) (ev v) K
 |.call c=>bT7 P tab d c ev os K
 |_=>False
theorem step_ok (hT:F8 P tab) (hE:aC3 P et) (d:Nat) (h:aQ8 P tab et d o.op ev os K):J5 P o ev os K:=by
 cases ho:o.op<;>rw [ho] at h<;>simp only [aQ8] at h
 case move x=>exact bX5 (.inl ho) h
 case assign x=>exact bX5 (.inr ho) h
 case pick c a b=>exact cG8 ho h
 case alloc t=>exact cC3 hT d ho h
 case box t x=>exact cK8 d ho h
 case build t ps=>exact cB8 hT ho h
 case buildSlice t n ps=>exact aO3 h (fun _ h=>h.elim (fun h=>b57 hT d ho h) fun h=>aY6 hT d ho h) fun _ h=>aY6 hT d ho h
 case load t x=>exact aO3 h (fun _ h=>cA1 hT ho h) fun _ h=>(cI2 hT ho h).res
 case store t x y=>exact aO3 h (fun _ h=>b72 hT ho h) fun _ h=>b71 hT ho h
 case nilCheck x=>exact cN0 ho h
 case binOp op t x y ty=>exact aO3 h (fun hy h=>cN9 hT ho hy h) fun _ h=>cM8 hT hE ho h
 case unOp op t x=>exact cO1 ho h
 case convert s t x=>exact cI8 hT ho h
 case makeFunc fn f c=>exact cG5 ho h
 case makeSlice t x y=>exact cI9 hT d ho h
 case slice t x lo hi mx=>cases mx with
  |none=>exact aO3 h (fun _ h=>b92 hT d ho h) fun _ h=>cE6 hT d ho h
  |some m=>exact h.elim
 case fieldAddr s x f=>exact bS7 hT ho h
 case field s x f=>exact cC8 hT ho h
 case indexAddr t x i=>exact aO3 h (fun _ h=>bO9 hT ho h) fun _ h=>bT5 hT ho h
 case index t x i=>exact cD4 hT ho h
 case extract x i=>exact b23 ho h
 case makeMap t r=>cases r with
  |none=>exact b25 d ho h
  |some r=>exact h.elim
 case lookup t x k b=>cases b with
  |false=>exact b59 hT ho h
  |true=>exact h.elim
 case mapUpdate t x k v=>exact bQ8 hT ho h
 case call c=>exact cB7 hT d ho h
end
end Go.Proofs.YtibjcppjfkamhaaDoor
