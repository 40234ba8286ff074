/- THE WALK OVER READINGS: a region's operations in a row, and what must be shown of them. No program in sight; types are told by the table. -/
import Derived.Test.YtibjcppjfkamhaaDoorAr
namespace Go.Proofs.YtibjcppjfkamhaaDoor
open Go.RowKit
set_option linter.unusedVariables false
def top : Nat:=1000
def aJ5 : Os→Os→Prop
 |[],_=>True
 |(k,o)::r,os=>lk os k=some o∧aJ5 r os
theorem aK3 {os:Os}:∀{need:Os},aJ5 need os→∀id o,lk need id=some o→lk os id=some o
 |(k,x)::r,h,id,o,hl=>by
  rw [l9] at hl
  split at hl
  ·rename_i e
   subst e
   cases hl
   exact h.1
  ·exact aK3 h.2 id o hl
def aC1 : AV→Bool
 |.int _=>true
 |.ik _ _=>true
 |.bool _=>true
 |.str _=>true
 |.any=>true
 |.con _=>true
 |.ifc _=>true
 |_=>false
def bM5 : AV→Bool
 |.tup l=>l.all aC1
 |.agg l=>l.all aC1
 |a=>aC1 a
theorem aV1 {c c':Ctx} {w w':World} {v:Value} {a:AV} (h:aC1 a=true) (hr:Rd c w v a):Rd c' w' v a:=by
 cases a<;>first|cases h|skip
 ·exact Rd.any_ v
 ·obtain ⟨rfl,h⟩:=hr.int_; exact .fz (.int h)
 ·rw [hr.ik_]; exact .fz (.ik _ _)
 ·rw [hr.bool_]; exact .fz (.bool _)
 ·obtain ⟨rfl,h⟩:=hr.str_; exact .fz (.str h)
 ·rcases hr.ifc_ with ⟨rfl,rfl⟩|⟨t,p,rfl,rfl⟩
  ·exact .fz .ifcn
  ·exact .fz (.ifcs t p)
 ·rw [hr.con_]; exact .fz (.con _)
theorem aQ7 {c c':Ctx} {w w':World}:∀{us:List Value} {as:List AV},as.all aC1=true→q9 c w us as→q9 c' w' us as
 |_,_,_,.nil=>.nil
 |_,_,h,.cons x t=>by
  simp only [List.all_cons,Bool.and_eq_true] at h
  exact .cons (aV1 h.1 x) (aQ7 h.2 t)
theorem cA3 {c c':Ctx} {w w':World} {v:Value} {a:AV} (h:bM5 a=true) (hr:Rd c w v a):Rd c' w' v a:=by
 unfold bM5 at h
 split at h
 ·obtain ⟨us,rfl,hu⟩:=hr.tup_; exact .tup (aQ7 h hu)
 ·obtain ⟨us,rfl,hu⟩:=hr.agg_; exact .agg (aQ7 h hu)
 ·exact aV1 h hr
def bM3 : Obj→Prop
 |.gone=>True
 |.row _ ls _=>∀cs∈ls,cs.all aC1=true
 |.deep _ _ cols l _ _=>∀cs∈l,∀(off:Nat) (a:AV),cs[off]?=some a→match lk cols off with
  |none=>aC1 a=true
  |some _=>∃isz ls,a=.sl isz ls∧∀cs'∈ls,cs'.all aC1=true
 |_=>False
def aS3 : Os→Prop
 |[]=>True
 |p::r=>bM3 p.2∧aS3 r
theorem aS3.at : ∀{l:Os},aS3 l→∀{id:Nat} {o:Obj},lk l id=some o→bM3 o
 |(k,x)::r,h,id,o,hl=>by
  rw [l9] at hl
  split at hl
  ·cases hl; exact h.1
  ·exact aS3.at h.2 hl
def bN4 : AV→Bool
 |.tup l=>l.all fun a=>match a with|.own _=>true|.agg cs=>cs.all aC1|a=>aC1 a
 |.own _=>true
 |.agg cs=>cs.all aC1
 |a=>aC1 a
theorem bQ1 {Φ Φ':Nat→Prop} {w w':World} {v:Value} {a:AV} (h:aC1 a=true) (hr:Rf Φ w v a):Rf Φ' w' v a:=by
 cases hr<;>first|cases h|skip
 ·exact .any _
 ·exact .int (by assumption)
 ·exact .ik _ _
 ·exact .bool _
 ·exact .str (by assumption)
 ·exact .ifcn
 ·exact .ifcs _ _
 ·exact .con _
theorem aX7 {Φ Φ':Nat→Prop} {w w':World}:∀{us:List Value} {as:List AV},as.all aC1=true→y9 Φ w us as→y9 Φ' w' us as
 |_,_,_,.nil=>.nil
 |_,_,h,.cons x t=>by
  simp only [List.all_cons,Bool.and_eq_true] at h
  exact .cons (bQ1 h.1 x) (aX7 h.2 t)
theorem bM3.rep {c c':Ctx} {w:World} {id:Nat} {o:Obj} (hf:bM3 o) (h:Z9 c w id o) (h1:c'.hd=c.hd) (h2:c'.μ=c.μ):Z9 c' w id o:=by
 cases o with
 |gone=>trivial
 |row sz ls e =>
  obtain ⟨css,p1,p2,p3⟩:=h
  exact ⟨css,by rw [h1]; exact p1,p2,fun i us cs hu hc=>aX7 (hf cs (List.mem_of_getElem? hc)) (p3 i us cs hu hc)⟩
 |deep sz e cols l hs sh =>
  obtain ⟨css,p1,p2,p3,p4⟩:=h
  refine ⟨css,by rw [h1]; exact p1,⟨p2.len,fun i us cs hu hc=>⟨(p2.cell i us cs hu hc).1,fun off u a b1 b2 b3=>?_⟩,fun i us cs off isz ie u hu hc b1 b2 b3=>?_,fun i off x us u b1 b2 b3=>by rw [h1]; exact p2.hole i off x us u b1 b2 b3,p2.apart⟩,by rw [h1]; exact p3,by rw [h1]; exact p4⟩
  ·have:=hf cs (List.mem_of_getElem? hc) off a b2
   rw [b3] at this
   exact bQ1 this ((p2.cell i us cs hu hc).2 off u a b1 b2 b3)
  ·obtain ⟨ls,q1,css',q2,q3,q4⟩:=p2.inner i us cs off isz ie u hu hc b1 b2 b3
   have:=hf cs (List.mem_of_getElem? hc) off _ q1
   rw [b1] at this
   obtain ⟨isz',ls',e1,e2⟩:=this
   cases e1
   exact ⟨ls,q1,css',q2,q3,fun k us' cs' h3 h4=>aX7 (e2 cs' (List.mem_of_getElem? h4)) (q4 k us' cs' h3 h4)⟩
 |_=>exact hf.elim
theorem b76 {c c':Ctx} {w:World} {v:Value} {a:AV} (hf:bN4 a=true) (h:Rd c w v a) (h1:c'.hd=c.hd):Rd c' w v a:=by
 have own:∀{v:Value} {id:Nat},Rd c w v (.own id)→Rd c' w v (.own id):=fun {v id} h=>by
  obtain ⟨A,n,cap,e1,e2,e3,e4⟩:=h.own_
  rw [e1]
  exact .own (by rw [h1]; exact e2) e3 e4
 have agg:∀{v:Value} {cs:List AV},cs.all aC1=true→Rd c w v (.agg cs)→Rd c' w v (.agg cs):=fun {v cs} hf h=>by
  obtain ⟨us,rfl,hu⟩:=h.agg_
  exact .agg (aQ7 hf hu)
 unfold bN4 at hf
 split at hf
 ·rename_i l
  obtain ⟨us,rfl,hu⟩:=h.tup_
  refine .tup ?_
  clear h
  induction l generalizing us with
  |nil=>cases hu; exact .nil
  |cons a l ih =>
   cases hu with|cons h t =>
   simp only [List.all_cons,Bool.and_eq_true] at hf
   refine .cons ?_ (ih hf.2 _ t)
   cases a<;>first|exact own h|exact agg hf.1 h|exact aV1 hf.1 h
 ·exact own h
 ·exact agg hf h
 ·exact aV1 hf h
structure l7 (P:Program) (f:Nat) (ins:List AV) (os:Os) (K:Kt):Prop where
 out:(∃(ins0 ins':List AV) (g need upd:Os) (news:List Nat) (av:AV),Spec P f need ins' av upd news∧aF7 os ins ins0 g∧aH8 ins0 ins'∧aJ5 need os∧(need.all fun p=>(lk g p.1).isNone)=true∧(need.all fun p=>aE2 news p.2.ids)=true ∧
  K av ((g++need).map (·.1)) news (upd++F3 g)) ∨
 (∃(ins0 ins':List AV) (g:Os) (av:AV),Spec P f [] ins' av [] []∧aF5 os ins ins0 g∧aH8 ins0 ins'∧bM5 av=true∧K av (g.map (·.1)) [] []) ∨
 (∃(ins0 ins':List AV) (g upd:Os) (news:List Nat) (av:AV),Spec P f [] ins' av upd news∧aF5 os ins ins0 g∧aH8 ins0 ins'∧bN4 av=true∧aS3 upd∧K av (g.map (·.1)) news upd)
section
variable {P:Program} {tab:H8} {et:aA2} {o:Oper} {ev:Ev} {os:Os} {K:Kt}
theorem l7.fz {f:Nat} {ins ins':List AV} {need upd:Os} {news:List Nat} {av:AV} (h:Spec P f need ins' av upd news) (hle:aH8 (L8 os ins).1 ins') (hs:aJ5 need os) (hd:(need.all fun p=>(lk (L8 os ins).2 p.1).isNone)=true)
  (hf:(need.all fun p=>aE2 news p.2.ids)=true) (hK:K av (((L8 os ins).2++need).map (·.1)) news (upd++F3 (L8 os ins).2)):l7 P f ins os K :=
 ⟨.inl ⟨_,ins',_,need,upd,news,av,h,b30 ins,hle,hs,hd,hf,hK⟩⟩
theorem l7.as {f:Nat} {ins ins':List AV} {need upd:Os} {news:List Nat} {av:AV} (h:Spec P f need ins' av upd news) (hle:aH8 ins ins') (hs:aJ5 need os)
  (hf:(need.all fun p=>aE2 news p.2.ids)=true) (hK:K av (need.map (·.1)) news upd):l7 P f ins os K :=
 ⟨.inl ⟨ins,ins',[],need,upd,news,av,h,⟨fun _ _ h=>(by cases h),fun _ _ h=>(by cases h),fun c w us _ h=>q9.mono (c:=c) (c':=c.fz []) (fun _ _=>rfl) (fun _ h=>Or.inl h) (fun _ _=>⟨rfl,rfl⟩) h⟩,hle,hs,List.all_eq_true.2 fun _ _=>rfl,hf,by simpa [F3] using hK⟩⟩
theorem a00 {c:Go.Call} {f:Operand} {g:Nat} {cus:List Value} {ρ:Operand→Value} {w:World} (ho:o.op=.call c) (hc:c.callee=.value f) (hcall:callable P g=true) (e1:ρ f=.func (.func g) #[] cus.toArray) :
  (execOp ρ o).run P w=.ok (.enter g (c.args.toList.map ρ++cus).toArray) w:=by
 unfold callable at hcall
 split at hcall
 ·rename_i fn hfn
  simp only [Bool.and_eq_true,Bool.not_eq_true',beq_eq_false_iff_ne,ne_eq] at hcall
  have hbody:fn.body.isNone=false:=by cases hb:fn.body<;>simp_all
  have hm:c.args.map ρ++cus.toArray=(c.args.toList.map ρ++cus).toArray:=by
   apply Array.toList_inj.1
   simp
  simp [execOp,ho,resolve,hc,e1,Deferred.ofValue,invoke,callFunc,hfn,hcall.2,hm]
  intro hbn
  rw [hbn] at hbody
  cases hbody
 ·cases hcall
theorem cE7 {c:Go.Call} {f:Operand} {g:Nat} {caps:List AV} (ho:o.op=.call c) (hc:c.callee=.value f) (hf:ev f=.fn g caps) {ins0 ins':List AV} {gz:Os} {av:AV} (hspec:Spec P g [] ins' av [] [])
  (hz:aF5 os (c.args.toList.map ev++caps) ins0 gz) (hle:aH8 ins0 ins') (hfl:bM5 av=true) (hK:K av (gz.map (·.1)) [] []):J5 P o ev os K:=by
 intro _
 obtain ⟨hcall,hnews,hspec⟩:=hspec
 refine ⟨av,gz,[],[],fun cx w ρ hok hr=>?_,hz.sub,fun id hid=>(by cases hid),hK⟩
 have rf:Rd cx w (ρ f) (.fn g caps):=by
  have:=hr f (by simp [ho,Op.operands,Go.Call.operands,hc])
  rwa [hf] at this
 obtain ⟨cus,e1,hcus⟩:=rf.fn_
 have hargs:q9 cx w (c.args.toList.map ρ++cus) (c.args.toList.map ev++caps):=(aT5 fun x hx=>hr x (by simp [ho,Op.operands,Go.Call.operands,hc]; exact .inr (by simpa using hx))).append hcus
 have hargs':=aQ0 hle (hz.run cx w _ hok hargs)
 have p1:=Post.freeze hok
 have no:∀(id:Nat) (o:Obj),lk ([]:Os) id=some o→False:=fun id o h=>(by cases h)
 have ok1:I4 (cx.fz gz) w []:=⟨fun id o h=>(no id o h).elim,fun id o b h=>(no id o h).elim,fun id id' o o' b _ h=>(no id o h).elim,p1.hok.phi⟩
 have hcalls:=hspec (cx.fz gz) w (c.args.toList.map ρ++cus).toArray ok1 (by simpa using hargs')
 rw [a00 ho hc hcall e1]
 refine hcalls.mono fun e w' ⟨v,c',he,hp,hrd⟩=>⟨v,he,cx,⟨hp.wos,hp.tape,hp.output,hp.size,fun _ h=>h,fun _ h=>.inl h,fun b hb _=>hp.keep b hb fun ⟨id,o,h,_⟩=>no id o h,fun _ _=>⟨rfl,rfl⟩,
  ⟨fun id o h=>(no id o h).elim,fun id o b h=>(no id o h).elim,fun id id' o o' b _ h=>(no id o h).elim,fun b hb=>Nat.lt_of_lt_of_le (hok.phi b hb) hp.size⟩,fun id o b h=>(no id o h).elim⟩,cA3 hfl hrd⟩
theorem cA9 {c:Go.Call} {f:Operand} {g:Nat} {caps:List AV} (ho:o.op=.call c) (hc:c.callee=.value f) (hf:ev f=.fn g caps) {ins0 ins':List AV} {gz upd:Os} {news:List Nat} {av:AV} (hspec:Spec P g [] ins' av upd news)
  (hz:aF5 os (c.args.toList.map ev++caps) ins0 gz) (hle:aH8 ins0 ins') (hfl:bN4 av=true) (hfu:aS3 upd) (hK:K av (gz.map (·.1)) news upd):J5 P o ev os K:=by
 intro _
 obtain ⟨hcall,hnews,hspec⟩:=hspec
 refine ⟨av,gz,upd,news,fun cx w ρ hok hr=>?_,hz.sub,hnews,hK⟩
 have rf:Rd cx w (ρ f) (.fn g caps):=by
  have:=hr f (by simp [ho,Op.operands,Go.Call.operands,hc])
  rwa [hf] at this
 obtain ⟨cus,e1,hcus⟩:=rf.fn_
 have hargs:q9 cx w (c.args.toList.map ρ++cus) (c.args.toList.map ev++caps):=(aT5 fun x hx=>hr x (by simp [ho,Op.operands,Go.Call.operands,hc]; exact .inr (by simpa using hx))).append hcus
 have hargs':=aQ0 hle (hz.run cx w _ hok hargs)
 have p1:=Post.freeze hok
 have no:∀(id:Nat) (o:Obj),lk ([]:Os) id=some o→False:=fun id o h=>(by cases h)
 have ok1:I4 (cx.fz gz) w []:=⟨fun id o h=>(no id o h).elim,fun id o b h=>(no id o h).elim,fun id id' o o' b _ h=>(no id o h).elim,p1.hok.phi⟩
 have hcalls:=hspec (cx.fz gz) w (c.args.toList.map ρ++cus).toArray ok1 (by simpa using hargs')
 rw [a00 ho hc hcall e1]
 refine hcalls.mono fun e w' ⟨v,c',he,hp,hrd⟩=>⟨v,he,{ c' with Φ:=cx.Φ },⟨hp.wos,hp.tape,hp.output,hp.size,fun _ h=>h,fun _ h=>.inl h,fun b hb _=>hp.keep b hb fun ⟨id,o,h,_⟩=>no id o h,fun i hi=>hp.ctx i hi,
  ⟨fun id o h=>(hfu.at h).rep (hp.hok.rep id o h) rfl rfl,fun id o b h hf=>?_,fun id id' o o' b hne h h' hf=>?_,fun b hb=>Nat.lt_of_lt_of_le (hok.phi b hb) hp.size⟩,fun id o b h hf=>?_⟩,b76 hfl hrd rfl⟩
 ·have hf':foot c' id o b:=by cases o<;>exact hf
  have:=hp.hok.lt id o b h hf'
  exact ⟨this.1,fun hb=>this.2 (hp.phi b (.inl hb))⟩
 ·have hf1:foot c' id o b:=by cases o<;>exact hf
  intro hf2
  have hf2':foot c' id' o' b:=by cases o'<;>exact hf2
  exact hp.hok.sep id id' o o' b hne h h' hf1 hf2'
 ·have hf':foot c' id o b:=by cases o<;>exact hf
  rcases hp.feet id o b h hf' with h1|⟨i,x,h1,_⟩
  ·exact .inl h1
  ·exact (no i x h1).elim
theorem cG7 {c:Go.Call} {f:Operand} {g:Nat} {caps:List AV} (ho:o.op=.call c) (hc:c.callee=.value f) (hf:ev f=.fn g caps) (h:l7 P g (c.args.toList.map ev++caps) os K):J5 P o ev os K:=by
 rcases h.out with ⟨ins0,ins',gz,need,upd,news,av,hspec,hz,hle,hs,hd,hfr,hK⟩|⟨ins0,ins',gz,av,hspec,hz,hle,hfl,hK⟩|⟨ins0,ins',gz,upd,news,av,hspec,hz,hle,hfl,hfu,hK⟩
 case inr.inl=>exact cE7 ho hc hf hspec hz hle hfl hK
 case inr.inr=>exact cA9 ho hc hf hspec hz hle hfl hfu hK
 intro _
 obtain ⟨hcall,hnews,hspec⟩:=hspec
 have hsub:=aK3 hs
 obtain ⟨s1,s2,s3⟩:=aH4 hz.sub hsub
 have hnone:∀id x,lk need id=some x→lk gz id=none:=fun id x h=>by
  have:=List.all_eq_true.1 hd _ (M6 h)
  simpa using this
 refine ⟨av,gz++need,upd++F3 gz,news,fun cx w ρ hok hr=>?_,s1,fun id hid=>?_,hK⟩
 ·have rf:Rd cx w (ρ f) (.fn g caps):=by
   have:=hr f (by simp [ho,Op.operands,Go.Call.operands,hc])
   rwa [hf] at this
  obtain ⟨cus,e1,hcus⟩:=rf.fn_
  have hargs:q9 cx w (c.args.toList.map ρ++cus) (c.args.toList.map ev++caps):=(aT5 fun x hx=>hr x (by simp [ho,Op.operands,Go.Call.operands,hc]; exact .inr (by simpa using hx))).append hcus
  have hargs':=aQ0 hle (hz.run cx w _ (hok.sub s3) hargs)
  have p1:=(Post.freeze (hok.sub s3)).widen s3
  have ok1:I4 (cx.fz gz) w need:=by
   have hfrm:=hok.frame (fun _ _ h=>h) p1 (fun _ h=>(by cases h)) (fun _ _ _ _ _ h=>(by cases h))
   refine hfrm.sub fun id x hl=>?_
   have hg:lk (F3 gz) id=none:=by
    have:=aF3 gz id
    rw [hnone id x hl] at this
    cases hq:lk (F3 gz) id with
    |none=>rfl
    |some y=>rw [hq] at this; cases this
   rw [D8,hg]
   simpa using s2 id x hl
  have hcalls:=hspec (cx.fz gz) w (c.args.toList.map ρ++cus).toArray ok1 (by simpa using hargs')
  rw [a00 ho hc hcall e1]
  refine hcalls.mono fun e w' ⟨v,c',he,hp,hrd⟩=>⟨v,he,c',?_,hrd⟩
  have:=Post.trans hok p1 hp (fun _ h=>(by cases h)) hnews (fun id x hl=>by
   have hg:lk (F3 gz) id=none:=by
    have:=aF3 gz id
    rw [hnone id x hl] at this
    cases hq:lk (F3 gz) id with
    |none=>rfl
    |some y=>rw [hq] at this; cases this
   rw [D8,hg]
   simpa using s2 id x hl) (fun _ _ _ _ _ h=>(by cases h)) (fun id x hl hu y hy=>by
   rw [D8] at hl
   cases hg:lk (F3 gz) id with
   |some z =>
    rw [hg] at hl
    simp at hl
    subst hl
    rw [aG3 hg]
    simp [Obj.ids]
   |none =>
    rw [hg] at hl
    simp at hl
    rw [D8] at hl
    cases hgz:lk gz id with
    |some z =>
     rw [hgz] at hl
     simp at hl
     subst hl
     rw [hz.ids id z hgz]
     simp
    |none =>
     rw [hgz] at hl
     simp at hl
     exact aB1 (List.all_eq_true.1 hfr _ (M6 hl)) y hy)
  simpa using this
 ·rw [D8]
  have:=hnews id hid
  cases hu:lk upd id with
  |none=>rw [hu] at this; cases this
  |some x=>rfl
def bF6 (os:Os):AV→Bool
 |.own id=>match lk os id with
  |some (.deep _ _ _ _ _ _)=>true
  |_=>false
 |.ep id _ _ _=>match lk os id with
  |some (.deep _ _ _ _ _ _)=>true
  |_=>false
 |_=>false
def cM5 (tab:H8) (t:TypeId):Bool:=match lk tab t with
 |some ti=>match lk tab ti.elem with
  |some te=>Nat.beq te.kind 1 && Nat.beq te.len 1
  |none=>false
 |none=>false
theorem aM5 {b:Bool} {X Y Z:Prop} (h:bif b then X else Y) (hx:b=true→X→Z) (hy:b=false→Y→Z):Z:=by
 cases b
 ·exact hy rfl h
 ·exact hx rfl h
def cC9 (tab:H8) (t:TypeId):Bool:=match lk tab t with
 |some ti=>Nat.beq ti.kind 2
 |none=>false
def cK6 (tab:H8) (t:TypeId) (x:AV):Bool :=
 match lk tab t with
 |some ti=>match x with
  |.str _=>Nat.beq ti.kind 4
  |.mp _=>Nat.beq ti.kind 8
  |_=>Nat.beq ti.kind 2
 |none=>false
def bT2 (P:Program) (tab:H8) (d:Nat) (c:Go.Call) (ev:Ev) (os:Os) (K:Kt):Prop :=
 match c.callee with
 |.builtin b=>match b,c.args.toList,c.argTypes.toList with
  |.len,[x],[t]=>bif bF6 os (ev x) then (match cC9 tab t with
    |true=>bS0 os (ev x) K
    |false=>False) else match cK6 tab t (ev x) with
   |true=>bZ0 os (ev x) K
   |false=>False
  |.append,[x,y],[t,t']=>bif bF6 os (ev x) then aZ2 tab os d t t' (ev x) (ev y) K else bif cL0 (ev y) then aZ6 tab os d t t' (ev x) (ev y) K else bB4 tab os d t t' (ev x) (ev y) K
  |.min,[x,y],_=>bY2 (ev x) (ev y) K
  |.max,[x,y],_=>b08 (ev x) (ev y) K
  |_,_,_=>False
 |.value f=>match ev f with
  |.fn g caps=>l7 P g (c.args.toList.map ev++caps) os K
  |_=>False
 |.invoke _ _=>False
theorem b96 (hT:F5 P tab) (d:Nat) {c:Go.Call} (ho:o.op=.call c) (h:bT2 P tab d c ev os K):J5 P o ev os K:=by
 unfold bT2 at h
 obtain ⟨callee,args,argTypes⟩:=c
 split at h
 ·rename_i b hb
  simp only at hb
  subst hb
  split at h
  ·rename_i x t ha ht
   have ha':args=#[x]:=by simpa using congrArg List.toArray ha
   have ht':argTypes=#[t]:=by simpa using congrArg List.toArray ht
   subst ha' ht'
   refine aM5 h (fun _ h=>?_) fun _ h=>?_
   ·split at h
    ·rename_i hk
     unfold cC9 at hk
     split at hk
     ·rename_i ti hti
      exact cE3 hT hti (Nat.eq_of_beq_eq_true hk) ho h
     ·cases hk
    ·exact h.elim
   split at h
   ·rename_i hl
    refine cJ9 hT ho ?_ h
    unfold cK6 at hl
    split at hl
    ·rename_i ti hti
     rw [hti]
     split at hl
     ·rename_i s hx
      rw [hx]
      exact Nat.eq_of_beq_eq_true hl
     ·rename_i s hx
      rw [hx]
      exact Nat.eq_of_beq_eq_true hl
     ·rename_i hne hne2
      have:=Nat.eq_of_beq_eq_true hl
      cases hx:ev x<;>first|exact this|exact absurd hx (hne _)|exact absurd hx (hne2 _)
    ·cases hl
   ·exact h.elim
  ·rename_i x y t t' ha ht
   have ha':args=#[x,y]:=by simpa using congrArg List.toArray ha
   have ht':argTypes=#[t,t']:=by simpa using congrArg List.toArray ht
   subst ha' ht'
   exact aM5 h (fun _ h=>bX1 hT d ho h) fun _ h=>aM5 h (fun _ h=>bX6 hT d ho h) fun _ h=>b66 hT d ho h
  ·rename_i x y ha
   have ha':args=#[x,y]:=by simpa using congrArg List.toArray ha
   subst ha'
   exact cJ7 ho h
  ·rename_i x y ha
   have ha':args=#[x,y]:=by simpa using congrArg List.toArray ha
   subst ha'
   exact cI9 ho h
  ·exact h.elim
 ·rename_i f hf
  split at h
  ·rename_i g caps hg
   exact cG7 ho hf hg h
  ·exact h.elim
 ·exact h.elim
def aN6 (P:Program) (tab:H8) (et:aA2) (d:Nat) (op:Op) (ev:Ev) (os:Os) (K:Kt):Prop :=
 match op with
 |.move x=>K (ev x) [] [] []
 |.assign x=>K (ev x) [] [] []
 |.pick c a b=>bP1 ev c a b K
 |.alloc t=>bH0 tab d t K
 |.box t x=>b03 d t (ev x) K
 |.build t ps=>bH5 tab ev t ps K
 |.buildSlice t n ps=>bif cM5 tab t then (bA2 tab os ev d t n ps K∨aG6 tab os ev d t n ps K) else aG6 tab os ev d t n ps K
 |.load t x=>bif bF6 os (ev x) then bG7 tab os t (ev x) K else bR8 tab os t (ev x) (cC4 os K)
 |.store t x y=>bif bF6 os (ev x) then bB5 tab os t (ev x) (ev y) K else bC5 tab os t (ev x) (ev y) K
 |.nilCheck x=>b21 (ev x) K
 |.binOp op t x y _=>bif b80 y then bX7 tab op t (ev x) (ev y) K else bZ1 tab et op t (ev x) (ev y) (fun av=>K av [] [] [])
 |.unOp op _ x=>b94 op (ev x) K
 |.convert s t x=>bS7 tab s t (ev x) K
 |.makeFunc fn f c=>bS2 ev fn f c K
 |.makeSlice t x y=>bT3 tab d t (ev x) (ev y) K
 |.slice t x lo hi none=>bif bF6 os (ev x) then a98 tab os d t (ev x) (K6 ev lo) (K6 ev hi) K else bG6 tab os d t (ev x) (K6 ev lo) (K6 ev hi) K
 |.fieldAddr s x f=>aR9 tab s (ev x) f K
 |.field s x f=>bH4 tab s (ev x) f K
 |.indexAddr t x i=>bif bF6 os (ev x) then aO5 tab os t (ev x) (ev i) K else aR4 tab os t (ev x) (ev i) K
 |.index t x i=>bI2 tab t (ev x) (ev i) K
 |.extract x i=>a04 (ev x) i K
 |.makeMap _ none=>bK7 d K
 |.lookup t x k false=>a97 tab os t (ev x) (ev k) K
 |.mapUpdate t x k v=>aR1 tab os t (ev x) (ev k) (ev v) K
 |.call c=>bT2 P tab d c ev os K
 |_=>False
theorem step_ok (hT:F5 P tab) (hE:aB5 P et) (d:Nat) (h:aN6 P tab et d o.op ev os K):J5 P o ev os K:=by
 cases ho:o.op<;>rw [ho] at h<;>simp only [aN6] at h
 case move x=>exact bU5 (.inl ho) h
 case assign x=>exact bU5 (.inr ho) h
 case pick c a b=>exact cF0 ho h
 case alloc t=>exact cC7 hT d ho h
 case box t x=>exact cI5 d ho h
 case build t ps=>exact cC5 hT ho h
 case buildSlice t n ps=>exact aM5 h (fun _ h=>h.elim (fun h=>b50 hT d ho h) fun h=>aW7 hT d ho h) fun _ h=>aW7 hT d ho h
 case load t x=>exact aM5 h (fun _ h=>cA5 hT ho h) fun _ h=>(cG5 hT ho h).res
 case store t x y=>exact aM5 h (fun _ h=>b53 hT ho h) fun _ h=>b45 hT ho h
 case nilCheck x=>exact cI4 ho h
 case binOp op t x y ty=>exact aM5 h (fun hy h=>cK2 hT ho hy h) fun _ h=>cK7 hT hE ho h
 case unOp op t x=>exact cM6 ho h
 case convert s t x=>exact cG1 hT ho h
 case makeFunc fn f c=>exact cF8 ho h
 case makeSlice t x y=>exact cE1 hT d ho h
 case slice t x lo hi mx=>cases mx with
  |none=>exact aM5 h (fun _ h=>b31 hT d ho h) fun _ h=>b99 hT d ho h
  |some m=>exact h.elim
 case fieldAddr s x f=>exact bQ5 hT ho h
 case field s x f=>exact b91 hT ho h
 case indexAddr t x i=>exact aM5 h (fun _ h=>bL2 hT ho h) fun _ h=>bP8 hT ho h
 case index t x i=>exact cC2 hT ho h
 case extract x i=>exact bX3 ho h
 case makeMap t r=>cases r with
  |none=>exact bX2 d ho h
  |some r=>exact h.elim
 case lookup t x k b=>cases b with
  |false=>exact b68 hT ho h
  |true=>exact h.elim
 case mapUpdate t x k v=>exact bS8 hT ho h
 case call c=>exact b96 hT d ho h
end
end Go.Proofs.YtibjcppjfkamhaaDoor
