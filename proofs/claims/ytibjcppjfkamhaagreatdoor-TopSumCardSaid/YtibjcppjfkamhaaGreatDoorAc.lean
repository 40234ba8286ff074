/- THE WALK OVER READINGS: a region's operations in a row, and what must be shown of them. No program in sight; types are told by the table. -/
import Derived.Test.YtibjcppjfkamhaaGreatDoorAr
namespace Go.Proofs.YtibjcppjfkamhaaGreatDoor
open Go.RowKit
set_option linter.unusedVariables false
def top : Nat:=1000
def a96 : Os→Os→Prop
 |[],_=>True
 |(k,o)::r,os=>lk os k=some o∧a96 r os
theorem bA5 {os:Os}:∀{need:Os},a96 need os→∀id o,lk need id=some o→lk os id=some o
 |(k,x)::r,h,id,o,hl=>by
  rw [y7] at hl
  split at hl
  ·rename_i e
   subst e
   cases hl
   exact h.1
  ·exact bA5 h.2 id o hl
def aO5 : AV→Bool
 |.int _=>true
 |.ik _ _=>true
 |.bool _=>true
 |.str _=>true
 |.any=>true
 |.con _=>true
 |.ifc _=>true
 |_=>false
def bN4 : AV→Bool
 |.tup l=>l.all aO5
 |.agg l=>l.all aO5
 |a=>aO5 a
theorem bO2 {c c':Ctx} {w w':World} {v:Value} {a:AV} (h:aO5 a=true) (hr:Rd c w v a):Rd c' w' v a:=by
 cases a<;>first|cases h|skip
 ·exact Rd.any_ v
 ·obtain ⟨rfl,h⟩:=hr.int_; exact .fz (.int h)
 ·rw [hr.ik_]; exact .fz (.ik _ _)
 ·rw [hr.bool_]; exact .fz (.bool _)
 ·obtain ⟨rfl,h⟩:=hr.str_; exact .fz (.str h)
 ·rcases hr.ifc_ with ⟨rfl,rfl⟩|⟨t,p,rfl,rfl⟩
  ·exact .fz .ifcn
  ·exact .fz (.ifcs t p)
 ·rw [hr.con_]; exact .fz (.con _)
theorem bI2 {c c':Ctx} {w w':World}:∀{us:List Value} {as:List AV},as.all aO5=true→F6 c w us as→F6 c' w' us as
 |_,_,_,.nil=>.nil
 |_,_,h,.cons x t=>by
  simp only [List.all_cons,Bool.and_eq_true] at h
  exact .cons (bO2 h.1 x) (bI2 h.2 t)
theorem cP8 {c c':Ctx} {w w':World} {v:Value} {a:AV} (h:bN4 a=true) (hr:Rd c w v a):Rd c' w' v a:=by
 unfold bN4 at h
 split at h
 ·obtain ⟨us,rfl,hu⟩:=hr.tup_; exact .tup (bI2 h hu)
 ·obtain ⟨us,rfl,hu⟩:=hr.agg_; exact .agg (bI2 h hu)
 ·exact bO2 h hr
def bU4 : Obj→Prop
 |.gone=>True
 |.row _ ls _=>∀cs∈ls,cs.all aO5=true
 |.deep _ _ cols l _ _=>∀cs∈l,∀(off:Nat) (a:AV),cs[off]?=some a→match lk cols off with
  |none=>aO5 a=true
  |some _=>∃isz ls,a=.sl isz ls∧∀cs'∈ls,cs'.all aO5=true
 |_=>False
def bA4 : Os→Prop
 |[]=>True
 |p::r=>bU4 p.2∧bA4 r
theorem bA4.at : ∀{l:Os},bA4 l→∀{id:Nat} {o:Obj},lk l id=some o→bU4 o
 |(k,x)::r,h,id,o,hl=>by
  rw [y7] at hl
  split at hl
  ·cases hl; exact h.1
  ·exact bA4.at h.2 hl
def bU0 : AV→Bool
 |.tup l=>l.all fun a=>match a with|.own _=>true|.agg cs=>cs.all aO5|a=>aO5 a
 |.own _=>true
 |.agg cs=>cs.all aO5
 |a=>aO5 a
theorem cD2 {Φ Φ':Nat→Prop} {w w':World} {v:Value} {a:AV} (h:aO5 a=true) (hr:Rf Φ w v a):Rf Φ' w' v a:=by
 cases hr<;>first|cases h|skip
 ·exact .any _
 ·exact .int (by assumption)
 ·exact .ik _ _
 ·exact .bool _
 ·exact .str (by assumption)
 ·exact .ifcn
 ·exact .ifcs _ _
 ·exact .con _
theorem bT1 {Φ Φ':Nat→Prop} {w w':World}:∀{us:List Value} {as:List AV},as.all aO5=true→J4 Φ w us as→J4 Φ' w' us as
 |_,_,_,.nil=>.nil
 |_,_,h,.cons x t=>by
  simp only [List.all_cons,Bool.and_eq_true] at h
  exact .cons (cD2 h.1 x) (bT1 h.2 t)
theorem bU4.rep {c c':Ctx} {w:World} {id:Nat} {o:Obj} (hf:bU4 o) (h:aH8 c w id o) (h1:c'.hd=c.hd) (h2:c'.μ=c.μ):aH8 c' w id o:=by
 cases o with
 |gone=>trivial
 |row sz ls e =>
  obtain ⟨css,p1,p2,p3⟩:=h
  exact ⟨css,by rw [h1]; exact p1,p2,fun i us cs hu hc=>bT1 (hf cs (List.mem_of_getElem? hc)) (p3 i us cs hu hc)⟩
 |deep sz e cols l hs sh =>
  obtain ⟨css,p1,p2,p3,p4⟩:=h
  refine ⟨css,by rw [h1]; exact p1,⟨p2.len,fun i us cs hu hc=>⟨(p2.cell i us cs hu hc).1,fun off u a b1 b2 b3=>?_⟩,fun i us cs off isz ie u hu hc b1 b2 b3=>?_,fun i off x us u b1 b2 b3=>by rw [h1]; exact p2.hole i off x us u b1 b2 b3,p2.apart⟩,by rw [h1]; exact p3,by rw [h1]; exact p4⟩
  ·have:=hf cs (List.mem_of_getElem? hc) off a b2
   rw [b3] at this
   exact cD2 this ((p2.cell i us cs hu hc).2 off u a b1 b2 b3)
  ·obtain ⟨ls,q1,css',q2,q3,q4⟩:=p2.inner i us cs off isz ie u hu hc b1 b2 b3
   have:=hf cs (List.mem_of_getElem? hc) off _ q1
   rw [b1] at this
   obtain ⟨isz',ls',e1,e2⟩:=this
   cases e1
   exact ⟨ls,q1,css',q2,q3,fun k us' cs' h3 h4=>bT1 (e2 cs' (List.mem_of_getElem? h4)) (q4 k us' cs' h3 h4)⟩
 |_=>exact hf.elim
theorem cS5 {c c':Ctx} {w:World} {v:Value} {a:AV} (hf:bU0 a=true) (h:Rd c w v a) (h1:c'.hd=c.hd):Rd c' w v a:=by
 have own:∀{v:Value} {id:Nat},Rd c w v (.own id)→Rd c' w v (.own id):=fun {v id} h=>by
  obtain ⟨A,n,cap,e1,e2,e3,e4⟩:=h.own_
  rw [e1]
  exact .own (by rw [h1]; exact e2) e3 e4
 have agg:∀{v:Value} {cs:List AV},cs.all aO5=true→Rd c w v (.agg cs)→Rd c' w v (.agg cs):=fun {v cs} hf h=>by
  obtain ⟨us,rfl,hu⟩:=h.agg_
  exact .agg (bI2 hf hu)
 unfold bU0 at hf
 split at hf
 ·rename_i l
  obtain ⟨us,rfl,hu⟩:=h.tup_
  refine .tup ?_
  clear h
  induction l generalizing us with
  |nil=>cases hu; exact .nil
  |cons a l ih =>
   cases hu with|cons h t =>
   simp only [List.all_cons,Bool.and_eq_true] at hf
   refine .cons ?_ (ih hf.2 _ t)
   cases a<;>first|exact own h|exact agg hf.1 h|exact bO2 hf.1 h
 ·exact own h
 ·exact agg hf h
 ·exact bO2 hf h
structure l5 (P:Program) (f:Nat) (ins:List AV) (os:Os) (K:Kt):Prop where
 out:(∃(ins0 ins':List AV) (g need upd:Os) (news:List Nat) (av:AV),Spec P f need ins' av upd news∧aS5 os ins ins0 g∧aJ4 ins0 ins'∧a96 need os∧(need.all fun p=>(lk g p.1).isNone)=true∧(need.all fun p=>aW0 news p.2.ids)=true ∧
  K av ((g++need).map (·.1)) news (upd++K5 g)) ∨
 (∃(ins0 ins':List AV) (g:Os) (av:AV),Spec P f [] ins' av [] []∧aL8 os ins ins0 g∧aJ4 ins0 ins'∧bN4 av=true∧K av (g.map (·.1)) [] []) ∨
 (∃(ins0 ins':List AV) (g upd:Os) (news:List Nat) (av:AV),Spec P f [] ins' av upd news∧aL8 os ins ins0 g∧aJ4 ins0 ins'∧bU0 av=true∧bA4 upd∧K av (g.map (·.1)) news upd)
section
variable {P:Program} {tab:Q6} {et:aG9} {o:Oper} {ev:Ev} {os:Os} {K:Kt}
theorem l5.fz {f:Nat} {ins ins':List AV} {need upd:Os} {news:List Nat} {av:AV} (h:Spec P f need ins' av upd news) (hle:aJ4 (Y3 os ins).1 ins') (hs:a96 need os) (hd:(need.all fun p=>(lk (Y3 os ins).2 p.1).isNone)=true)
  (hf:(need.all fun p=>aW0 news p.2.ids)=true) (hK:K av (((Y3 os ins).2++need).map (·.1)) news (upd++K5 (Y3 os ins).2)):l5 P f ins os K :=
 ⟨.inl ⟨_,ins',_,need,upd,news,av,h,b81 ins,hle,hs,hd,hf,hK⟩⟩
theorem l5.as {f:Nat} {ins ins':List AV} {need upd:Os} {news:List Nat} {av:AV} (h:Spec P f need ins' av upd news) (hle:aJ4 ins ins') (hs:a96 need os)
  (hf:(need.all fun p=>aW0 news p.2.ids)=true) (hK:K av (need.map (·.1)) news upd):l5 P f ins os K :=
 ⟨.inl ⟨ins,ins',[],need,upd,news,av,h,⟨fun _ _ h=>(by cases h),fun _ _ h=>(by cases h),fun c w us _ h=>F6.mono (c:=c) (c':=c.fz []) (fun _ _=>rfl) (fun _ h=>Or.inl h) (fun _ _=>⟨rfl,rfl⟩) h⟩,hle,hs,List.all_eq_true.2 fun _ _=>rfl,hf,by simpa [K5] using hK⟩⟩
theorem l5.lend {f:Nat} {ins ins':List AV} {av:AV} (h:Spec P f [] ins' av [] []) (hle:aJ4 (Y3 os ins).1 ins') (hf:bN4 av=true) (hK:K av ((Y3 os ins).2.map (·.1)) [] []):l5 P f ins os K :=
 ⟨.inr (.inl ⟨_,ins',_,av,h,(b81 ins).lend,hle,hf,hK⟩)⟩
theorem l5.lendD {f:Nat} {ins ins':List AV} {av:AV} (h:Spec P f [] ins' av [] []) (hle:aJ4 (fzD os ins).1 ins') (hf:bN4 av=true) (hK:K av ((fzD os ins).2.map (·.1)) [] []):l5 P f ins os K :=
 ⟨.inr (.inl ⟨_,ins',_,av,h,cN5 ins,hle,hf,hK⟩)⟩
theorem l5.lendF {f:Nat} {ins ins':List AV} {upd:Os} {news:List Nat} {av:AV} (h:Spec P f [] ins' av upd news) (hle:aJ4 (fzD os ins).1 ins') (hf:bU0 av=true) (hu:bA4 upd) (hK:K av ((fzD os ins).2.map (·.1)) news upd):l5 P f ins os K :=
 ⟨.inr (.inr ⟨_,ins',_,upd,news,av,h,cN5 ins,hle,hf,hu,hK⟩)⟩
theorem bT7 {c:Go.Call} {f:Operand} {g:Nat} {cus:List Value} {ρ:Operand→Value} {w:World} (ho:o.op=.call c) (hc:c.callee=.value f) (hcall:callable P g=true) (e1:ρ f=.func (.func g) #[] cus.toArray) :
  (execOp ρ o).run P w=.ok (.enter g (c.args.toList.map ρ++cus).toArray) w:=by
 unfold callable at hcall
 split at hcall
 ·rename_i fn hfn
  simp only [Bool.and_eq_true,Bool.not_eq_true',beq_eq_false_iff_ne,ne_eq] at hcall
  have hbody:fn.body.isNone=false:=by cases hb:fn.body<;>simp_all
  have hm:c.args.map ρ++cus.toArray=(c.args.toList.map ρ++cus).toArray:=by
   apply Array.toList_inj.1
   simp
  simp [execOp,ho,resolve,hc,e1,Deferred.ofValue,invoke,callFunc,hfn,hcall.2,hm]
  intro hbn
  rw [hbn] at hbody
  cases hbody
 ·cases hcall
theorem cX5 {c:Go.Call} {f:Operand} {g:Nat} {caps:List AV} (ho:o.op=.call c) (hc:c.callee=.value f) (hf:ev f=.fn g caps) {ins0 ins':List AV} {gz:Os} {av:AV} (hspec:Spec P g [] ins' av [] [])
  (hz:aL8 os (c.args.toList.map ev++caps) ins0 gz) (hle:aJ4 ins0 ins') (hfl:bN4 av=true) (hK:K av (gz.map (·.1)) [] []):U8 P o ev os K:=by
 intro _
 obtain ⟨hcall,hnews,hspec⟩:=hspec
 refine ⟨av,gz,[],[],fun cx w ρ hok hr=>?_,hz.sub,fun id hid=>(by cases hid),hK⟩
 have rf:Rd cx w (ρ f) (.fn g caps):=by
  have:=hr f (by simp [ho,Op.operands,Go.Call.operands,hc])
  rwa [hf] at this
 obtain ⟨cus,e1,hcus⟩:=rf.fn_
 have hargs:F6 cx w (c.args.toList.map ρ++cus) (c.args.toList.map ev++caps):=(bK2 fun x hx=>hr x (by simp [ho,Op.operands,Go.Call.operands,hc]; exact .inr (by simpa using hx))).append hcus
 have hargs':=bE0 hle (hz.run cx w _ hok hargs)
 have p1:=Post.freeze hok
 have no:∀(id:Nat) (o:Obj),lk ([]:Os) id=some o→False:=fun id o h=>(by cases h)
 have ok1:P9 (cx.fz gz) w []:=⟨fun id o h=>(no id o h).elim,fun id o b h=>(no id o h).elim,fun id id' o o' b _ h=>(no id o h).elim,p1.hok.phi⟩
 have hcalls:=hspec (cx.fz gz) w (c.args.toList.map ρ++cus).toArray ok1 (by simpa using hargs')
 rw [bT7 ho hc hcall e1]
 refine hcalls.mono fun e w' ⟨v,c',he,hp,hrd⟩=>⟨v,he,cx,⟨hp.wos,hp.tape,hp.output,hp.size,fun _ h=>h,fun _ h=>.inl h,fun b hb _=>hp.keep b hb fun ⟨id,o,h,_⟩=>no id o h,fun _ _=>⟨rfl,rfl⟩,
  ⟨fun id o h=>(no id o h).elim,fun id o b h=>(no id o h).elim,fun id id' o o' b _ h=>(no id o h).elim,fun b hb=>Nat.lt_of_lt_of_le (hok.phi b hb) hp.size⟩,fun id o b h=>(no id o h).elim⟩,cP8 hfl hrd⟩
theorem cQ3 {c:Go.Call} {f:Operand} {g:Nat} {caps:List AV} (ho:o.op=.call c) (hc:c.callee=.value f) (hf:ev f=.fn g caps) {ins0 ins':List AV} {gz upd:Os} {news:List Nat} {av:AV} (hspec:Spec P g [] ins' av upd news)
  (hz:aL8 os (c.args.toList.map ev++caps) ins0 gz) (hle:aJ4 ins0 ins') (hfl:bU0 av=true) (hfu:bA4 upd) (hK:K av (gz.map (·.1)) news upd):U8 P o ev os K:=by
 intro _
 obtain ⟨hcall,hnews,hspec⟩:=hspec
 refine ⟨av,gz,upd,news,fun cx w ρ hok hr=>?_,hz.sub,hnews,hK⟩
 have rf:Rd cx w (ρ f) (.fn g caps):=by
  have:=hr f (by simp [ho,Op.operands,Go.Call.operands,hc])
  rwa [hf] at this
 obtain ⟨cus,e1,hcus⟩:=rf.fn_
 have hargs:F6 cx w (c.args.toList.map ρ++cus) (c.args.toList.map ev++caps):=(bK2 fun x hx=>hr x (by simp [ho,Op.operands,Go.Call.operands,hc]; exact .inr (by simpa using hx))).append hcus
 have hargs':=bE0 hle (hz.run cx w _ hok hargs)
 have p1:=Post.freeze hok
 have no:∀(id:Nat) (o:Obj),lk ([]:Os) id=some o→False:=fun id o h=>(by cases h)
 have ok1:P9 (cx.fz gz) w []:=⟨fun id o h=>(no id o h).elim,fun id o b h=>(no id o h).elim,fun id id' o o' b _ h=>(no id o h).elim,p1.hok.phi⟩
 have hcalls:=hspec (cx.fz gz) w (c.args.toList.map ρ++cus).toArray ok1 (by simpa using hargs')
 rw [bT7 ho hc hcall e1]
 refine hcalls.mono fun e w' ⟨v,c',he,hp,hrd⟩=>⟨v,he,{ c' with Φ:=cx.Φ },⟨hp.wos,hp.tape,hp.output,hp.size,fun _ h=>h,fun _ h=>.inl h,fun b hb _=>hp.keep b hb fun ⟨id,o,h,_⟩=>no id o h,fun i hi=>hp.ctx i hi,
  ⟨fun id o h=>(hfu.at h).rep (hp.hok.rep id o h) rfl rfl,fun id o b h hf=>?_,fun id id' o o' b hne h h' hf=>?_,fun b hb=>Nat.lt_of_lt_of_le (hok.phi b hb) hp.size⟩,fun id o b h hf=>?_⟩,cS5 hfl hrd rfl⟩
 ·have hf':foot c' id o b:=by cases o<;>exact hf
  have:=hp.hok.lt id o b h hf'
  exact ⟨this.1,fun hb=>this.2 (hp.phi b (.inl hb))⟩
 ·have hf1:foot c' id o b:=by cases o<;>exact hf
  intro hf2
  have hf2':foot c' id' o' b:=by cases o'<;>exact hf2
  exact hp.hok.sep id id' o o' b hne h h' hf1 hf2'
 ·have hf':foot c' id o b:=by cases o<;>exact hf
  rcases hp.feet id o b h hf' with h1|⟨i,x,h1,_⟩
  ·exact .inl h1
  ·exact (no i x h1).elim
theorem cV2 {c:Go.Call} {f:Operand} {g:Nat} {caps:List AV} (ho:o.op=.call c) (hc:c.callee=.value f) (hf:ev f=.fn g caps) (h:l5 P g (c.args.toList.map ev++caps) os K):U8 P o ev os K:=by
 rcases h.out with ⟨ins0,ins',gz,need,upd,news,av,hspec,hz,hle,hs,hd,hfr,hK⟩|⟨ins0,ins',gz,av,hspec,hz,hle,hfl,hK⟩|⟨ins0,ins',gz,upd,news,av,hspec,hz,hle,hfl,hfu,hK⟩
 case inr.inl=>exact cX5 ho hc hf hspec hz hle hfl hK
 case inr.inr=>exact cQ3 ho hc hf hspec hz hle hfl hfu hK
 intro _
 obtain ⟨hcall,hnews,hspec⟩:=hspec
 have hsub:=bA5 hs
 obtain ⟨s1,s2,s3⟩:=aW1 hz.sub hsub
 have hnone:∀id x,lk need id=some x→lk gz id=none:=fun id x h=>by
  have:=List.all_eq_true.1 hd _ (aA5 h)
  simpa using this
 refine ⟨av,gz++need,upd++K5 gz,news,fun cx w ρ hok hr=>?_,s1,fun id hid=>?_,hK⟩
 ·have rf:Rd cx w (ρ f) (.fn g caps):=by
   have:=hr f (by simp [ho,Op.operands,Go.Call.operands,hc])
   rwa [hf] at this
  obtain ⟨cus,e1,hcus⟩:=rf.fn_
  have hargs:F6 cx w (c.args.toList.map ρ++cus) (c.args.toList.map ev++caps):=(bK2 fun x hx=>hr x (by simp [ho,Op.operands,Go.Call.operands,hc]; exact .inr (by simpa using hx))).append hcus
  have hargs':=bE0 hle (hz.run cx w _ (hok.sub s3) hargs)
  have p1:=(Post.freeze (hok.sub s3)).widen s3
  have ok1:P9 (cx.fz gz) w need:=by
   have hfrm:=hok.frame (fun _ _ h=>h) p1 (fun _ h=>(by cases h)) (fun _ _ _ _ _ h=>(by cases h))
   refine hfrm.sub fun id x hl=>?_
   have hg:lk (K5 gz) id=none:=by
    have:=aX4 gz id
    rw [hnone id x hl] at this
    cases hq:lk (K5 gz) id with
    |none=>rfl
    |some y=>rw [hq] at this; cases this
   rw [L9,hg]
   simpa using s2 id x hl
  have hcalls:=hspec (cx.fz gz) w (c.args.toList.map ρ++cus).toArray ok1 (by simpa using hargs')
  rw [bT7 ho hc hcall e1]
  refine hcalls.mono fun e w' ⟨v,c',he,hp,hrd⟩=>⟨v,he,c',?_,hrd⟩
  have:=Post.trans hok p1 hp (fun _ h=>(by cases h)) hnews (fun id x hl=>by
   have hg:lk (K5 gz) id=none:=by
    have:=aX4 gz id
    rw [hnone id x hl] at this
    cases hq:lk (K5 gz) id with
    |none=>rfl
    |some y=>rw [hq] at this; cases this
   rw [L9,hg]
   simpa using s2 id x hl) (fun _ _ _ _ _ h=>(by cases h)) (fun id x hl hu y hy=>by
   rw [L9] at hl
   cases hg:lk (K5 gz) id with
   |some z =>
    rw [hg] at hl
    simp at hl
    subst hl
    rw [aZ3 hg]
    simp [Obj.ids]
   |none =>
    rw [hg] at hl
    simp at hl
    rw [L9] at hl
    cases hgz:lk gz id with
    |some z =>
     rw [hgz] at hl
     simp at hl
     subst hl
     rw [hz.ids id z hgz]
     simp
    |none =>
     rw [hgz] at hl
     simp at hl
     exact aL9 (List.all_eq_true.1 hfr _ (aA5 hl)) y hy)
  simpa using this
 ·rw [L9]
  have:=hnews id hid
  cases hu:lk upd id with
  |none=>rw [hu] at this; cases this
  |some x=>rfl
def b38 (os:Os):AV→Bool
 |.own id=>match lk os id with
  |some (.deep _ _ _ _ _ _)=>true
  |_=>false
 |.ep id _ _ _=>match lk os id with
  |some (.deep _ _ _ _ _ _)=>true
  |_=>false
 |_=>false
def c99 (tab:Q6) (t:TypeId):Bool:=match lk tab t with
 |some ti=>match lk tab ti.elem with
  |some te=>Nat.beq te.kind 1 && Nat.beq te.len 1
  |none=>false
 |none=>false
theorem bC4 {b:Bool} {X Y Z:Prop} (h:bif b then X else Y) (hx:b=true→X→Z) (hy:b=false→Y→Z):Z:=by
 cases b
 ·exact hy rfl h
 ·exact hx rfl h
def cU7 (tab:Q6) (t:TypeId):Bool:=match lk tab t with
 |some ti=>Nat.beq ti.kind 2
 |none=>false
def cZ3 (tab:Q6) (t:TypeId) (x:AV):Bool :=
 match lk tab t with
 |some ti=>match x with
  |.str _=>Nat.beq ti.kind 4
  |.mp _=>Nat.beq ti.kind 8
  |_=>Nat.beq ti.kind 2
 |none=>false
def cG3 (P:Program) (tab:Q6) (d:Nat) (c:Go.Call) (ev:Ev) (os:Os) (K:Kt):Prop :=
 match c.callee with
 |.builtin b=>match b,c.args.toList,c.argTypes.toList with
  |.len,[x],[t]=>bif b38 os (ev x) then (match cU7 tab t with
    |true=>cF9 os (ev x) K
    |false=>False) else match cZ3 tab t (ev x) with
   |true=>cL9 os (ev x) K
   |false=>False
  |.append,[x,y],[t,t']=>bif b38 os (ev x) then bR8 tab os d t t' (ev x) (ev y) K else bif c05 (ev y) then bS3 tab os d t t' (ev x) (ev y) K else bX4 tab os d t t' (ev x) (ev y) K
  |.min,[x,y],_=>cL0 (ev x) (ev y) K
  |.max,[x,y],_=>cL4 (ev x) (ev y) K
  |_,_,_=>False
 |.value f=>match ev f with
  |.fn g caps=>l5 P g (c.args.toList.map ev++caps) os K
  |_=>False
 |.invoke _ _=>False
theorem cR9 (hT:O3 P tab) (d:Nat) {c:Go.Call} (ho:o.op=.call c) (h:cG3 P tab d c ev os K):U8 P o ev os K:=by
 unfold cG3 at h
 obtain ⟨callee,args,argTypes⟩:=c
 split at h
 ·rename_i b hb
  simp only at hb
  subst hb
  split at h
  ·rename_i x t ha ht
   have ha':args=#[x]:=by simpa using congrArg List.toArray ha
   have ht':argTypes=#[t]:=by simpa using congrArg List.toArray ht
   subst ha' ht'
   refine bC4 h (fun _ h=>?_) fun _ h=>?_
   ·split at h
    ·rename_i hk
     unfold cU7 at hk
     split at hk
     ·rename_i ti hti
      exact cW0 hT hti (Nat.eq_of_beq_eq_true hk) ho h
     ·cases hk
    ·exact h.elim
   split at h
   ·rename_i hl
    refine c84 hT ho ?_ h
    unfold cZ3 at hl
    split at hl
    ·rename_i ti hti
     rw [hti]
     split at hl
     ·rename_i s hx
      rw [hx]
      exact Nat.eq_of_beq_eq_true hl
     ·rename_i s hx
      rw [hx]
      exact Nat.eq_of_beq_eq_true hl
     ·rename_i hne hne2
      have:=Nat.eq_of_beq_eq_true hl
      cases hx:ev x<;>first|exact this|exact absurd hx (hne _)|exact absurd hx (hne2 _)
    ·cases hl
   ·exact h.elim
  ·rename_i x y t t' ha ht
   have ha':args=#[x,y]:=by simpa using congrArg List.toArray ha
   have ht':argTypes=#[t,t']:=by simpa using congrArg List.toArray ht
   subst ha' ht'
   exact bC4 h (fun _ h=>cK2 hT d ho h) fun _ h=>bC4 h (fun _ h=>cI6 hT d ho h) fun _ h=>cN4 hT d ho h
  ·rename_i x y ha
   have ha':args=#[x,y]:=by simpa using congrArg List.toArray ha
   subst ha'
   exact c60 ho h
  ·rename_i x y ha
   have ha':args=#[x,y]:=by simpa using congrArg List.toArray ha
   subst ha'
   exact c77 ho h
  ·exact h.elim
 ·rename_i f hf
  split at h
  ·rename_i g caps hg
   exact cV2 ho hf hg h
  ·exact h.elim
 ·exact h.elim
def aU0 (P:Program) (tab:Q6) (et:aG9) (d:Nat) (op:Op) (ev:Ev) (os:Os) (K:Kt):Prop :=
 match op with
 |.move x=>K (ev x) [] [] []
 |.assign x=>K (ev x) [] [] []
 |.pick c a b=>cD0 ev c a b K
 |.alloc t=>b42 tab d t K
 |.box t x=>cJ5 d t (ev x) K
 |.build t ps=>b71 tab ev t ps K
 |.buildSlice t n ps=>bif c99 tab t then (bY3 tab os ev d t n ps K∨aZ4 tab os ev d t n ps K) else aZ4 tab os ev d t n ps K
 |.load t x=>bif b38 os (ev x) then b60 tab os t (ev x) K else cE6 tab os t (ev x) (cQ8 os K)
 |.store t x y=>bif b38 os (ev x) then bW0 tab os t (ev x) (ev y) K else bX3 tab os t (ev x) (ev y) K
 |.nilCheck x=>cM2 (ev x) K
 |.binOp op t x y _=>bif cT5 y then cK8 tab op t (ev x) (ev y) K else cJ0 tab et op t (ev x) (ev y) (fun av=>K av [] [] [])
 |.unOp op _ x=>cT3 op (ev x) K
 |.convert s t x=>cF8 tab s t (ev x) K
 |.makeFunc fn f c=>cE2 ev fn f c K
 |.makeSlice t x y=>cF2 tab d t (ev x) (ev y) K
 |.slice t x lo hi none=>bif b38 os (ev x) then bV8 tab os d t (ev x) (Z5 ev lo) (Z5 ev hi) K else b45 tab os d t (ev x) (Z5 ev lo) (Z5 ev hi) K
 |.fieldAddr s x f=>bJ4 tab s (ev x) f K
 |.field s x f=>b52 tab s (ev x) f K
 |.indexAddr t x i=>bif b38 os (ev x) then bD3 tab os t (ev x) (ev i) K else bJ5 tab os t (ev x) (ev i) K
 |.index t x i=>b43 tab t (ev x) (ev i) K
 |.extract x i=>bT5 (ev x) i K
 |.makeMap _ none=>b85 d K
 |.lookup t x k false=>bW1 tab os t (ev x) (ev k) K
 |.mapUpdate t x k v=>bI8 tab os t (ev x) (ev k) (ev v) K
 |.call c=>cG3 P tab d c ev os K
 |_=>False
theorem step_ok (hT:O3 P tab) (hE:aF3 P et) (d:Nat) (h:aU0 P tab et d o.op ev os K):U8 P o ev os K:=by
 cases ho:o.op<;>rw [ho] at h<;>simp only [aU0] at h
 case move x=>exact cH6 (.inl ho) h
 case assign x=>exact cH6 (.inr ho) h
 case pick c a b=>exact cV6 ho h
 case alloc t=>exact cS9 hT d ho h
 case box t x=>exact c57 d ho h
 case build t ps=>exact cQ7 hT ho h
 case buildSlice t n ps=>exact bC4 h (fun _ h=>h.elim (fun h=>cM7 hT d ho h) fun h=>bP5 hT d ho h) fun _ h=>bP5 hT d ho h
 case load t x=>exact bC4 h (fun _ h=>cR1 hT ho h) fun _ h=>(cX6 hT ho h).res
 case store t x y=>exact bC4 h (fun _ h=>cN2 hT ho h) fun _ h=>cN0 hT ho h
 case nilCheck x=>exact c44 ho h
 case binOp op t x y ty=>exact bC4 h (fun hy h=>c04 hT ho hy h) fun _ h=>c55 hT hE ho h
 case unOp op t x=>exact c95 ho h
 case convert s t x=>exact cY4 hT ho h
 case makeFunc fn f c=>exact cW9 ho h
 case makeSlice t x y=>exact cX1 hT d ho h
 case slice t x lo hi mx=>cases mx with
  |none=>exact bC4 h (fun _ h=>cO0 hT d ho h) fun _ h=>cT4 hT d ho h
  |some m=>exact h.elim
 case fieldAddr s x f=>exact cC4 hT ho h
 case field s x f=>exact cR5 hT ho h
 case indexAddr t x i=>exact bC4 h (fun _ h=>b95 hT ho h) fun _ h=>cC2 hT ho h
 case index t x i=>exact cR2 hT ho h
 case extract x i=>exact cL3 ho h
 case makeMap t r=>cases r with
  |none=>exact cJ8 d ho h
  |some r=>exact h.elim
 case lookup t x k b=>cases b with
  |false=>exact cO3 hT ho h
  |true=>exact h.elim
 case mapUpdate t x k v=>exact cC9 hT ho h
 case call c=>exact cR9 hT d ho h
end
end Go.Proofs.YtibjcppjfkamhaaGreatDoor
