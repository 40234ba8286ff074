/- THE WALK OVER READINGS: a region's operations in a row, and what must be shown of them. No program in sight; types are told by the table. -/
import Derived.Test.YtahmeibkdhbngaaAr
namespace Go.Proofs.Ytahmeibkdhbngaa
open Go.RowKit
set_option linter.unusedVariables false
def top : Nat:=1000
def bA0 : Os→Os→Prop
 |[],_=>True
 |(k,o)::r,os=>lk os k=some o∧bA0 r os
theorem bB9 {os:Os}:∀{need:Os},bA0 need os→∀id o,lk need id=some o→lk os id=some o
 |(k,x)::r,h,id,o,hl=>by
  rw [u7] at hl
  split at hl
  ·rename_i e
   subst e
   cases hl
   exact h.1
  ·exact bB9 h.2 id o hl
def aP4 : AV→Bool
 |.int _=>true
 |.ik _ _=>true
 |.bool _=>true
 |.str _=>true
 |.any=>true
 |.con _=>true
 |_=>false
def bQ9 : AV→Bool
 |.tup l=>l.all aP4
 |.agg l=>l.all aP4
 |a=>aP4 a
theorem bP8 {c c':Ctx} {w w':World} {v:Value} {a:AV} (h:aP4 a=true) (hr:Rd c w v a):Rd c' w' v a:=by
 cases a<;>first|cases h|skip
 ·exact Rd.any_ v
 ·obtain ⟨rfl,h⟩:=hr.int_; exact .fz (.int h)
 ·rw [hr.ik_]; exact .fz (.ik _ _)
 ·rw [hr.bool_]; exact .fz (.bool _)
 ·obtain ⟨rfl,h⟩:=hr.str_; exact .fz (.str h)
 ·rw [hr.con_]; exact .fz (.con _)
theorem bK5 {c c':Ctx} {w w':World}:∀{us:List Value} {as:List AV},as.all aP4=true→F5 c w us as→F5 c' w' us as
 |_,_,_,.nil=>.nil
 |_,_,h,.cons x t=>by
  simp only [List.all_cons,Bool.and_eq_true] at h
  exact .cons (bP8 h.1 x) (bK5 h.2 t)
theorem dB2 {c c':Ctx} {w w':World} {v:Value} {a:AV} (h:bQ9 a=true) (hr:Rd c w v a):Rd c' w' v a:=by
 unfold bQ9 at h
 split at h
 ·obtain ⟨us,rfl,hu⟩:=hr.tup_; exact .tup (bK5 h hu)
 ·obtain ⟨us,rfl,hu⟩:=hr.agg_; exact .agg (bK5 h hu)
 ·exact bP8 h hr
def b06 : Obj→Prop
 |.gone=>True
 |.row _ ls _=>∀cs∈ls,cs.all aP4=true
 |.deep _ _ cols l _ _=>∀cs∈l,∀(off:Nat) (a:AV),cs[off]?=some a→match lk cols off with
  |none=>aP4 a=true
  |some _=>∃isz ls,a=.sl isz ls∧∀cs'∈ls,cs'.all aP4=true
 |_=>False
def bC0 : Os→Prop
 |[]=>True
 |p::r=>b06 p.2∧bC0 r
theorem bC0.at : ∀{l:Os},bC0 l→∀{id:Nat} {o:Obj},lk l id=some o→b06 o
 |(k,x)::r,h,id,o,hl=>by
  rw [u7] at hl
  split at hl
  ·cases hl; exact h.1
  ·exact bC0.at h.2 hl
def bZ6 : AV→Bool
 |.tup l=>l.all fun a=>match a with|.own _=>true|.agg cs=>cs.all aP4|a=>aP4 a
 |.own _=>true
 |.agg cs=>cs.all aP4
 |a=>aP4 a
theorem cM5 {Φ Φ':Nat→Prop} {w w':World} {v:Value} {a:AV} (h:aP4 a=true) (hr:Rf Φ w v a):Rf Φ' w' v a:=by
 cases hr<;>first|cases h|skip
 ·exact .any _
 ·exact .int (by assumption)
 ·exact .ik _ _
 ·exact .bool _
 ·exact .str (by assumption)
 ·exact .con _
theorem bW9 {Φ Φ':Nat→Prop} {w w':World}:∀{us:List Value} {as:List AV},as.all aP4=true→I1 Φ w us as→I1 Φ' w' us as
 |_,_,_,.nil=>.nil
 |_,_,h,.cons x t=>by
  simp only [List.all_cons,Bool.and_eq_true] at h
  exact .cons (cM5 h.1 x) (bW9 h.2 t)
theorem b06.rep {c c':Ctx} {w:World} {id:Nat} {o:Obj} (hf:b06 o) (h:aK8 c w id o) (h1:c'.hd=c.hd) (h2:c'.μ=c.μ):aK8 c' w id o:=by
 cases o with
 |gone=>trivial
 |row sz ls e =>
  obtain ⟨css,p1,p2,p3⟩:=h
  exact ⟨css,by rw [h1]; exact p1,p2,fun i us cs hu hc=>bW9 (hf cs (List.mem_of_getElem? hc)) (p3 i us cs hu hc)⟩
 |deep sz e cols l hs sh =>
  obtain ⟨css,p1,p2,p3,p4⟩:=h
  refine ⟨css,by rw [h1]; exact p1,⟨p2.len,fun i us cs hu hc=>⟨(p2.cell i us cs hu hc).1,fun off u a b1 b2 b3=>?_⟩,fun i us cs off isz ie u hu hc b1 b2 b3=>?_,fun i off x us u b1 b2 b3=>by rw [h1]; exact p2.hole i off x us u b1 b2 b3,p2.apart⟩,by rw [h1]; exact p3,by rw [h1]; exact p4⟩
  ·have:=hf cs (List.mem_of_getElem? hc) off a b2
   rw [b3] at this
   exact cM5 this ((p2.cell i us cs hu hc).2 off u a b1 b2 b3)
  ·obtain ⟨ls,q1,css',q2,q3,q4⟩:=p2.inner i us cs off isz ie u hu hc b1 b2 b3
   have:=hf cs (List.mem_of_getElem? hc) off _ q1
   rw [b1] at this
   obtain ⟨isz',ls',e1,e2⟩:=this
   cases e1
   exact ⟨ls,q1,css',q2,q3,fun k us' cs' h3 h4=>bW9 (e2 cs' (List.mem_of_getElem? h4)) (q4 k us' cs' h3 h4)⟩
 |_=>exact hf.elim
theorem dA5 {c c':Ctx} {w:World} {v:Value} {a:AV} (hf:bZ6 a=true) (h:Rd c w v a) (h1:c'.hd=c.hd):Rd c' w v a:=by
 have own:∀{v:Value} {id:Nat},Rd c w v (.own id)→Rd c' w v (.own id):=fun {v id} h=>by
  obtain ⟨A,n,cap,e1,e2,e3,e4⟩:=h.own_
  rw [e1]
  exact .own (by rw [h1]; exact e2) e3 e4
 have agg:∀{v:Value} {cs:List AV},cs.all aP4=true→Rd c w v (.agg cs)→Rd c' w v (.agg cs):=fun {v cs} hf h=>by
  obtain ⟨us,rfl,hu⟩:=h.agg_
  exact .agg (bK5 hf hu)
 unfold bZ6 at hf
 split at hf
 ·rename_i l
  obtain ⟨us,rfl,hu⟩:=h.tup_
  refine .tup ?_
  clear h
  induction l generalizing us with
  |nil=>cases hu; exact .nil
  |cons a l ih =>
   cases hu with|cons h t =>
   simp only [List.all_cons,Bool.and_eq_true] at hf
   refine .cons ?_ (ih hf.2 _ t)
   cases a<;>first|exact own h|exact agg hf.1 h|exact bP8 hf.1 h
 ·exact own h
 ·exact agg hf h
 ·exact bP8 hf h
structure l7 (P:Program) (f:Nat) (ins:List AV) (os:Os) (K:Kt):Prop where
 out:(∃(ins0 ins':List AV) (g need upd:Os) (news:List Nat) (av:AV),Spec P f need ins' av upd news∧aS0 os ins ins0 g∧aK7 ins0 ins'∧bA0 need os∧(need.all fun p=>(lk g p.1).isNone)=true∧(need.all fun p=>aV1 news p.2.ids)=true ∧
  K av ((g++need).map (·.1)) news (upd++J2 g)) ∨
 (∃(ins0 ins':List AV) (g:Os) (av:AV),Spec P f [] ins' av [] []∧aN8 os ins ins0 g∧aK7 ins0 ins'∧bQ9 av=true∧K av (g.map (·.1)) [] []) ∨
 (∃(ins0 ins':List AV) (g upd:Os) (news:List Nat) (av:AV),Spec P f [] ins' av upd news∧aN8 os ins ins0 g∧aK7 ins0 ins'∧bZ6 av=true∧bC0 upd∧K av (g.map (·.1)) news upd)
section
variable {P:Program} {tab:O5} {et:aI0} {o:Oper} {ev:Ev} {os:Os} {K:Kt}
theorem l7.fz {f:Nat} {ins ins':List AV} {need upd:Os} {news:List Nat} {av:AV} (h:Spec P f need ins' av upd news) (hle:aK7 (U1 os ins).1 ins') (hs:bA0 need os) (hd:(need.all fun p=>(lk (U1 os ins).2 p.1).isNone)=true)
  (hf:(need.all fun p=>aV1 news p.2.ids)=true) (hK:K av (((U1 os ins).2++need).map (·.1)) news (upd++J2 (U1 os ins).2)):l7 P f ins os K :=
 ⟨.inl ⟨_,ins',_,need,upd,news,av,h,cG5 ins,hle,hs,hd,hf,hK⟩⟩
theorem l7.as {f:Nat} {ins ins':List AV} {need upd:Os} {news:List Nat} {av:AV} (h:Spec P f need ins' av upd news) (hle:aK7 ins ins') (hs:bA0 need os)
  (hf:(need.all fun p=>aV1 news p.2.ids)=true) (hK:K av (need.map (·.1)) news upd):l7 P f ins os K :=
 ⟨.inl ⟨ins,ins',[],need,upd,news,av,h,⟨fun _ _ h=>(by cases h),fun _ _ h=>(by cases h),fun c w us _ h=>F5.mono (c:=c) (c':=c.fz []) (fun _ _=>rfl) (fun _ h=>Or.inl h) (fun _ _=>⟨rfl,rfl⟩) h⟩,hle,hs,List.all_eq_true.2 fun _ _=>rfl,hf,by simpa [J2] using hK⟩⟩
theorem l7.lend {f:Nat} {ins ins':List AV} {av:AV} (h:Spec P f [] ins' av [] []) (hle:aK7 (U1 os ins).1 ins') (hf:bQ9 av=true) (hK:K av ((U1 os ins).2.map (·.1)) [] []):l7 P f ins os K :=
 ⟨.inr (.inl ⟨_,ins',_,av,h,(cG5 ins).lend,hle,hf,hK⟩)⟩
theorem l7.lendD {f:Nat} {ins ins':List AV} {av:AV} (h:Spec P f [] ins' av [] []) (hle:aK7 (fzD os ins).1 ins') (hf:bQ9 av=true) (hK:K av ((fzD os ins).2.map (·.1)) [] []):l7 P f ins os K :=
 ⟨.inr (.inl ⟨_,ins',_,av,h,c60 ins,hle,hf,hK⟩)⟩
theorem l7.lendF {f:Nat} {ins ins':List AV} {upd:Os} {news:List Nat} {av:AV} (h:Spec P f [] ins' av upd news) (hle:aK7 (fzD os ins).1 ins') (hf:bZ6 av=true) (hu:bC0 upd) (hK:K av ((fzD os ins).2.map (·.1)) news upd):l7 P f ins os K :=
 ⟨.inr (.inr ⟨_,ins',_,upd,news,av,h,c60 ins,hle,hf,hu,hK⟩)⟩
theorem bX4 {c:Go.Call} {f:Operand} {g:Nat} {cus:List Value} {ρ:Operand→Value} {w:World} (ho:o.op=.call c) (hc:c.callee=.value f) (hcall:callable P g=true) (e1:ρ f=.func (.func g) #[] cus.toArray) :
  (execOp ρ o).run P w=.ok (.enter g (c.args.toList.map ρ++cus).toArray) w:=by
 unfold callable at hcall
 split at hcall
 ·rename_i fn hfn
  simp only [Bool.and_eq_true,Bool.not_eq_true',beq_eq_false_iff_ne,ne_eq] at hcall
  have hbody:fn.body.isNone=false:=by cases hb:fn.body<;>simp_all
  have hm:c.args.map ρ++cus.toArray=(c.args.toList.map ρ++cus).toArray:=by
   apply Array.toList_inj.1
   simp
  simp [execOp,ho,resolve,hc,e1,Deferred.ofValue,invoke,callFunc,hfn,hcall.2,hm]
  intro hbn
  rw [hbn] at hbody
  cases hbody
 ·cases hcall
theorem dJ0 {c:Go.Call} {f:Operand} {g:Nat} {caps:List AV} (ho:o.op=.call c) (hc:c.callee=.value f) (hf:ev f=.fn g caps) {ins0 ins':List AV} {gz:Os} {av:AV} (hspec:Spec P g [] ins' av [] [])
  (hz:aN8 os (c.args.toList.map ev++caps) ins0 gz) (hle:aK7 ins0 ins') (hfl:bQ9 av=true) (hK:K av (gz.map (·.1)) [] []):Q9 P o ev os K:=by
 intro _
 obtain ⟨hcall,hnews,hspec⟩:=hspec
 refine ⟨av,gz,[],[],fun cx w ρ hok hr=>?_,hz.sub,fun id hid=>(by cases hid),hK⟩
 have rf:Rd cx w (ρ f) (.fn g caps):=by
  have:=hr f (by simp [ho,Op.operands,Go.Call.operands,hc])
  rwa [hf] at this
 obtain ⟨cus,e1,hcus⟩:=rf.fn_
 have hargs:F5 cx w (c.args.toList.map ρ++cus) (c.args.toList.map ev++caps):=(bO0 fun x hx=>hr x (by simp [ho,Op.operands,Go.Call.operands,hc]; exact .inr (by simpa using hx))).append hcus
 have hargs':=bI3 hle (hz.run cx w _ hok hargs)
 have p1:=Post.freeze hok
 have no:∀(id:Nat) (o:Obj),lk ([]:Os) id=some o→False:=fun id o h=>(by cases h)
 have ok1:N9 (cx.fz gz) w []:=⟨fun id o h=>(no id o h).elim,fun id o b h=>(no id o h).elim,fun id id' o o' b _ h=>(no id o h).elim,p1.hok.phi⟩
 have hcalls:=hspec (cx.fz gz) w (c.args.toList.map ρ++cus).toArray ok1 (by simpa using hargs')
 rw [bX4 ho hc hcall e1]
 refine hcalls.mono fun e w' ⟨v,c',he,hp,hrd⟩=>⟨v,he,cx,⟨hp.wos,hp.tape,hp.output,hp.size,fun _ h=>h,fun _ h=>.inl h,fun b hb _=>hp.keep b hb fun ⟨id,o,h,_⟩=>no id o h,fun _ _=>⟨rfl,rfl⟩,
  ⟨fun id o h=>(no id o h).elim,fun id o b h=>(no id o h).elim,fun id id' o o' b _ h=>(no id o h).elim,fun b hb=>Nat.lt_of_lt_of_le (hok.phi b hb) hp.size⟩,fun id o b h=>(no id o h).elim⟩,dB2 hfl hrd⟩
theorem dC9 {c:Go.Call} {f:Operand} {g:Nat} {caps:List AV} (ho:o.op=.call c) (hc:c.callee=.value f) (hf:ev f=.fn g caps) {ins0 ins':List AV} {gz upd:Os} {news:List Nat} {av:AV} (hspec:Spec P g [] ins' av upd news)
  (hz:aN8 os (c.args.toList.map ev++caps) ins0 gz) (hle:aK7 ins0 ins') (hfl:bZ6 av=true) (hfu:bC0 upd) (hK:K av (gz.map (·.1)) news upd):Q9 P o ev os K:=by
 intro _
 obtain ⟨hcall,hnews,hspec⟩:=hspec
 refine ⟨av,gz,upd,news,fun cx w ρ hok hr=>?_,hz.sub,hnews,hK⟩
 have rf:Rd cx w (ρ f) (.fn g caps):=by
  have:=hr f (by simp [ho,Op.operands,Go.Call.operands,hc])
  rwa [hf] at this
 obtain ⟨cus,e1,hcus⟩:=rf.fn_
 have hargs:F5 cx w (c.args.toList.map ρ++cus) (c.args.toList.map ev++caps):=(bO0 fun x hx=>hr x (by simp [ho,Op.operands,Go.Call.operands,hc]; exact .inr (by simpa using hx))).append hcus
 have hargs':=bI3 hle (hz.run cx w _ hok hargs)
 have p1:=Post.freeze hok
 have no:∀(id:Nat) (o:Obj),lk ([]:Os) id=some o→False:=fun id o h=>(by cases h)
 have ok1:N9 (cx.fz gz) w []:=⟨fun id o h=>(no id o h).elim,fun id o b h=>(no id o h).elim,fun id id' o o' b _ h=>(no id o h).elim,p1.hok.phi⟩
 have hcalls:=hspec (cx.fz gz) w (c.args.toList.map ρ++cus).toArray ok1 (by simpa using hargs')
 rw [bX4 ho hc hcall e1]
 refine hcalls.mono fun e w' ⟨v,c',he,hp,hrd⟩=>⟨v,he,{ c' with Φ:=cx.Φ },⟨hp.wos,hp.tape,hp.output,hp.size,fun _ h=>h,fun _ h=>.inl h,fun b hb _=>hp.keep b hb fun ⟨id,o,h,_⟩=>no id o h,fun i hi=>hp.ctx i hi,
  ⟨fun id o h=>(hfu.at h).rep (hp.hok.rep id o h) rfl rfl,fun id o b h hf=>?_,fun id id' o o' b hne h h' hf=>?_,fun b hb=>Nat.lt_of_lt_of_le (hok.phi b hb) hp.size⟩,fun id o b h hf=>?_⟩,dA5 hfl hrd rfl⟩
 ·have hf':foot c' id o b:=by cases o<;>exact hf
  have:=hp.hok.lt id o b h hf'
  exact ⟨this.1,fun hb=>this.2 (hp.phi b (.inl hb))⟩
 ·have hf1:foot c' id o b:=by cases o<;>exact hf
  intro hf2
  have hf2':foot c' id' o' b:=by cases o'<;>exact hf2
  exact hp.hok.sep id id' o o' b hne h h' hf1 hf2'
 ·have hf':foot c' id o b:=by cases o<;>exact hf
  rcases hp.feet id o b h hf' with h1|⟨i,x,h1,_⟩
  ·exact .inl h1
  ·exact (no i x h1).elim
theorem dH5 {c:Go.Call} {f:Operand} {g:Nat} {caps:List AV} (ho:o.op=.call c) (hc:c.callee=.value f) (hf:ev f=.fn g caps) (h:l7 P g (c.args.toList.map ev++caps) os K):Q9 P o ev os K:=by
 rcases h.out with ⟨ins0,ins',gz,need,upd,news,av,hspec,hz,hle,hs,hd,hfr,hK⟩|⟨ins0,ins',gz,av,hspec,hz,hle,hfl,hK⟩|⟨ins0,ins',gz,upd,news,av,hspec,hz,hle,hfl,hfu,hK⟩
 case inr.inl=>exact dJ0 ho hc hf hspec hz hle hfl hK
 case inr.inr=>exact dC9 ho hc hf hspec hz hle hfl hfu hK
 intro _
 obtain ⟨hcall,hnews,hspec⟩:=hspec
 have hsub:=bB9 hs
 obtain ⟨s1,s2,s3⟩:=aV2 hz.sub hsub
 have hnone:∀id x,lk need id=some x→lk gz id=none:=fun id x h=>by
  have:=List.all_eq_true.1 hd _ (Z4 h)
  simpa using this
 refine ⟨av,gz++need,upd++J2 gz,news,fun cx w ρ hok hr=>?_,s1,fun id hid=>?_,hK⟩
 ·have rf:Rd cx w (ρ f) (.fn g caps):=by
   have:=hr f (by simp [ho,Op.operands,Go.Call.operands,hc])
   rwa [hf] at this
  obtain ⟨cus,e1,hcus⟩:=rf.fn_
  have hargs:F5 cx w (c.args.toList.map ρ++cus) (c.args.toList.map ev++caps):=(bO0 fun x hx=>hr x (by simp [ho,Op.operands,Go.Call.operands,hc]; exact .inr (by simpa using hx))).append hcus
  have hargs':=bI3 hle (hz.run cx w _ (hok.sub s3) hargs)
  have p1:=(Post.freeze (hok.sub s3)).widen s3
  have ok1:N9 (cx.fz gz) w need:=by
   have hfrm:=hok.frame (fun _ _ h=>h) p1 (fun _ h=>(by cases h)) (fun _ _ _ _ _ h=>(by cases h))
   refine hfrm.sub fun id x hl=>?_
   have hg:lk (J2 gz) id=none:=by
    have:=aX0 gz id
    rw [hnone id x hl] at this
    cases hq:lk (J2 gz) id with
    |none=>rfl
    |some y=>rw [hq] at this; cases this
   rw [J8,hg]
   simpa using s2 id x hl
  have hcalls:=hspec (cx.fz gz) w (c.args.toList.map ρ++cus).toArray ok1 (by simpa using hargs')
  rw [bX4 ho hc hcall e1]
  refine hcalls.mono fun e w' ⟨v,c',he,hp,hrd⟩=>⟨v,he,c',?_,hrd⟩
  have:=Post.trans hok p1 hp (fun _ h=>(by cases h)) hnews (fun id x hl=>by
   have hg:lk (J2 gz) id=none:=by
    have:=aX0 gz id
    rw [hnone id x hl] at this
    cases hq:lk (J2 gz) id with
    |none=>rfl
    |some y=>rw [hq] at this; cases this
   rw [J8,hg]
   simpa using s2 id x hl) (fun _ _ _ _ _ h=>(by cases h)) (fun id x hl hu y hy=>by
   rw [J8] at hl
   cases hg:lk (J2 gz) id with
   |some z =>
    rw [hg] at hl
    simp at hl
    subst hl
    rw [aY8 hg]
    simp [Obj.ids]
   |none =>
    rw [hg] at hl
    simp at hl
    rw [J8] at hl
    cases hgz:lk gz id with
    |some z =>
     rw [hgz] at hl
     simp at hl
     subst hl
     rw [hz.ids id z hgz]
     simp
    |none =>
     rw [hgz] at hl
     simp at hl
     exact aO1 (List.all_eq_true.1 hfr _ (Z4 hl)) y hy)
  simpa using this
 ·rw [J8]
  have:=hnews id hid
  cases hu:lk upd id with
  |none=>rw [hu] at this; cases this
  |some x=>rfl
def cE7 (os:Os):AV→Bool
 |.own id=>match lk os id with
  |some (.deep _ _ _ _ _ _)=>true
  |_=>false
 |.ep id _ _ _=>match lk os id with
  |some (.deep _ _ _ _ _ _)=>true
  |_=>false
 |_=>false
def dN7 (tab:O5) (t:TypeId):Bool:=match lk tab t with
 |some ti=>match lk tab ti.elem with
  |some te=>Nat.beq te.kind 1 && Nat.beq te.len 1
  |none=>false
 |none=>false
theorem bQ6 {b:Bool} {X Y Z:Prop} (h:bif b then X else Y) (hx:b=true→X→Z) (hy:b=false→Y→Z):Z:=by
 cases b
 ·exact hy rfl h
 ·exact hx rfl h
def dF2 (tab:O5) (t:TypeId):Bool:=match lk tab t with
 |some ti=>Nat.beq ti.kind 2
 |none=>false
def dK6 (tab:O5) (t:TypeId) (x:AV):Bool :=
 match lk tab t with
 |some ti=>match x with
  |.str _=>Nat.beq ti.kind 4
  |.mp _=>Nat.beq ti.kind 8
  |_=>Nat.beq ti.kind 2
 |none=>false
def cQ6 (P:Program) (tab:O5) (d:Nat) (c:Go.Call) (ev:Ev) (os:Os) (K:Kt):Prop :=
 match c.callee with
 |.builtin b=>match b,c.args.toList,c.argTypes.toList with
  |.len,[x],[t]=>bif cE7 os (ev x) then (match dF2 tab t with
    |true=>cQ3 os (ev x) K
    |false=>False) else match dK6 tab t (ev x) with
   |true=>cX3 os (ev x) K
   |false=>False
  |.append,[x,y],[t,t']=>bif cE7 os (ev x) then bY5 tab os d t t' (ev x) (ev y) K else b37 tab os d t t' (ev x) (ev y) K
  |.min,[x,y],_=>cX0 (ev x) (ev y) K
  |.max,[x,y],_=>cZ5 (ev x) (ev y) K
  |_,_,_=>False
 |.value f=>match ev f with
  |.fn g caps=>l7 P g (c.args.toList.map ev++caps) os K
  |_=>False
 |.invoke _ _=>False
theorem dA4 (hT:L9 P tab) (d:Nat) {c:Go.Call} (ho:o.op=.call c) (h:cQ6 P tab d c ev os K):Q9 P o ev os K:=by
 unfold cQ6 at h
 obtain ⟨callee,args,argTypes⟩:=c
 split at h
 ·rename_i b hb
  simp only at hb
  subst hb
  split at h
  ·rename_i x t ha ht
   have ha':args=#[x]:=by simpa using congrArg List.toArray ha
   have ht':argTypes=#[t]:=by simpa using congrArg List.toArray ht
   subst ha' ht'
   refine bQ6 h (fun _ h=>?_) fun _ h=>?_
   ·split at h
    ·rename_i hk
     unfold dF2 at hk
     split at hk
     ·rename_i ti hti
      exact dI7 hT hti (Nat.eq_of_beq_eq_true hk) ho h
     ·cases hk
    ·exact h.elim
   split at h
   ·rename_i hl
    refine dL0 hT ho ?_ h
    unfold dK6 at hl
    split at hl
    ·rename_i ti hti
     rw [hti]
     split at hl
     ·rename_i s hx
      rw [hx]
      exact Nat.eq_of_beq_eq_true hl
     ·rename_i s hx
      rw [hx]
      exact Nat.eq_of_beq_eq_true hl
     ·rename_i hne hne2
      have:=Nat.eq_of_beq_eq_true hl
      cases hx:ev x<;>first|exact this|exact absurd hx (hne _)|exact absurd hx (hne2 _)
    ·cases hl
   ·exact h.elim
  ·rename_i x y t t' ha ht
   have ha':args=#[x,y]:=by simpa using congrArg List.toArray ha
   have ht':argTypes=#[t,t']:=by simpa using congrArg List.toArray ht
   subst ha' ht'
   exact bQ6 h (fun _ h=>cV4 hT d ho h) fun _ h=>c44 hT d ho h
  ·rename_i x y ha
   have ha':args=#[x,y]:=by simpa using congrArg List.toArray ha
   subst ha'
   exact dL5 ho h
  ·rename_i x y ha
   have ha':args=#[x,y]:=by simpa using congrArg List.toArray ha
   subst ha'
   exact dM7 ho h
  ·exact h.elim
 ·rename_i f hf
  split at h
  ·rename_i g caps hg
   exact dH5 ho hf hg h
  ·exact h.elim
 ·exact h.elim
def aT3 (P:Program) (tab:O5) (et:aI0) (d:Nat) (op:Op) (ev:Ev) (os:Os) (K:Kt):Prop :=
 match op with
 |.move x=>K (ev x) [] [] []
 |.assign x=>K (ev x) [] [] []
 |.pick c a b=>cQ9 ev c a b K
 |.alloc t=>cA6 tab d t K
 |.box t x=>cY7 d t (ev x) K
 |.build t ps=>cA9 tab ev t ps K
 |.buildSlice t n ps=>bif dN7 tab t then (b38 tab os ev d t n ps K∨a01 tab os ev d t n ps K) else a01 tab os ev d t n ps K
 |.load t x=>bif cE7 os (ev x) then cA7 tab os t (ev x) K else cN9 tab os t (ev x) (dD9 os K)
 |.store t x y=>bif cE7 os (ev x) then b39 tab os t (ev x) (ev y) K else b63 tab os t (ev x) (ev y) K
 |.nilCheck x=>cW7 (ev x) K
 |.binOp op t x y _=>cW6 tab et op t (ev x) (ev y) (fun av=>K av [] [] [])
 |.unOp op _ x=>c90 op (ev x) K
 |.convert s t x=>cO1 tab s t (ev x) K
 |.makeFunc fn f c=>cP1 ev fn f c K
 |.makeSlice t x y=>cK1 tab d t (ev x) (ev y) K
 |.slice t x lo hi none=>bif cE7 os (ev x) then b57 tab os d t (ev x) (Y0 ev lo) (Y0 ev hi) K else cE6 tab os d t (ev x) (Y0 ev lo) (Y0 ev hi) K
 |.fieldAddr s x f=>bM2 tab s (ev x) f K
 |.field s x f=>cD8 tab s (ev x) f K
 |.indexAddr t x i=>bif cE7 os (ev x) then bI8 tab os t (ev x) (ev i) K else bM8 tab os t (ev x) (ev i) K
 |.index t x i=>cB7 tab t (ev x) (ev i) K
 |.extract x i=>bV2 (ev x) i K
 |.makeMap _ none=>cG9 d K
 |.lookup t x k false=>b42 tab os t (ev x) (ev k) K
 |.mapUpdate t x k v=>bM0 tab os t (ev x) (ev k) (ev v) K
 |.call c=>cQ6 P tab d c ev os K
 |_=>False
theorem step_ok (hT:L9 P tab) (hE:aG7 P et) (d:Nat) (h:aT3 P tab et d o.op ev os K):Q9 P o ev os K:=by
 cases ho:o.op<;>rw [ho] at h<;>simp only [aT3] at h
 case move x=>exact cS9 (.inl ho) h
 case assign x=>exact cS9 (.inr ho) h
 case pick c a b=>exact dJ4 ho h
 case alloc t=>exact dB7 hT d ho h
 case box t x=>exact dN0 d ho h
 case build t ps=>exact dA9 hT ho h
 case buildSlice t n ps=>exact bQ6 h (fun _ h=>h.elim (fun h=>c07 hT d ho h) fun h=>bS6 hT d ho h) fun _ h=>bS6 hT d ho h
 case load t x=>exact bQ6 h (fun _ h=>dE3 hT ho h) fun _ h=>(dF9 hT ho h).res
 case store t x y=>exact bQ6 h (fun _ h=>cZ9 hT ho h) fun _ h=>c35 hT ho h
 case nilCheck x=>exact dM1 ho h
 case binOp op t x y ty=>exact dM3 hT hE ho h
 case unOp op t x=>exact dO2 ho h
 case convert s t x=>exact dJ6 hT ho h
 case makeFunc fn f c=>exact dG8 ho h
 case makeSlice t x y=>exact dH6 hT d ho h
 case slice t x lo hi mx=>cases mx with
  |none=>exact bQ6 h (fun _ h=>c48 hT d ho h) fun _ h=>c81 hT d ho h
  |some m=>exact h.elim
 case fieldAddr s x f=>exact cR2 hT ho h
 case field s x f=>exact dE0 hT ho h
 case indexAddr t x i=>exact bQ6 h (fun _ h=>cJ1 hT ho h) fun _ h=>cM4 hT ho h
 case index t x i=>exact dC2 hT ho h
 case extract x i=>exact cU9 ho h
 case makeMap t r=>cases r with
  |none=>exact cV3 d ho h
  |some r=>exact h.elim
 case lookup t x k b=>cases b with
  |false=>exact c65 hT ho h
  |true=>exact h.elim
 case mapUpdate t x k v=>exact cM2 hT ho h
 case call c=>exact dA4 hT d ho h
end
end Go.Proofs.Ytahmeibkdhbngaa
