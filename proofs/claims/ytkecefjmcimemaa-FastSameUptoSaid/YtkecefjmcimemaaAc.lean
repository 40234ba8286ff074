/- THE WALK OVER READINGS: a region's operations in a row, and what must be shown of them. No program in sight; types are told by the table. -/
import Derived.Test.YtkecefjmcimemaaAr
namespace Go.Proofs.Ytkecefjmcimemaa
open Go.RowKit
set_option linter.unusedVariables false
def top : Nat:=1000
def a98 : Os→Os→Prop
 |[],_=>True
 |(k,o)::r,os=>lk os k=some o∧a98 r os
theorem bC7 {os:Os}:∀{need:Os},a98 need os→∀id o,lk need id=some o→lk os id=some o
 |(k,x)::r,h,id,o,hl=>by
  rw [w9] at hl
  split at hl
  ·rename_i e
   subst e
   cases hl
   exact h.1
  ·exact bC7 h.2 id o hl
def aP5 : AV→Bool
 |.int _=>true
 |.ik _ _=>true
 |.bool _=>true
 |.str _=>true
 |.any=>true
 |.con _=>true
 |_=>false
def bY7 : AV→Bool
 |.tup l=>l.all aP5
 |.agg l=>l.all aP5
 |a=>aP5 a
theorem bQ9 {c c':Ctx} {w w':World} {v:Value} {a:AV} (h:aP5 a=true) (hr:Rd c w v a):Rd c' w' v a:=by
 cases a<;>first|cases h|skip
 ·exact Rd.any_ v
 ·obtain ⟨rfl,h⟩:=hr.int_; exact .fz (.int h)
 ·rw [hr.ik_]; exact .fz (.ik _ _)
 ·rw [hr.bool_]; exact .fz (.bool _)
 ·obtain ⟨rfl,h⟩:=hr.str_; exact .fz (.str h)
 ·rw [hr.con_]; exact .fz (.con _)
theorem bL2 {c c':Ctx} {w w':World}:∀{us:List Value} {as:List AV},as.all aP5=true→F5 c w us as→F5 c' w' us as
 |_,_,_,.nil=>.nil
 |_,_,h,.cons x t=>by
  simp only [List.all_cons,Bool.and_eq_true] at h
  exact .cons (bQ9 h.1 x) (bL2 h.2 t)
theorem c98 {c c':Ctx} {w w':World} {v:Value} {a:AV} (h:bY7 a=true) (hr:Rd c w v a):Rd c' w' v a:=by
 unfold bY7 at h
 split at h
 ·obtain ⟨us,rfl,hu⟩:=hr.tup_; exact .tup (bL2 h hu)
 ·obtain ⟨us,rfl,hu⟩:=hr.agg_; exact .agg (bL2 h hu)
 ·exact bQ9 h hr
def bY5 : Obj→Prop
 |.gone=>True
 |.row _ ls _=>∀cs∈ls,cs.all aP5=true
 |.deep _ _ cols l _ _=>∀cs∈l,∀(off:Nat) (a:AV),cs[off]?=some a→match lk cols off with
  |none=>aP5 a=true
  |some _=>∃isz ls,a=.sl isz ls∧∀cs'∈ls,cs'.all aP5=true
 |_=>False
def bB9 : Os→Prop
 |[]=>True
 |p::r=>bY5 p.2∧bB9 r
theorem bB9.at : ∀{l:Os},bB9 l→∀{id:Nat} {o:Obj},lk l id=some o→bY5 o
 |(k,x)::r,h,id,o,hl=>by
  rw [w9] at hl
  split at hl
  ·cases hl; exact h.1
  ·exact bB9.at h.2 hl
def bZ0 : AV→Bool
 |.tup l=>l.all fun a=>match a with|.own _=>true|.agg cs=>cs.all aP5|a=>aP5 a
 |.own _=>true
 |.agg cs=>cs.all aP5
 |a=>aP5 a
theorem cL4 {Φ Φ':Nat→Prop} {w w':World} {v:Value} {a:AV} (h:aP5 a=true) (hr:Rf Φ w v a):Rf Φ' w' v a:=by
 cases hr<;>first|cases h|skip
 ·exact .any _
 ·exact .int (by assumption)
 ·exact .ik _ _
 ·exact .bool _
 ·exact .str (by assumption)
 ·exact .con _
theorem bV2 {Φ Φ':Nat→Prop} {w w':World}:∀{us:List Value} {as:List AV},as.all aP5=true→H6 Φ w us as→H6 Φ' w' us as
 |_,_,_,.nil=>.nil
 |_,_,h,.cons x t=>by
  simp only [List.all_cons,Bool.and_eq_true] at h
  exact .cons (cL4 h.1 x) (bV2 h.2 t)
theorem bY5.rep {c c':Ctx} {w:World} {id:Nat} {o:Obj} (hf:bY5 o) (h:aL1 c w id o) (h1:c'.hd=c.hd) (h2:c'.μ=c.μ):aL1 c' w id o:=by
 cases o with
 |gone=>trivial
 |row sz ls e =>
  obtain ⟨css,p1,p2,p3⟩:=h
  exact ⟨css,by rw [h1]; exact p1,p2,fun i us cs hu hc=>bV2 (hf cs (List.mem_of_getElem? hc)) (p3 i us cs hu hc)⟩
 |deep sz e cols l hs sh =>
  obtain ⟨css,p1,p2,p3,p4⟩:=h
  refine ⟨css,by rw [h1]; exact p1,⟨p2.len,fun i us cs hu hc=>⟨(p2.cell i us cs hu hc).1,fun off u a b1 b2 b3=>?_⟩,fun i us cs off isz ie u hu hc b1 b2 b3=>?_,fun i off x us u b1 b2 b3=>by rw [h1]; exact p2.hole i off x us u b1 b2 b3,p2.apart⟩,by rw [h1]; exact p3,by rw [h1]; exact p4⟩
  ·have:=hf cs (List.mem_of_getElem? hc) off a b2
   rw [b3] at this
   exact cL4 this ((p2.cell i us cs hu hc).2 off u a b1 b2 b3)
  ·obtain ⟨ls,q1,css',q2,q3,q4⟩:=p2.inner i us cs off isz ie u hu hc b1 b2 b3
   have:=hf cs (List.mem_of_getElem? hc) off _ q1
   rw [b1] at this
   obtain ⟨isz',ls',e1,e2⟩:=this
   cases e1
   exact ⟨ls,q1,css',q2,q3,fun k us' cs' h3 h4=>bV2 (e2 cs' (List.mem_of_getElem? h4)) (q4 k us' cs' h3 h4)⟩
 |_=>exact hf.elim
theorem dB3 {c c':Ctx} {w:World} {v:Value} {a:AV} (hf:bZ0 a=true) (h:Rd c w v a) (h1:c'.hd=c.hd):Rd c' w v a:=by
 have own:∀{v:Value} {id:Nat},Rd c w v (.own id)→Rd c' w v (.own id):=fun {v id} h=>by
  obtain ⟨A,n,cap,e1,e2,e3,e4⟩:=h.own_
  rw [e1]
  exact .own (by rw [h1]; exact e2) e3 e4
 have agg:∀{v:Value} {cs:List AV},cs.all aP5=true→Rd c w v (.agg cs)→Rd c' w v (.agg cs):=fun {v cs} hf h=>by
  obtain ⟨us,rfl,hu⟩:=h.agg_
  exact .agg (bL2 hf hu)
 unfold bZ0 at hf
 split at hf
 ·rename_i l
  obtain ⟨us,rfl,hu⟩:=h.tup_
  refine .tup ?_
  clear h
  induction l generalizing us with
  |nil=>cases hu; exact .nil
  |cons a l ih =>
   cases hu with|cons h t =>
   simp only [List.all_cons,Bool.and_eq_true] at hf
   refine .cons ?_ (ih hf.2 _ t)
   cases a<;>first|exact own h|exact agg hf.1 h|exact bQ9 hf.1 h
 ·exact own h
 ·exact agg hf h
 ·exact bQ9 hf h
structure l7 (P:Program) (f:Nat) (ins:List AV) (os:Os) (K:Kt):Prop where
 out:(∃(ins0 ins':List AV) (g need upd:Os) (news:List Nat) (av:AV),Spec P f need ins' av upd news∧aW8 os ins ins0 g∧aX7 ins0 ins'∧a98 need os∧(need.all fun p=>(lk g p.1).isNone)=true∧(need.all fun p=>aT3 news p.2.ids)=true ∧
  K av ((g++need).map (·.1)) news (upd++I7 g)) ∨
 (∃(ins0 ins':List AV) (g:Os) (av:AV),Spec P f [] ins' av [] []∧aQ3 os ins ins0 g∧aX7 ins0 ins'∧bY7 av=true∧K av (g.map (·.1)) [] []) ∨
 (∃(ins0 ins':List AV) (g upd:Os) (news:List Nat) (av:AV),Spec P f [] ins' av upd news∧aQ3 os ins ins0 g∧aX7 ins0 ins'∧bZ0 av=true∧bB9 upd∧K av (g.map (·.1)) news upd)
section
variable {P:Program} {tab:O8} {et:aH5} {o:Oper} {ev:Ev} {os:Os} {K:Kt}
theorem l7.fz {f:Nat} {ins ins':List AV} {need upd:Os} {news:List Nat} {av:AV} (h:Spec P f need ins' av upd news) (hle:aX7 (Y1 os ins).1 ins') (hs:a98 need os) (hd:(need.all fun p=>(lk (Y1 os ins).2 p.1).isNone)=true)
  (hf:(need.all fun p=>aT3 news p.2.ids)=true) (hK:K av (((Y1 os ins).2++need).map (·.1)) news (upd++I7 (Y1 os ins).2)):l7 P f ins os K :=
 ⟨.inl ⟨_,ins',_,need,upd,news,av,h,c44 ins,hle,hs,hd,hf,hK⟩⟩
theorem l7.as {f:Nat} {ins ins':List AV} {need upd:Os} {news:List Nat} {av:AV} (h:Spec P f need ins' av upd news) (hle:aX7 ins ins') (hs:a98 need os)
  (hf:(need.all fun p=>aT3 news p.2.ids)=true) (hK:K av (need.map (·.1)) news upd):l7 P f ins os K :=
 ⟨.inl ⟨ins,ins',[],need,upd,news,av,h,⟨fun _ _ h=>(by cases h),fun _ _ h=>(by cases h),fun c w us _ h=>F5.mono (c:=c) (c':=c.fz []) (fun _ _=>rfl) (fun _ h=>Or.inl h) (fun _ _=>⟨rfl,rfl⟩) h⟩,hle,hs,List.all_eq_true.2 fun _ _=>rfl,hf,by simpa [I7] using hK⟩⟩
theorem l7.lendD {f:Nat} {ins ins':List AV} {av:AV} (h:Spec P f [] ins' av [] []) (hle:aX7 (fzD os ins).1 ins') (hf:bY7 av=true) (hK:K av ((fzD os ins).2.map (·.1)) [] []):l7 P f ins os K :=
 ⟨.inr (.inl ⟨_,ins',_,av,h,cY4 ins,hle,hf,hK⟩)⟩
theorem l7.lendF {f:Nat} {ins ins':List AV} {upd:Os} {news:List Nat} {av:AV} (h:Spec P f [] ins' av upd news) (hle:aX7 (fzD os ins).1 ins') (hf:bZ0 av=true) (hu:bB9 upd) (hK:K av ((fzD os ins).2.map (·.1)) news upd):l7 P f ins os K :=
 ⟨.inr (.inr ⟨_,ins',_,upd,news,av,h,cY4 ins,hle,hf,hu,hK⟩)⟩
theorem bX3 {c:Go.Call} {f:Operand} {g:Nat} {cus:List Value} {ρ:Operand→Value} {w:World} (ho:o.op=.call c) (hc:c.callee=.value f) (hcall:callable P g=true) (e1:ρ f=.func (.func g) #[] cus.toArray) :
  (execOp ρ o).run P w=.ok (.enter g (c.args.toList.map ρ++cus).toArray) w:=by
 unfold callable at hcall
 split at hcall
 ·rename_i fn hfn
  simp only [Bool.and_eq_true,Bool.not_eq_true',beq_eq_false_iff_ne,ne_eq] at hcall
  have hbody:fn.body.isNone=false:=by cases hb:fn.body<;>simp_all
  have hm:c.args.map ρ++cus.toArray=(c.args.toList.map ρ++cus).toArray:=by
   apply Array.toList_inj.1
   simp
  simp [execOp,ho,resolve,hc,e1,Deferred.ofValue,invoke,callFunc,hfn,hcall.2,hm]
  intro hbn
  rw [hbn] at hbody
  cases hbody
 ·cases hcall
theorem dE7 {c:Go.Call} {f:Operand} {g:Nat} {caps:List AV} (ho:o.op=.call c) (hc:c.callee=.value f) (hf:ev f=.fn g caps) {ins0 ins':List AV} {gz:Os} {av:AV} (hspec:Spec P g [] ins' av [] [])
  (hz:aQ3 os (c.args.toList.map ev++caps) ins0 gz) (hle:aX7 ins0 ins') (hfl:bY7 av=true) (hK:K av (gz.map (·.1)) [] []):Q8 P o ev os K:=by
 intro _
 obtain ⟨hcall,hnews,hspec⟩:=hspec
 refine ⟨av,gz,[],[],fun cx w ρ hok hr=>?_,hz.sub,fun id hid=>(by cases hid),hK⟩
 have rf:Rd cx w (ρ f) (.fn g caps):=by
  have:=hr f (by simp [ho,Op.operands,Go.Call.operands,hc])
  rwa [hf] at this
 obtain ⟨cus,e1,hcus⟩:=rf.fn_
 have hargs:F5 cx w (c.args.toList.map ρ++cus) (c.args.toList.map ev++caps):=(bN5 fun x hx=>hr x (by simp [ho,Op.operands,Go.Call.operands,hc]; exact .inr (by simpa using hx))).append hcus
 have hargs':=bP7 hle (hz.run cx w _ hok hargs)
 have p1:=Post.freeze hok
 have no:∀(id:Nat) (o:Obj),lk ([]:Os) id=some o→False:=fun id o h=>(by cases h)
 have ok1:N9 (cx.fz gz) w []:=⟨fun id o h=>(no id o h).elim,fun id o b h=>(no id o h).elim,fun id id' o o' b _ h=>(no id o h).elim,p1.hok.phi⟩
 have hcalls:=hspec (cx.fz gz) w (c.args.toList.map ρ++cus).toArray ok1 (by simpa using hargs')
 rw [bX3 ho hc hcall e1]
 refine hcalls.mono fun e w' ⟨v,c',he,hp,hrd⟩=>⟨v,he,cx,⟨hp.wos,hp.tape,hp.output,hp.size,fun _ h=>h,fun _ h=>.inl h,fun b hb _=>hp.keep b hb fun ⟨id,o,h,_⟩=>no id o h,fun _ _=>⟨rfl,rfl⟩,
  ⟨fun id o h=>(no id o h).elim,fun id o b h=>(no id o h).elim,fun id id' o o' b _ h=>(no id o h).elim,fun b hb=>Nat.lt_of_lt_of_le (hok.phi b hb) hp.size⟩,fun id o b h=>(no id o h).elim⟩,c98 hfl hrd⟩
theorem dC2 {c:Go.Call} {f:Operand} {g:Nat} {caps:List AV} (ho:o.op=.call c) (hc:c.callee=.value f) (hf:ev f=.fn g caps) {ins0 ins':List AV} {gz upd:Os} {news:List Nat} {av:AV} (hspec:Spec P g [] ins' av upd news)
  (hz:aQ3 os (c.args.toList.map ev++caps) ins0 gz) (hle:aX7 ins0 ins') (hfl:bZ0 av=true) (hfu:bB9 upd) (hK:K av (gz.map (·.1)) news upd):Q8 P o ev os K:=by
 intro _
 obtain ⟨hcall,hnews,hspec⟩:=hspec
 refine ⟨av,gz,upd,news,fun cx w ρ hok hr=>?_,hz.sub,hnews,hK⟩
 have rf:Rd cx w (ρ f) (.fn g caps):=by
  have:=hr f (by simp [ho,Op.operands,Go.Call.operands,hc])
  rwa [hf] at this
 obtain ⟨cus,e1,hcus⟩:=rf.fn_
 have hargs:F5 cx w (c.args.toList.map ρ++cus) (c.args.toList.map ev++caps):=(bN5 fun x hx=>hr x (by simp [ho,Op.operands,Go.Call.operands,hc]; exact .inr (by simpa using hx))).append hcus
 have hargs':=bP7 hle (hz.run cx w _ hok hargs)
 have p1:=Post.freeze hok
 have no:∀(id:Nat) (o:Obj),lk ([]:Os) id=some o→False:=fun id o h=>(by cases h)
 have ok1:N9 (cx.fz gz) w []:=⟨fun id o h=>(no id o h).elim,fun id o b h=>(no id o h).elim,fun id id' o o' b _ h=>(no id o h).elim,p1.hok.phi⟩
 have hcalls:=hspec (cx.fz gz) w (c.args.toList.map ρ++cus).toArray ok1 (by simpa using hargs')
 rw [bX3 ho hc hcall e1]
 refine hcalls.mono fun e w' ⟨v,c',he,hp,hrd⟩=>⟨v,he,{ c' with Φ:=cx.Φ },⟨hp.wos,hp.tape,hp.output,hp.size,fun _ h=>h,fun _ h=>.inl h,fun b hb _=>hp.keep b hb fun ⟨id,o,h,_⟩=>no id o h,fun i hi=>hp.ctx i hi,
  ⟨fun id o h=>(hfu.at h).rep (hp.hok.rep id o h) rfl rfl,fun id o b h hf=>?_,fun id id' o o' b hne h h' hf=>?_,fun b hb=>Nat.lt_of_lt_of_le (hok.phi b hb) hp.size⟩,fun id o b h hf=>?_⟩,dB3 hfl hrd rfl⟩
 ·have hf':foot c' id o b:=by cases o<;>exact hf
  have:=hp.hok.lt id o b h hf'
  exact ⟨this.1,fun hb=>this.2 (hp.phi b (.inl hb))⟩
 ·have hf1:foot c' id o b:=by cases o<;>exact hf
  intro hf2
  have hf2':foot c' id' o' b:=by cases o'<;>exact hf2
  exact hp.hok.sep id id' o o' b hne h h' hf1 hf2'
 ·have hf':foot c' id o b:=by cases o<;>exact hf
  rcases hp.feet id o b h hf' with h1|⟨i,x,h1,_⟩
  ·exact .inl h1
  ·exact (no i x h1).elim
theorem dG7 {c:Go.Call} {f:Operand} {g:Nat} {caps:List AV} (ho:o.op=.call c) (hc:c.callee=.value f) (hf:ev f=.fn g caps) (h:l7 P g (c.args.toList.map ev++caps) os K):Q8 P o ev os K:=by
 rcases h.out with ⟨ins0,ins',gz,need,upd,news,av,hspec,hz,hle,hs,hd,hfr,hK⟩|⟨ins0,ins',gz,av,hspec,hz,hle,hfl,hK⟩|⟨ins0,ins',gz,upd,news,av,hspec,hz,hle,hfl,hfu,hK⟩
 case inr.inl=>exact dE7 ho hc hf hspec hz hle hfl hK
 case inr.inr=>exact dC2 ho hc hf hspec hz hle hfl hfu hK
 intro _
 obtain ⟨hcall,hnews,hspec⟩:=hspec
 have hsub:=bC7 hs
 obtain ⟨s1,s2,s3⟩:=aU4 hz.sub hsub
 have hnone:∀id x,lk need id=some x→lk gz id=none:=fun id x h=>by
  have:=List.all_eq_true.1 hd _ (Y8 h)
  simpa using this
 refine ⟨av,gz++need,upd++I7 gz,news,fun cx w ρ hok hr=>?_,s1,fun id hid=>?_,hK⟩
 ·have rf:Rd cx w (ρ f) (.fn g caps):=by
   have:=hr f (by simp [ho,Op.operands,Go.Call.operands,hc])
   rwa [hf] at this
  obtain ⟨cus,e1,hcus⟩:=rf.fn_
  have hargs:F5 cx w (c.args.toList.map ρ++cus) (c.args.toList.map ev++caps):=(bN5 fun x hx=>hr x (by simp [ho,Op.operands,Go.Call.operands,hc]; exact .inr (by simpa using hx))).append hcus
  have hargs':=bP7 hle (hz.run cx w _ (hok.sub s3) hargs)
  have p1:=(Post.freeze (hok.sub s3)).widen s3
  have ok1:N9 (cx.fz gz) w need:=by
   have hfrm:=hok.frame (fun _ _ h=>h) p1 (fun _ h=>(by cases h)) (fun _ _ _ _ _ h=>(by cases h))
   refine hfrm.sub fun id x hl=>?_
   have hg:lk (I7 gz) id=none:=by
    have:=aV5 gz id
    rw [hnone id x hl] at this
    cases hq:lk (I7 gz) id with
    |none=>rfl
    |some y=>rw [hq] at this; cases this
   rw [J9,hg]
   simpa using s2 id x hl
  have hcalls:=hspec (cx.fz gz) w (c.args.toList.map ρ++cus).toArray ok1 (by simpa using hargs')
  rw [bX3 ho hc hcall e1]
  refine hcalls.mono fun e w' ⟨v,c',he,hp,hrd⟩=>⟨v,he,c',?_,hrd⟩
  have:=Post.trans hok p1 hp (fun _ h=>(by cases h)) hnews (fun id x hl=>by
   have hg:lk (I7 gz) id=none:=by
    have:=aV5 gz id
    rw [hnone id x hl] at this
    cases hq:lk (I7 gz) id with
    |none=>rfl
    |some y=>rw [hq] at this; cases this
   rw [J9,hg]
   simpa using s2 id x hl) (fun _ _ _ _ _ h=>(by cases h)) (fun id x hl hu y hy=>by
   rw [J9] at hl
   cases hg:lk (I7 gz) id with
   |some z =>
    rw [hg] at hl
    simp at hl
    subst hl
    rw [aX9 hg]
    simp [Obj.ids]
   |none =>
    rw [hg] at hl
    simp at hl
    rw [J9] at hl
    cases hgz:lk gz id with
    |some z =>
     rw [hgz] at hl
     simp at hl
     subst hl
     rw [hz.ids id z hgz]
     simp
    |none =>
     rw [hgz] at hl
     simp at hl
     exact aN2 (List.all_eq_true.1 hfr _ (Y8 hl)) y hy)
  simpa using this
 ·rw [J9]
  have:=hnews id hid
  cases hu:lk upd id with
  |none=>rw [hu] at this; cases this
  |some x=>rfl
def cD4 (os:Os):AV→Bool
 |.own id=>match lk os id with
  |some (.deep _ _ _ _ _ _)=>true
  |_=>false
 |.ep id _ _ _=>match lk os id with
  |some (.deep _ _ _ _ _ _)=>true
  |_=>false
 |_=>false
def dN0 (tab:O8) (t:TypeId):Bool:=match lk tab t with
 |some ti=>match lk tab ti.elem with
  |some te=>Nat.beq te.kind 1 && Nat.beq te.len 1
  |none=>false
 |none=>false
theorem bR2 {b:Bool} {X Y Z:Prop} (h:bif b then X else Y) (hx:b=true→X→Z) (hy:b=false→Y→Z):Z:=by
 cases b
 ·exact hy rfl h
 ·exact hx rfl h
def dC8 (tab:O8) (t:TypeId):Bool:=match lk tab t with
 |some ti=>Nat.beq ti.kind 2
 |none=>false
def dM4 (tab:O8) (t:TypeId) (x:AV):Bool :=
 match lk tab t with
 |some ti=>match x with
  |.str _=>Nat.beq ti.kind 4
  |.mp _=>Nat.beq ti.kind 8
  |_=>Nat.beq ti.kind 2
 |none=>false
def cK5 (P:Program) (tab:O8) (d:Nat) (c:Go.Call) (ev:Ev) (os:Os) (K:Kt):Prop :=
 match c.callee with
 |.builtin b=>match b,c.args.toList,c.argTypes.toList with
  |.len,[x],[t]=>bif cD4 os (ev x) then (match dC8 tab t with
    |true=>cP1 os (ev x) K
    |false=>False) else match dM4 tab t (ev x) with
   |true=>cV5 os (ev x) K
   |false=>False
  |.append,[x,y],[t,t']=>bif cD4 os (ev x) then bW4 tab os d t t' (ev x) (ev y) K else b56 tab os d t t' (ev x) (ev y) K
  |.min,[x,y],_=>cX6 (ev x) (ev y) K
  |.max,[x,y],_=>cX0 (ev x) (ev y) K
  |_,_,_=>False
 |.value f=>match ev f with
  |.fn g caps=>l7 P g (c.args.toList.map ev++caps) os K
  |_=>False
 |.invoke _ _=>False
theorem c55 (hT:M3 P tab) (d:Nat) {c:Go.Call} (ho:o.op=.call c) (h:cK5 P tab d c ev os K):Q8 P o ev os K:=by
 unfold cK5 at h
 obtain ⟨callee,args,argTypes⟩:=c
 split at h
 ·rename_i b hb
  simp only at hb
  subst hb
  split at h
  ·rename_i x t ha ht
   have ha':args=#[x]:=by simpa using congrArg List.toArray ha
   have ht':argTypes=#[t]:=by simpa using congrArg List.toArray ht
   subst ha' ht'
   refine bR2 h (fun _ h=>?_) fun _ h=>?_
   ·split at h
    ·rename_i hk
     unfold dC8 at hk
     split at hk
     ·rename_i ti hti
      exact dF0 hT hti (Nat.eq_of_beq_eq_true hk) ho h
     ·cases hk
    ·exact h.elim
   split at h
   ·rename_i hl
    refine dM3 hT ho ?_ h
    unfold dM4 at hl
    split at hl
    ·rename_i ti hti
     rw [hti]
     split at hl
     ·rename_i s hx
      rw [hx]
      exact Nat.eq_of_beq_eq_true hl
     ·rename_i s hx
      rw [hx]
      exact Nat.eq_of_beq_eq_true hl
     ·rename_i hne hne2
      have:=Nat.eq_of_beq_eq_true hl
      cases hx:ev x<;>first|exact this|exact absurd hx (hne _)|exact absurd hx (hne2 _)
    ·cases hl
   ·exact h.elim
  ·rename_i x y t t' ha ht
   have ha':args=#[x,y]:=by simpa using congrArg List.toArray ha
   have ht':argTypes=#[t,t']:=by simpa using congrArg List.toArray ht
   subst ha' ht'
   exact bR2 h (fun _ h=>cT4 hT d ho h) fun _ h=>cY7 hT d ho h
  ·rename_i x y ha
   have ha':args=#[x,y]:=by simpa using congrArg List.toArray ha
   subst ha'
   exact dK8 ho h
  ·rename_i x y ha
   have ha':args=#[x,y]:=by simpa using congrArg List.toArray ha
   subst ha'
   exact dK3 ho h
  ·exact h.elim
 ·rename_i f hf
  split at h
  ·rename_i g caps hg
   exact dG7 ho hf hg h
  ·exact h.elim
 ·exact h.elim
def aS7 (P:Program) (tab:O8) (et:aH5) (d:Nat) (op:Op) (ev:Ev) (os:Os) (K:Kt):Prop :=
 match op with
 |.move x=>K (ev x) [] [] []
 |.assign x=>K (ev x) [] [] []
 |.pick c a b=>cO9 ev c a b K
 |.alloc t=>cC8 tab d t K
 |.box t x=>cX8 d t (ev x) K
 |.build t ps=>cB7 tab ev t ps K
 |.buildSlice t n ps=>bif dN0 tab t then (b46 tab os ev d t n ps K∨a06 tab os ev d t n ps K) else a06 tab os ev d t n ps K
 |.load t x=>bif cD4 os (ev x) then cD3 tab os t (ev x) K else cK3 tab os t (ev x) (c77 os K)
 |.store t x y=>bif cD4 os (ev x) then b36 tab os t (ev x) (ev y) K else b51 tab os t (ev x) (ev y) K
 |.nilCheck x=>cX1 (ev x) K
 |.binOp op t x y _=>cW7 tab et op t (ev x) (ev y) (fun av=>K av [] [] [])
 |.unOp op _ x=>c97 op (ev x) K
 |.convert s t x=>cM3 tab s t (ev x) K
 |.makeFunc fn f c=>cJ6 ev fn f c K
 |.makeSlice t x y=>cJ4 tab d t (ev x) (ev y) K
 |.slice t x lo hi none=>bif cD4 os (ev x) then b58 tab os d t (ev x) (V9 ev lo) (V9 ev hi) K else cD5 tab os d t (ev x) (V9 ev lo) (V9 ev hi) K
 |.fieldAddr s x f=>bM6 tab s (ev x) f K
 |.field s x f=>cA3 tab s (ev x) f K
 |.indexAddr t x i=>bif cD4 os (ev x) then bH9 tab os t (ev x) (ev i) K else bL9 tab os t (ev x) (ev i) K
 |.index t x i=>cB8 tab t (ev x) (ev i) K
 |.extract x i=>bW0 (ev x) i K
 |.makeMap _ none=>cF8 d K
 |.lookup t x k false=>b57 tab os t (ev x) (ev k) K
 |.mapUpdate t x k v=>bM9 tab os t (ev x) (ev k) (ev v) K
 |.call c=>cK5 P tab d c ev os K
 |_=>False
theorem step_ok (hT:M3 P tab) (hE:aF8 P et) (d:Nat) (h:aS7 P tab et d o.op ev os K):Q8 P o ev os K:=by
 cases ho:o.op<;>rw [ho] at h<;>simp only [aS7] at h
 case move x=>exact cQ4 (.inl ho) h
 case assign x=>exact cQ4 (.inr ho) h
 case pick c a b=>exact dH6 ho h
 case alloc t=>exact dA8 hT d ho h
 case box t x=>exact dJ6 d ho h
 case build t ps=>exact c78 hT ho h
 case buildSlice t n ps=>exact bR2 h (fun _ h=>h.elim (fun h=>cY6 hT d ho h) fun h=>bS1 hT d ho h) fun _ h=>bS1 hT d ho h
 case load t x=>exact bR2 h (fun _ h=>dC1 hT ho h) fun _ h=>(dH5 hT ho h).res
 case store t x y=>exact bR2 h (fun _ h=>c02 hT ho h) fun _ h=>cY2 hT ho h
 case nilCheck x=>exact dK2 ho h
 case binOp op t x y ty=>exact dL9 hT hE ho h
 case unOp op t x=>exact dN6 ho h
 case convert s t x=>exact dE8 hT ho h
 case makeFunc fn f c=>exact dF9 ho h
 case makeSlice t x y=>exact dH3 hT d ho h
 case slice t x lo hi mx=>cases mx with
  |none=>exact bR2 h (fun _ h=>c25 hT d ho h) fun _ h=>c54 hT d ho h
  |some m=>exact h.elim
 case fieldAddr s x f=>exact cL3 hT ho h
 case field s x f=>exact c96 hT ho h
 case indexAddr t x i=>exact bR2 h (fun _ h=>cH3 hT ho h) fun _ h=>cP4 hT ho h
 case index t x i=>exact c89 hT ho h
 case extract x i=>exact cU2 ho h
 case makeMap t r=>cases r with
  |none=>exact cV6 d ho h
  |some r=>exact h.elim
 case lookup t x k b=>cases b with
  |false=>exact cX9 hT ho h
  |true=>exact h.elim
 case mapUpdate t x k v=>exact cJ1 hT ho h
 case call c=>exact c55 hT d ho h
end
end Go.Proofs.Ytkecefjmcimemaa
