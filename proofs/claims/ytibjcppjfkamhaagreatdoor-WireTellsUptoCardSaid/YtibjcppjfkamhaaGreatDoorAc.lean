/- THE WALK OVER READINGS: a region's operations in a row, and what must be shown of them. No program in sight; types are told by the table. -/
import Derived.Test.YtibjcppjfkamhaaGreatDoorAr
namespace Go.Proofs.YtibjcppjfkamhaaGreatDoor
open Go.RowKit
set_option linter.unusedVariables false
def top : Nat:=1000
def aR0 : Os→Os→Prop
 |[],_=>True
 |(k,o)::r,os=>lk os k=some o∧aR0 r os
theorem aR9 {os:Os}:∀{need:Os},aR0 need os→∀id o,lk need id=some o→lk os id=some o
 |(k,x)::r,h,id,o,hl=>by
  rw [q8] at hl
  split at hl
  ·rename_i e
   subst e
   cases hl
   exact h.1
  ·exact aR9 h.2 id o hl
def aG8 : AV→Bool
 |.int _=>true
 |.ik _ _=>true
 |.bool _=>true
 |.str _=>true
 |.any=>true
 |.con _=>true
 |.ifc _=>true
 |_=>false
def bI0 : AV→Bool
 |.tup l=>l.all aG8
 |.agg l=>l.all aG8
 |a=>aG8 a
theorem bA6 {c c':Ctx} {w w':World} {v:Value} {a:AV} (h:aG8 a=true) (hr:Rd c w v a):Rd c' w' v a:=by
 cases a<;>first|cases h|skip
 ·exact Rd.any_ v
 ·obtain ⟨rfl,h⟩:=hr.int_; exact .fz (.int h)
 ·rw [hr.ik_]; exact .fz (.ik _ _)
 ·rw [hr.bool_]; exact .fz (.bool _)
 ·obtain ⟨rfl,h⟩:=hr.str_; exact .fz (.str h)
 ·rcases hr.ifc_ with ⟨rfl,rfl⟩|⟨t,p,rfl,rfl⟩
  ·exact .fz .ifcn
  ·exact .fz (.ifcs t p)
 ·rw [hr.con_]; exact .fz (.con _)
theorem aY7 {c c':Ctx} {w w':World}:∀{us:List Value} {as:List AV},as.all aG8=true→y8 c w us as→y8 c' w' us as
 |_,_,_,.nil=>.nil
 |_,_,h,.cons x t=>by
  simp only [List.all_cons,Bool.and_eq_true] at h
  exact .cons (bA6 h.1 x) (aY7 h.2 t)
theorem cL0 {c c':Ctx} {w w':World} {v:Value} {a:AV} (h:bI0 a=true) (hr:Rd c w v a):Rd c' w' v a:=by
 unfold bI0 at h
 split at h
 ·obtain ⟨us,rfl,hu⟩:=hr.tup_; exact .tup (aY7 h hu)
 ·obtain ⟨us,rfl,hu⟩:=hr.agg_; exact .agg (aY7 h hu)
 ·exact bA6 h hr
def bZ6 : Obj→Prop
 |.gone=>True
 |.row _ ls _=>∀cs∈ls,cs.all aG8=true
 |.deep _ _ cols l _ _=>∀cs∈l,∀(off:Nat) (a:AV),cs[off]?=some a→match lk cols off with
  |none=>aG8 a=true
  |some _=>∃isz ls,a=.sl isz ls∧∀cs'∈ls,cs'.all aG8=true
 |_=>False
def a13 : Os→Prop
 |[]=>True
 |p::r=>bZ6 p.2∧a13 r
theorem a13.at : ∀{l:Os},a13 l→∀{id:Nat} {o:Obj},lk l id=some o→bZ6 o
 |(k,x)::r,h,id,o,hl=>by
  rw [q8] at hl
  split at hl
  ·cases hl; exact h.1
  ·exact a13.at h.2 hl
def bZ5 : AV→Bool
 |.tup l=>l.all fun a=>match a with|.own _=>true|.agg cs=>cs.all aG8|a=>aG8 a
 |.own _=>true
 |.agg cs=>cs.all aG8
 |a=>aG8 a
theorem b55 {Φ Φ':Nat→Prop} {w w':World} {v:Value} {a:AV} (h:aG8 a=true) (hr:Rf Φ w v a):Rf Φ' w' v a:=by
 cases hr<;>first|cases h|skip
 ·exact .any _
 ·exact .int (by assumption)
 ·exact .ik _ _
 ·exact .bool _
 ·exact .str (by assumption)
 ·exact .ifcn
 ·exact .ifcs _ _
 ·exact .con _
theorem bD5 {Φ Φ':Nat→Prop} {w w':World}:∀{us:List Value} {as:List AV},as.all aG8=true→D7 Φ w us as→D7 Φ' w' us as
 |_,_,_,.nil=>.nil
 |_,_,h,.cons x t=>by
  simp only [List.all_cons,Bool.and_eq_true] at h
  exact .cons (b55 h.1 x) (bD5 h.2 t)
theorem bZ6.rep {c c':Ctx} {w:World} {id:Nat} {o:Obj} (hf:bZ6 o) (h:aE9 c w id o) (h1:c'.hd=c.hd) (h2:c'.μ=c.μ):aE9 c' w id o:=by
 cases o with
 |gone=>trivial
 |row sz ls e =>
  obtain ⟨css,p1,p2,p3⟩:=h
  exact ⟨css,by rw [h1]; exact p1,p2,fun i us cs hu hc=>bD5 (hf cs (List.mem_of_getElem? hc)) (p3 i us cs hu hc)⟩
 |deep sz e cols l hs sh =>
  obtain ⟨css,p1,p2,p3,p4⟩:=h
  refine ⟨css,by rw [h1]; exact p1,⟨p2.len,fun i us cs hu hc=>⟨(p2.cell i us cs hu hc).1,fun off u a b1 b2 b3=>?_⟩,fun i us cs off isz ie u hu hc b1 b2 b3=>?_,fun i off x us u b1 b2 b3=>by rw [h1]; exact p2.hole i off x us u b1 b2 b3,p2.apart⟩,by rw [h1]; exact p3,by rw [h1]; exact p4⟩
  ·have:=hf cs (List.mem_of_getElem? hc) off a b2
   rw [b3] at this
   exact b55 this ((p2.cell i us cs hu hc).2 off u a b1 b2 b3)
  ·obtain ⟨ls,q1,css',q2,q3,q4⟩:=p2.inner i us cs off isz ie u hu hc b1 b2 b3
   have:=hf cs (List.mem_of_getElem? hc) off _ q1
   rw [b1] at this
   obtain ⟨isz',ls',e1,e2⟩:=this
   cases e1
   exact ⟨ls,q1,css',q2,q3,fun k us' cs' h3 h4=>bD5 (e2 cs' (List.mem_of_getElem? h4)) (q4 k us' cs' h3 h4)⟩
 |_=>exact hf.elim
theorem cN6 {c c':Ctx} {w:World} {v:Value} {a:AV} (hf:bZ5 a=true) (h:Rd c w v a) (h1:c'.hd=c.hd):Rd c' w v a:=by
 have own:∀{v:Value} {id:Nat},Rd c w v (.own id)→Rd c' w v (.own id):=fun {v id} h=>by
  obtain ⟨A,n,cap,e1,e2,e3,e4⟩:=h.own_
  rw [e1]
  exact .own (by rw [h1]; exact e2) e3 e4
 have agg:∀{v:Value} {cs:List AV},cs.all aG8=true→Rd c w v (.agg cs)→Rd c' w v (.agg cs):=fun {v cs} hf h=>by
  obtain ⟨us,rfl,hu⟩:=h.agg_
  exact .agg (aY7 hf hu)
 unfold bZ5 at hf
 split at hf
 ·rename_i l
  obtain ⟨us,rfl,hu⟩:=h.tup_
  refine .tup ?_
  clear h
  induction l generalizing us with
  |nil=>cases hu; exact .nil
  |cons a l ih =>
   cases hu with|cons h t =>
   simp only [List.all_cons,Bool.and_eq_true] at hf
   refine .cons ?_ (ih hf.2 _ t)
   cases a<;>first|exact own h|exact agg hf.1 h|exact bA6 hf.1 h
 ·exact own h
 ·exact agg hf h
 ·exact bA6 hf h
structure l6 (P:Program) (f:Nat) (ins:List AV) (os:Os) (K:Kt):Prop where
 out:(∃(ins0 ins':List AV) (g need upd:Os) (news:List Nat) (av:AV),Spec P f need ins' av upd news∧aI4 os ins ins0 g∧aL2 ins0 ins'∧aR0 need os∧(need.all fun p=>(lk g p.1).isNone)=true∧(need.all fun p=>aK6 news p.2.ids)=true ∧
  K av ((g++need).map (·.1)) news (upd++H6 g)) ∨
 (∃(ins0 ins':List AV) (g:Os) (av:AV),Spec P f [] ins' av [] []∧aJ5 os ins ins0 g∧aL2 ins0 ins'∧bI0 av=true∧K av (g.map (·.1)) [] []) ∨
 (∃(ins0 ins':List AV) (g upd:Os) (news:List Nat) (av:AV),Spec P f [] ins' av upd news∧aJ5 os ins ins0 g∧aL2 ins0 ins'∧bZ5 av=true∧a13 upd∧K av (g.map (·.1)) news upd)
section
variable {P:Program} {tab:J7} {et:aF5} {o:Oper} {ev:Ev} {os:Os} {K:Kt}
theorem l6.fz {f:Nat} {ins ins':List AV} {need upd:Os} {news:List Nat} {av:AV} (h:Spec P f need ins' av upd news) (hle:aL2 (N7 os ins).1 ins') (hs:aR0 need os) (hd:(need.all fun p=>(lk (N7 os ins).2 p.1).isNone)=true)
  (hf:(need.all fun p=>aK6 news p.2.ids)=true) (hK:K av (((N7 os ins).2++need).map (·.1)) news (upd++H6 (N7 os ins).2)):l6 P f ins os K :=
 ⟨.inl ⟨_,ins',_,need,upd,news,av,h,bW7 ins,hle,hs,hd,hf,hK⟩⟩
theorem l6.as {f:Nat} {ins ins':List AV} {need upd:Os} {news:List Nat} {av:AV} (h:Spec P f need ins' av upd news) (hle:aL2 ins ins') (hs:aR0 need os)
  (hf:(need.all fun p=>aK6 news p.2.ids)=true) (hK:K av (need.map (·.1)) news upd):l6 P f ins os K :=
 ⟨.inl ⟨ins,ins',[],need,upd,news,av,h,⟨fun _ _ h=>(by cases h),fun _ _ h=>(by cases h),fun c w us _ h=>y8.mono (c:=c) (c':=c.fz []) (fun _ _=>rfl) (fun _ h=>Or.inl h) (fun _ _=>⟨rfl,rfl⟩) h⟩,hle,hs,List.all_eq_true.2 fun _ _=>rfl,hf,by simpa [H6] using hK⟩⟩
theorem l6.lend {f:Nat} {ins ins':List AV} {av:AV} (h:Spec P f [] ins' av [] []) (hle:aL2 (N7 os ins).1 ins') (hf:bI0 av=true) (hK:K av ((N7 os ins).2.map (·.1)) [] []):l6 P f ins os K :=
 ⟨.inr (.inl ⟨_,ins',_,av,h,(bW7 ins).lend,hle,hf,hK⟩)⟩
theorem bE3 {c:Go.Call} {f:Operand} {g:Nat} {cus:List Value} {ρ:Operand→Value} {w:World} (ho:o.op=.call c) (hc:c.callee=.value f) (hcall:callable P g=true) (e1:ρ f=.func (.func g) #[] cus.toArray) :
  (execOp ρ o).run P w=.ok (.enter g (c.args.toList.map ρ++cus).toArray) w:=by
 unfold callable at hcall
 split at hcall
 ·rename_i fn hfn
  simp only [Bool.and_eq_true,Bool.not_eq_true',beq_eq_false_iff_ne,ne_eq] at hcall
  have hbody:fn.body.isNone=false:=by cases hb:fn.body<;>simp_all
  have hm:c.args.map ρ++cus.toArray=(c.args.toList.map ρ++cus).toArray:=by
   apply Array.toList_inj.1
   simp
  simp [execOp,ho,resolve,hc,e1,Deferred.ofValue,invoke,callFunc,hfn,hcall.2,hm]
  intro hbn
  rw [hbn] at hbody
  cases hbody
 ·cases hcall
theorem cT8 {c:Go.Call} {f:Operand} {g:Nat} {caps:List AV} (ho:o.op=.call c) (hc:c.callee=.value f) (hf:ev f=.fn g caps) {ins0 ins':List AV} {gz:Os} {av:AV} (hspec:Spec P g [] ins' av [] [])
  (hz:aJ5 os (c.args.toList.map ev++caps) ins0 gz) (hle:aL2 ins0 ins') (hfl:bI0 av=true) (hK:K av (gz.map (·.1)) [] []):M9 P o ev os K:=by
 intro _
 obtain ⟨hcall,hnews,hspec⟩:=hspec
 refine ⟨av,gz,[],[],fun cx w ρ hok hr=>?_,hz.sub,fun id hid=>(by cases hid),hK⟩
 have rf:Rd cx w (ρ f) (.fn g caps):=by
  have:=hr f (by simp [ho,Op.operands,Go.Call.operands,hc])
  rwa [hf] at this
 obtain ⟨cus,e1,hcus⟩:=rf.fn_
 have hargs:y8 cx w (c.args.toList.map ρ++cus) (c.args.toList.map ev++caps):=(a04 fun x hx=>hr x (by simp [ho,Op.operands,Go.Call.operands,hc]; exact .inr (by simpa using hx))).append hcus
 have hargs':=aY2 hle (hz.run cx w _ hok hargs)
 have p1:=Post.freeze hok
 have no:∀(id:Nat) (o:Obj),lk ([]:Os) id=some o→False:=fun id o h=>(by cases h)
 have ok1:K6 (cx.fz gz) w []:=⟨fun id o h=>(no id o h).elim,fun id o b h=>(no id o h).elim,fun id id' o o' b _ h=>(no id o h).elim,p1.hok.phi⟩
 have hcalls:=hspec (cx.fz gz) w (c.args.toList.map ρ++cus).toArray ok1 (by simpa using hargs')
 rw [bE3 ho hc hcall e1]
 refine hcalls.mono fun e w' ⟨v,c',he,hp,hrd⟩=>⟨v,he,cx,⟨hp.wos,hp.tape,hp.output,hp.size,fun _ h=>h,fun _ h=>.inl h,fun b hb _=>hp.keep b hb fun ⟨id,o,h,_⟩=>no id o h,fun _ _=>⟨rfl,rfl⟩,
  ⟨fun id o h=>(no id o h).elim,fun id o b h=>(no id o h).elim,fun id id' o o' b _ h=>(no id o h).elim,fun b hb=>Nat.lt_of_lt_of_le (hok.phi b hb) hp.size⟩,fun id o b h=>(no id o h).elim⟩,cL0 hfl hrd⟩
theorem cM0 {c:Go.Call} {f:Operand} {g:Nat} {caps:List AV} (ho:o.op=.call c) (hc:c.callee=.value f) (hf:ev f=.fn g caps) {ins0 ins':List AV} {gz upd:Os} {news:List Nat} {av:AV} (hspec:Spec P g [] ins' av upd news)
  (hz:aJ5 os (c.args.toList.map ev++caps) ins0 gz) (hle:aL2 ins0 ins') (hfl:bZ5 av=true) (hfu:a13 upd) (hK:K av (gz.map (·.1)) news upd):M9 P o ev os K:=by
 intro _
 obtain ⟨hcall,hnews,hspec⟩:=hspec
 refine ⟨av,gz,upd,news,fun cx w ρ hok hr=>?_,hz.sub,hnews,hK⟩
 have rf:Rd cx w (ρ f) (.fn g caps):=by
  have:=hr f (by simp [ho,Op.operands,Go.Call.operands,hc])
  rwa [hf] at this
 obtain ⟨cus,e1,hcus⟩:=rf.fn_
 have hargs:y8 cx w (c.args.toList.map ρ++cus) (c.args.toList.map ev++caps):=(a04 fun x hx=>hr x (by simp [ho,Op.operands,Go.Call.operands,hc]; exact .inr (by simpa using hx))).append hcus
 have hargs':=aY2 hle (hz.run cx w _ hok hargs)
 have p1:=Post.freeze hok
 have no:∀(id:Nat) (o:Obj),lk ([]:Os) id=some o→False:=fun id o h=>(by cases h)
 have ok1:K6 (cx.fz gz) w []:=⟨fun id o h=>(no id o h).elim,fun id o b h=>(no id o h).elim,fun id id' o o' b _ h=>(no id o h).elim,p1.hok.phi⟩
 have hcalls:=hspec (cx.fz gz) w (c.args.toList.map ρ++cus).toArray ok1 (by simpa using hargs')
 rw [bE3 ho hc hcall e1]
 refine hcalls.mono fun e w' ⟨v,c',he,hp,hrd⟩=>⟨v,he,{ c' with Φ:=cx.Φ },⟨hp.wos,hp.tape,hp.output,hp.size,fun _ h=>h,fun _ h=>.inl h,fun b hb _=>hp.keep b hb fun ⟨id,o,h,_⟩=>no id o h,fun i hi=>hp.ctx i hi,
  ⟨fun id o h=>(hfu.at h).rep (hp.hok.rep id o h) rfl rfl,fun id o b h hf=>?_,fun id id' o o' b hne h h' hf=>?_,fun b hb=>Nat.lt_of_lt_of_le (hok.phi b hb) hp.size⟩,fun id o b h hf=>?_⟩,cN6 hfl hrd rfl⟩
 ·have hf':foot c' id o b:=by cases o<;>exact hf
  have:=hp.hok.lt id o b h hf'
  exact ⟨this.1,fun hb=>this.2 (hp.phi b (.inl hb))⟩
 ·have hf1:foot c' id o b:=by cases o<;>exact hf
  intro hf2
  have hf2':foot c' id' o' b:=by cases o'<;>exact hf2
  exact hp.hok.sep id id' o o' b hne h h' hf1 hf2'
 ·have hf':foot c' id o b:=by cases o<;>exact hf
  rcases hp.feet id o b h hf' with h1|⟨i,x,h1,_⟩
  ·exact .inl h1
  ·exact (no i x h1).elim
theorem cQ1 {c:Go.Call} {f:Operand} {g:Nat} {caps:List AV} (ho:o.op=.call c) (hc:c.callee=.value f) (hf:ev f=.fn g caps) (h:l6 P g (c.args.toList.map ev++caps) os K):M9 P o ev os K:=by
 rcases h.out with ⟨ins0,ins',gz,need,upd,news,av,hspec,hz,hle,hs,hd,hfr,hK⟩|⟨ins0,ins',gz,av,hspec,hz,hle,hfl,hK⟩|⟨ins0,ins',gz,upd,news,av,hspec,hz,hle,hfl,hfu,hK⟩
 case inr.inl=>exact cT8 ho hc hf hspec hz hle hfl hK
 case inr.inr=>exact cM0 ho hc hf hspec hz hle hfl hfu hK
 intro _
 obtain ⟨hcall,hnews,hspec⟩:=hspec
 have hsub:=aR9 hs
 obtain ⟨s1,s2,s3⟩:=aO9 hz.sub hsub
 have hnone:∀id x,lk need id=some x→lk gz id=none:=fun id x h=>by
  have:=List.all_eq_true.1 hd _ (T9 h)
  simpa using this
 refine ⟨av,gz++need,upd++H6 gz,news,fun cx w ρ hok hr=>?_,s1,fun id hid=>?_,hK⟩
 ·have rf:Rd cx w (ρ f) (.fn g caps):=by
   have:=hr f (by simp [ho,Op.operands,Go.Call.operands,hc])
   rwa [hf] at this
  obtain ⟨cus,e1,hcus⟩:=rf.fn_
  have hargs:y8 cx w (c.args.toList.map ρ++cus) (c.args.toList.map ev++caps):=(a04 fun x hx=>hr x (by simp [ho,Op.operands,Go.Call.operands,hc]; exact .inr (by simpa using hx))).append hcus
  have hargs':=aY2 hle (hz.run cx w _ (hok.sub s3) hargs)
  have p1:=(Post.freeze (hok.sub s3)).widen s3
  have ok1:K6 (cx.fz gz) w need:=by
   have hfrm:=hok.frame (fun _ _ h=>h) p1 (fun _ h=>(by cases h)) (fun _ _ _ _ _ h=>(by cases h))
   refine hfrm.sub fun id x hl=>?_
   have hg:lk (H6 gz) id=none:=by
    have:=aL6 gz id
    rw [hnone id x hl] at this
    cases hq:lk (H6 gz) id with
    |none=>rfl
    |some y=>rw [hq] at this; cases this
   rw [H5,hg]
   simpa using s2 id x hl
  have hcalls:=hspec (cx.fz gz) w (c.args.toList.map ρ++cus).toArray ok1 (by simpa using hargs')
  rw [bE3 ho hc hcall e1]
  refine hcalls.mono fun e w' ⟨v,c',he,hp,hrd⟩=>⟨v,he,c',?_,hrd⟩
  have:=Post.trans hok p1 hp (fun _ h=>(by cases h)) hnews (fun id x hl=>by
   have hg:lk (H6 gz) id=none:=by
    have:=aL6 gz id
    rw [hnone id x hl] at this
    cases hq:lk (H6 gz) id with
    |none=>rfl
    |some y=>rw [hq] at this; cases this
   rw [H5,hg]
   simpa using s2 id x hl) (fun _ _ _ _ _ h=>(by cases h)) (fun id x hl hu y hy=>by
   rw [H5] at hl
   cases hg:lk (H6 gz) id with
   |some z =>
    rw [hg] at hl
    simp at hl
    subst hl
    rw [aM9 hg]
    simp [Obj.ids]
   |none =>
    rw [hg] at hl
    simp at hl
    rw [H5] at hl
    cases hgz:lk gz id with
    |some z =>
     rw [hgz] at hl
     simp at hl
     subst hl
     rw [hz.ids id z hgz]
     simp
    |none =>
     rw [hgz] at hl
     simp at hl
     exact aG2 (List.all_eq_true.1 hfr _ (T9 hl)) y hy)
  simpa using this
 ·rw [H5]
  have:=hnews id hid
  cases hu:lk upd id with
  |none=>rw [hu] at this; cases this
  |some x=>rfl
def bQ7 (os:Os):AV→Bool
 |.own id=>match lk os id with
  |some (.deep _ _ _ _ _ _)=>true
  |_=>false
 |.ep id _ _ _=>match lk os id with
  |some (.deep _ _ _ _ _ _)=>true
  |_=>false
 |_=>false
def cX6 (tab:J7) (t:TypeId):Bool:=match lk tab t with
 |some ti=>match lk tab ti.elem with
  |some te=>Nat.beq te.kind 1 && Nat.beq te.len 1
  |none=>false
 |none=>false
theorem aU7 {b:Bool} {X Y Z:Prop} (h:bif b then X else Y) (hx:b=true→X→Z) (hy:b=false→Y→Z):Z:=by
 cases b
 ·exact hy rfl h
 ·exact hx rfl h
def cO7 (tab:J7) (t:TypeId):Bool:=match lk tab t with
 |some ti=>Nat.beq ti.kind 2
 |none=>false
def cU0 (tab:J7) (t:TypeId) (x:AV):Bool :=
 match lk tab t with
 |some ti=>match x with
  |.str _=>Nat.beq ti.kind 4
  |.mp _=>Nat.beq ti.kind 8
  |_=>Nat.beq ti.kind 2
 |none=>false
def b43 (P:Program) (tab:J7) (d:Nat) (c:Go.Call) (ev:Ev) (os:Os) (K:Kt):Prop :=
 match c.callee with
 |.builtin b=>match b,c.args.toList,c.argTypes.toList with
  |.len,[x],[t]=>bif bQ7 os (ev x) then (match cO7 tab t with
    |true=>b33 os (ev x) K
    |false=>False) else match cU0 tab t (ev x) with
   |true=>cC4 os (ev x) K
   |false=>False
  |.append,[x,y],[t,t']=>bif bQ7 os (ev x) then bG5 tab os d t t' (ev x) (ev y) K else bif cU6 (ev y) then bG1 tab os d t t' (ev x) (ev y) K else bK7 tab os d t t' (ev x) (ev y) K
  |.min,[x,y],_=>cC0 (ev x) (ev y) K
  |.max,[x,y],_=>cA4 (ev x) (ev y) K
  |_,_,_=>False
 |.value f=>match ev f with
  |.fn g caps=>l6 P g (c.args.toList.map ev++caps) os K
  |_=>False
 |.invoke _ _=>False
theorem cO0 (hT:I6 P tab) (d:Nat) {c:Go.Call} (ho:o.op=.call c) (h:b43 P tab d c ev os K):M9 P o ev os K:=by
 unfold b43 at h
 obtain ⟨callee,args,argTypes⟩:=c
 split at h
 ·rename_i b hb
  simp only at hb
  subst hb
  split at h
  ·rename_i x t ha ht
   have ha':args=#[x]:=by simpa using congrArg List.toArray ha
   have ht':argTypes=#[t]:=by simpa using congrArg List.toArray ht
   subst ha' ht'
   refine aU7 h (fun _ h=>?_) fun _ h=>?_
   ·split at h
    ·rename_i hk
     unfold cO7 at hk
     split at hk
     ·rename_i ti hti
      exact cP5 hT hti (Nat.eq_of_beq_eq_true hk) ho h
     ·cases hk
    ·exact h.elim
   split at h
   ·rename_i hl
    refine cV6 hT ho ?_ h
    unfold cU0 at hl
    split at hl
    ·rename_i ti hti
     rw [hti]
     split at hl
     ·rename_i s hx
      rw [hx]
      exact Nat.eq_of_beq_eq_true hl
     ·rename_i s hx
      rw [hx]
      exact Nat.eq_of_beq_eq_true hl
     ·rename_i hne hne2
      have:=Nat.eq_of_beq_eq_true hl
      cases hx:ev x<;>first|exact this|exact absurd hx (hne _)|exact absurd hx (hne2 _)
    ·cases hl
   ·exact h.elim
  ·rename_i x y t t' ha ht
   have ha':args=#[x,y]:=by simpa using congrArg List.toArray ha
   have ht':argTypes=#[t,t']:=by simpa using congrArg List.toArray ht
   subst ha' ht'
   exact aU7 h (fun _ h=>cE0 hT d ho h) fun _ h=>aU7 h (fun _ h=>cA5 hT d ho h) fun _ h=>cI0 hT d ho h
  ·rename_i x y ha
   have ha':args=#[x,y]:=by simpa using congrArg List.toArray ha
   subst ha'
   exact cW4 ho h
  ·rename_i x y ha
   have ha':args=#[x,y]:=by simpa using congrArg List.toArray ha
   subst ha'
   exact cU4 ho h
  ·exact h.elim
 ·rename_i f hf
  split at h
  ·rename_i g caps hg
   exact cQ1 ho hf hg h
  ·exact h.elim
 ·exact h.elim
def aW6 (P:Program) (tab:J7) (et:aF5) (d:Nat) (op:Op) (ev:Ev) (os:Os) (K:Kt):Prop :=
 match op with
 |.move x=>K (ev x) [] [] []
 |.assign x=>K (ev x) [] [] []
 |.pick c a b=>b49 ev c a b K
 |.alloc t=>bQ8 tab d t K
 |.box t x=>cA0 d t (ev x) K
 |.build t ps=>bU2 tab ev t ps K
 |.buildSlice t n ps=>bif cX6 tab t then (bM7 tab os ev d t n ps K∨aO1 tab os ev d t n ps K) else aO1 tab os ev d t n ps K
 |.load t x=>bif bQ7 os (ev x) then bT3 tab os t (ev x) K else b45 tab os t (ev x) (cM8 os K)
 |.store t x y=>bif bQ7 os (ev x) then bK8 tab os t (ev x) (ev y) K else bL9 tab os t (ev x) (ev y) K
 |.nilCheck x=>b98 (ev x) K
 |.binOp op t x y _=>bif cN7 y then cB5 tab op t (ev x) (ev y) K else cC1 tab et op t (ev x) (ev y) (fun av=>K av [] [] [])
 |.unOp op _ x=>cJ7 op (ev x) K
 |.convert s t x=>b36 tab s t (ev x) K
 |.makeFunc fn f c=>b35 ev fn f c K
 |.makeSlice t x y=>b27 tab d t (ev x) (ev y) K
 |.slice t x lo hi none=>bif bQ7 os (ev x) then bM2 tab os d t (ev x) (P8 ev lo) (P8 ev hi) K else bT7 tab os d t (ev x) (P8 ev lo) (P8 ev hi) K
 |.fieldAddr s x f=>a02 tab s (ev x) f K
 |.field s x f=>bS7 tab s (ev x) f K
 |.indexAddr t x i=>bif bQ7 os (ev x) then aV8 tab os t (ev x) (ev i) K else a03 tab os t (ev x) (ev i) K
 |.index t x i=>bT8 tab t (ev x) (ev i) K
 |.extract x i=>bE0 (ev x) i K
 |.makeMap _ none=>bW0 d K
 |.lookup t x k false=>bM4 tab os t (ev x) (ev k) K
 |.mapUpdate t x k v=>aZ7 tab os t (ev x) (ev k) (ev v) K
 |.call c=>b43 P tab d c ev os K
 |_=>False
theorem step_ok (hT:I6 P tab) (hE:aG1 P et) (d:Nat) (h:aW6 P tab et d o.op ev os K):M9 P o ev os K:=by
 cases ho:o.op<;>rw [ho] at h<;>simp only [aW6] at h
 case move x=>exact b80 (.inl ho) h
 case assign x=>exact b80 (.inr ho) h
 case pick c a b=>exact cR7 ho h
 case alloc t=>exact cO2 hT d ho h
 case box t x=>exact cV4 d ho h
 case build t ps=>exact cN3 hT ho h
 case buildSlice t n ps=>exact aU7 h (fun _ h=>h.elim (fun h=>cE5 hT d ho h) fun h=>bC2 hT d ho h) fun _ h=>bC2 hT d ho h
 case load t x=>exact aU7 h (fun _ h=>cK8 hT ho h) fun _ h=>(cR5 hT ho h).res
 case store t x y=>exact aU7 h (fun _ h=>cH7 hT ho h) fun _ h=>cG3 hT ho h
 case nilCheck x=>exact cX0 ho h
 case binOp op t x y ty=>exact aU7 h (fun hy h=>cU2 hT ho hy h) fun _ h=>cW9 hT hE ho h
 case unOp op t x=>exact cX4 ho h
 case convert s t x=>exact cT6 hT ho h
 case makeFunc fn f c=>exact cT9 ho h
 case makeSlice t x y=>exact cQ5 hT d ho h
 case slice t x lo hi mx=>cases mx with
  |none=>exact aU7 h (fun _ h=>cH4 hT d ho h) fun _ h=>cK1 hT d ho h
  |some m=>exact h.elim
 case fieldAddr s x f=>exact b44 hT ho h
 case field s x f=>exact cJ4 hT ho h
 case indexAddr t x i=>exact aU7 h (fun _ h=>bY3 hT ho h) fun _ h=>b54 hT ho h
 case index t x i=>exact cK9 hT ho h
 case extract x i=>exact cD8 ho h
 case makeMap t r=>cases r with
  |none=>exact cB6 d ho h
  |some r=>exact h.elim
 case lookup t x k b=>cases b with
  |false=>exact cF7 hT ho h
  |true=>exact h.elim
 case mapUpdate t x k v=>exact b31 hT ho h
 case call c=>exact cO0 hT d ho h
end
end Go.Proofs.YtibjcppjfkamhaaGreatDoor
