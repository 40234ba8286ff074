/- THE WALK OVER READINGS: a region's operations in a row, and what must be shown of them. No program in sight; types are told by the table. -/
import Derived.Test.YtahmeibkdhbngaaAr
namespace Go.Proofs.Ytahmeibkdhbngaa
open Go.RowKit
set_option linter.unusedVariables false
def top : Nat:=1000
def aY5 : Os→Os→Prop
 |[],_=>True
 |(k,o)::r,os=>lk os k=some o∧aY5 r os
theorem a18 {os:Os}:∀{need:Os},aY5 need os→∀id o,lk need id=some o→lk os id=some o
 |(k,x)::r,h,id,o,hl=>by
  rw [u6] at hl
  split at hl
  ·rename_i e
   subst e
   cases hl
   exact h.1
  ·exact a18 h.2 id o hl
def aN6 : AV→Bool
 |.int _=>true
 |.ik _ _=>true
 |.bool _=>true
 |.str _=>true
 |.any=>true
 |.con _=>true
 |_=>false
def bN5 : AV→Bool
 |.tup l=>l.all aN6
 |.agg l=>l.all aN6
 |a=>aN6 a
theorem bN3 {c c':Ctx} {w w':World} {v:Value} {a:AV} (h:aN6 a=true) (hr:Rd c w v a):Rd c' w' v a:=by
 cases a<;>first|cases h|skip
 ·exact Rd.any_ v
 ·obtain ⟨rfl,h⟩:=hr.int_; exact .fz (.int h)
 ·rw [hr.ik_]; exact .fz (.ik _ _)
 ·rw [hr.bool_]; exact .fz (.bool _)
 ·obtain ⟨rfl,h⟩:=hr.str_; exact .fz (.str h)
 ·rw [hr.con_]; exact .fz (.con _)
theorem bH4 {c c':Ctx} {w w':World}:∀{us:List Value} {as:List AV},as.all aN6=true→D9 c w us as→D9 c' w' us as
 |_,_,_,.nil=>.nil
 |_,_,h,.cons x t=>by
  simp only [List.all_cons,Bool.and_eq_true] at h
  exact .cons (bN3 h.1 x) (bH4 h.2 t)
theorem c67 {c c':Ctx} {w w':World} {v:Value} {a:AV} (h:bN5 a=true) (hr:Rd c w v a):Rd c' w' v a:=by
 unfold bN5 at h
 split at h
 ·obtain ⟨us,rfl,hu⟩:=hr.tup_; exact .tup (bH4 h hu)
 ·obtain ⟨us,rfl,hu⟩:=hr.agg_; exact .agg (bH4 h hu)
 ·exact bN3 h hr
def bW1 : Obj→Prop
 |.gone=>True
 |.row _ ls _=>∀cs∈ls,cs.all aN6=true
 |.deep _ _ cols l _ _=>∀cs∈l,∀(off:Nat) (a:AV),cs[off]?=some a→match lk cols off with
  |none=>aN6 a=true
  |some _=>∃isz ls,a=.sl isz ls∧∀cs'∈ls,cs'.all aN6=true
 |_=>False
def bA0 : Os→Prop
 |[]=>True
 |p::r=>bW1 p.2∧bA0 r
theorem bA0.at : ∀{l:Os},bA0 l→∀{id:Nat} {o:Obj},lk l id=some o→bW1 o
 |(k,x)::r,h,id,o,hl=>by
  rw [u6] at hl
  split at hl
  ·cases hl; exact h.1
  ·exact bA0.at h.2 hl
def bW7 : AV→Bool
 |.tup l=>l.all fun a=>match a with|.own _=>true|.agg cs=>cs.all aN6|a=>aN6 a
 |.own _=>true
 |.agg cs=>cs.all aN6
 |a=>aN6 a
theorem cL7 {Φ Φ':Nat→Prop} {w w':World} {v:Value} {a:AV} (h:aN6 a=true) (hr:Rf Φ w v a):Rf Φ' w' v a:=by
 cases hr<;>first|cases h|skip
 ·exact .any _
 ·exact .int (by assumption)
 ·exact .ik _ _
 ·exact .bool _
 ·exact .str (by assumption)
 ·exact .con _
theorem bS8 {Φ Φ':Nat→Prop} {w w':World}:∀{us:List Value} {as:List AV},as.all aN6=true→H8 Φ w us as→H8 Φ' w' us as
 |_,_,_,.nil=>.nil
 |_,_,h,.cons x t=>by
  simp only [List.all_cons,Bool.and_eq_true] at h
  exact .cons (cL7 h.1 x) (bS8 h.2 t)
theorem bW1.rep {c c':Ctx} {w:World} {id:Nat} {o:Obj} (hf:bW1 o) (h:aI8 c w id o) (h1:c'.hd=c.hd) (h2:c'.μ=c.μ):aI8 c' w id o:=by
 cases o with
 |gone=>trivial
 |row sz ls e =>
  obtain ⟨css,p1,p2,p3⟩:=h
  exact ⟨css,by rw [h1]; exact p1,p2,fun i us cs hu hc=>bS8 (hf cs (List.mem_of_getElem? hc)) (p3 i us cs hu hc)⟩
 |deep sz e cols l hs sh =>
  obtain ⟨css,p1,p2,p3,p4⟩:=h
  refine ⟨css,by rw [h1]; exact p1,⟨p2.len,fun i us cs hu hc=>⟨(p2.cell i us cs hu hc).1,fun off u a b1 b2 b3=>?_⟩,fun i us cs off isz ie u hu hc b1 b2 b3=>?_,fun i off x us u b1 b2 b3=>by rw [h1]; exact p2.hole i off x us u b1 b2 b3,p2.apart⟩,by rw [h1]; exact p3,by rw [h1]; exact p4⟩
  ·have:=hf cs (List.mem_of_getElem? hc) off a b2
   rw [b3] at this
   exact cL7 this ((p2.cell i us cs hu hc).2 off u a b1 b2 b3)
  ·obtain ⟨ls,q1,css',q2,q3,q4⟩:=p2.inner i us cs off isz ie u hu hc b1 b2 b3
   have:=hf cs (List.mem_of_getElem? hc) off _ q1
   rw [b1] at this
   obtain ⟨isz',ls',e1,e2⟩:=this
   cases e1
   exact ⟨ls,q1,css',q2,q3,fun k us' cs' h3 h4=>bS8 (e2 cs' (List.mem_of_getElem? h4)) (q4 k us' cs' h3 h4)⟩
 |_=>exact hf.elim
theorem c48 {c c':Ctx} {w:World} {v:Value} {a:AV} (hf:bW7 a=true) (h:Rd c w v a) (h1:c'.hd=c.hd):Rd c' w v a:=by
 have own:∀{v:Value} {id:Nat},Rd c w v (.own id)→Rd c' w v (.own id):=fun {v id} h=>by
  obtain ⟨A,n,cap,e1,e2,e3,e4⟩:=h.own_
  rw [e1]
  exact .own (by rw [h1]; exact e2) e3 e4
 have agg:∀{v:Value} {cs:List AV},cs.all aN6=true→Rd c w v (.agg cs)→Rd c' w v (.agg cs):=fun {v cs} hf h=>by
  obtain ⟨us,rfl,hu⟩:=h.agg_
  exact .agg (bH4 hf hu)
 unfold bW7 at hf
 split at hf
 ·rename_i l
  obtain ⟨us,rfl,hu⟩:=h.tup_
  refine .tup ?_
  clear h
  induction l generalizing us with
  |nil=>cases hu; exact .nil
  |cons a l ih =>
   cases hu with|cons h t =>
   simp only [List.all_cons,Bool.and_eq_true] at hf
   refine .cons ?_ (ih hf.2 _ t)
   cases a<;>first|exact own h|exact agg hf.1 h|exact bN3 hf.1 h
 ·exact own h
 ·exact agg hf h
 ·exact bN3 hf h
structure l7 (P:Program) (f:Nat) (ins:List AV) (os:Os) (K:Kt):Prop where
 out:(∃(ins0 ins':List AV) (g need upd:Os) (news:List Nat) (av:AV),Spec P f need ins' av upd news∧aP9 os ins ins0 g∧aI7 ins0 ins'∧aY5 need os∧(need.all fun p=>(lk g p.1).isNone)=true∧(need.all fun p=>aS0 news p.2.ids)=true ∧
  K av ((g++need).map (·.1)) news (upd++I7 g)) ∨
 (∃(ins0 ins':List AV) (g:Os) (av:AV),Spec P f [] ins' av [] []∧aL7 os ins ins0 g∧aI7 ins0 ins'∧bN5 av=true∧K av (g.map (·.1)) [] []) ∨
 (∃(ins0 ins':List AV) (g upd:Os) (news:List Nat) (av:AV),Spec P f [] ins' av upd news∧aL7 os ins ins0 g∧aI7 ins0 ins'∧bW7 av=true∧bA0 upd∧K av (g.map (·.1)) news upd)
section
variable {P:Program} {tab:O4} {et:aG2} {o:Oper} {ev:Ev} {os:Os} {K:Kt}
theorem l7.fz {f:Nat} {ins ins':List AV} {need upd:Os} {news:List Nat} {av:AV} (h:Spec P f need ins' av upd news) (hle:aI7 (Q8 os ins).1 ins') (hs:aY5 need os) (hd:(need.all fun p=>(lk (Q8 os ins).2 p.1).isNone)=true)
  (hf:(need.all fun p=>aS0 news p.2.ids)=true) (hK:K av (((Q8 os ins).2++need).map (·.1)) news (upd++I7 (Q8 os ins).2)):l7 P f ins os K :=
 ⟨.inl ⟨_,ins',_,need,upd,news,av,h,cB7 ins,hle,hs,hd,hf,hK⟩⟩
theorem l7.as {f:Nat} {ins ins':List AV} {need upd:Os} {news:List Nat} {av:AV} (h:Spec P f need ins' av upd news) (hle:aI7 ins ins') (hs:aY5 need os)
  (hf:(need.all fun p=>aS0 news p.2.ids)=true) (hK:K av (need.map (·.1)) news upd):l7 P f ins os K :=
 ⟨.inl ⟨ins,ins',[],need,upd,news,av,h,⟨fun _ _ h=>(by cases h),fun _ _ h=>(by cases h),fun c w us _ h=>D9.mono (c:=c) (c':=c.fz []) (fun _ _=>rfl) (fun _ h=>Or.inl h) (fun _ _=>⟨rfl,rfl⟩) h⟩,hle,hs,List.all_eq_true.2 fun _ _=>rfl,hf,by simpa [I7] using hK⟩⟩
theorem l7.lend {f:Nat} {ins ins':List AV} {av:AV} (h:Spec P f [] ins' av [] []) (hle:aI7 (Q8 os ins).1 ins') (hf:bN5 av=true) (hK:K av ((Q8 os ins).2.map (·.1)) [] []):l7 P f ins os K :=
 ⟨.inr (.inl ⟨_,ins',_,av,h,(cB7 ins).lend,hle,hf,hK⟩)⟩
theorem l7.lendD {f:Nat} {ins ins':List AV} {av:AV} (h:Spec P f [] ins' av [] []) (hle:aI7 (fzD os ins).1 ins') (hf:bN5 av=true) (hK:K av ((fzD os ins).2.map (·.1)) [] []):l7 P f ins os K :=
 ⟨.inr (.inl ⟨_,ins',_,av,h,cW0 ins,hle,hf,hK⟩)⟩
theorem l7.lendF {f:Nat} {ins ins':List AV} {upd:Os} {news:List Nat} {av:AV} (h:Spec P f [] ins' av upd news) (hle:aI7 (fzD os ins).1 ins') (hf:bW7 av=true) (hu:bA0 upd) (hK:K av ((fzD os ins).2.map (·.1)) news upd):l7 P f ins os K :=
 ⟨.inr (.inr ⟨_,ins',_,upd,news,av,h,cW0 ins,hle,hf,hu,hK⟩)⟩
theorem bV8 {c:Go.Call} {f:Operand} {g:Nat} {cus:List Value} {ρ:Operand→Value} {w:World} (ho:o.op=.call c) (hc:c.callee=.value f) (hcall:callable P g=true) (e1:ρ f=.func (.func g) #[] cus.toArray) :
  (execOp ρ o).run P w=.ok (.enter g (c.args.toList.map ρ++cus).toArray) w:=by
 unfold callable at hcall
 split at hcall
 ·rename_i fn hfn
  simp only [Bool.and_eq_true,Bool.not_eq_true',beq_eq_false_iff_ne,ne_eq] at hcall
  have hbody:fn.body.isNone=false:=by cases hb:fn.body<;>simp_all
  have hm:c.args.map ρ++cus.toArray=(c.args.toList.map ρ++cus).toArray:=by
   apply Array.toList_inj.1
   simp
  simp [execOp,ho,resolve,hc,e1,Deferred.ofValue,invoke,callFunc,hfn,hcall.2,hm]
  intro hbn
  rw [hbn] at hbody
  cases hbody
 ·cases hcall
theorem dB2 {c:Go.Call} {f:Operand} {g:Nat} {caps:List AV} (ho:o.op=.call c) (hc:c.callee=.value f) (hf:ev f=.fn g caps) {ins0 ins':List AV} {gz:Os} {av:AV} (hspec:Spec P g [] ins' av [] [])
  (hz:aL7 os (c.args.toList.map ev++caps) ins0 gz) (hle:aI7 ins0 ins') (hfl:bN5 av=true) (hK:K av (gz.map (·.1)) [] []):Q0 P o ev os K:=by
 intro _
 obtain ⟨hcall,hnews,hspec⟩:=hspec
 refine ⟨av,gz,[],[],fun cx w ρ hok hr=>?_,hz.sub,fun id hid=>(by cases hid),hK⟩
 have rf:Rd cx w (ρ f) (.fn g caps):=by
  have:=hr f (by simp [ho,Op.operands,Go.Call.operands,hc])
  rwa [hf] at this
 obtain ⟨cus,e1,hcus⟩:=rf.fn_
 have hargs:D9 cx w (c.args.toList.map ρ++cus) (c.args.toList.map ev++caps):=(bM0 fun x hx=>hr x (by simp [ho,Op.operands,Go.Call.operands,hc]; exact .inr (by simpa using hx))).append hcus
 have hargs':=bD6 hle (hz.run cx w _ hok hargs)
 have p1:=Post.freeze hok
 have no:∀(id:Nat) (o:Obj),lk ([]:Os) id=some o→False:=fun id o h=>(by cases h)
 have ok1:O1 (cx.fz gz) w []:=⟨fun id o h=>(no id o h).elim,fun id o b h=>(no id o h).elim,fun id id' o o' b _ h=>(no id o h).elim,p1.hok.phi⟩
 have hcalls:=hspec (cx.fz gz) w (c.args.toList.map ρ++cus).toArray ok1 (by simpa using hargs')
 rw [bV8 ho hc hcall e1]
 refine hcalls.mono fun e w' ⟨v,c',he,hp,hrd⟩=>⟨v,he,cx,⟨hp.wos,hp.tape,hp.output,hp.size,fun _ h=>h,fun _ h=>.inl h,fun b hb _=>hp.keep b hb fun ⟨id,o,h,_⟩=>no id o h,fun _ _=>⟨rfl,rfl⟩,
  ⟨fun id o h=>(no id o h).elim,fun id o b h=>(no id o h).elim,fun id id' o o' b _ h=>(no id o h).elim,fun b hb=>Nat.lt_of_lt_of_le (hok.phi b hb) hp.size⟩,fun id o b h=>(no id o h).elim⟩,c67 hfl hrd⟩
theorem c73 {c:Go.Call} {f:Operand} {g:Nat} {caps:List AV} (ho:o.op=.call c) (hc:c.callee=.value f) (hf:ev f=.fn g caps) {ins0 ins':List AV} {gz upd:Os} {news:List Nat} {av:AV} (hspec:Spec P g [] ins' av upd news)
  (hz:aL7 os (c.args.toList.map ev++caps) ins0 gz) (hle:aI7 ins0 ins') (hfl:bW7 av=true) (hfu:bA0 upd) (hK:K av (gz.map (·.1)) news upd):Q0 P o ev os K:=by
 intro _
 obtain ⟨hcall,hnews,hspec⟩:=hspec
 refine ⟨av,gz,upd,news,fun cx w ρ hok hr=>?_,hz.sub,hnews,hK⟩
 have rf:Rd cx w (ρ f) (.fn g caps):=by
  have:=hr f (by simp [ho,Op.operands,Go.Call.operands,hc])
  rwa [hf] at this
 obtain ⟨cus,e1,hcus⟩:=rf.fn_
 have hargs:D9 cx w (c.args.toList.map ρ++cus) (c.args.toList.map ev++caps):=(bM0 fun x hx=>hr x (by simp [ho,Op.operands,Go.Call.operands,hc]; exact .inr (by simpa using hx))).append hcus
 have hargs':=bD6 hle (hz.run cx w _ hok hargs)
 have p1:=Post.freeze hok
 have no:∀(id:Nat) (o:Obj),lk ([]:Os) id=some o→False:=fun id o h=>(by cases h)
 have ok1:O1 (cx.fz gz) w []:=⟨fun id o h=>(no id o h).elim,fun id o b h=>(no id o h).elim,fun id id' o o' b _ h=>(no id o h).elim,p1.hok.phi⟩
 have hcalls:=hspec (cx.fz gz) w (c.args.toList.map ρ++cus).toArray ok1 (by simpa using hargs')
 rw [bV8 ho hc hcall e1]
 refine hcalls.mono fun e w' ⟨v,c',he,hp,hrd⟩=>⟨v,he,{ c' with Φ:=cx.Φ },⟨hp.wos,hp.tape,hp.output,hp.size,fun _ h=>h,fun _ h=>.inl h,fun b hb _=>hp.keep b hb fun ⟨id,o,h,_⟩=>no id o h,fun i hi=>hp.ctx i hi,
  ⟨fun id o h=>(hfu.at h).rep (hp.hok.rep id o h) rfl rfl,fun id o b h hf=>?_,fun id id' o o' b hne h h' hf=>?_,fun b hb=>Nat.lt_of_lt_of_le (hok.phi b hb) hp.size⟩,fun id o b h hf=>?_⟩,c48 hfl hrd rfl⟩
 ·have hf':foot c' id o b:=by cases o<;>exact hf
  have:=hp.hok.lt id o b h hf'
  exact ⟨this.1,fun hb=>this.2 (hp.phi b (.inl hb))⟩
 ·have hf1:foot c' id o b:=by cases o<;>exact hf
  intro hf2
  have hf2':foot c' id' o' b:=by cases o'<;>exact hf2
  exact hp.hok.sep id id' o o' b hne h h' hf1 hf2'
 ·have hf':foot c' id o b:=by cases o<;>exact hf
  rcases hp.feet id o b h hf' with h1|⟨i,x,h1,_⟩
  ·exact .inl h1
  ·exact (no i x h1).elim
theorem dC1 {c:Go.Call} {f:Operand} {g:Nat} {caps:List AV} (ho:o.op=.call c) (hc:c.callee=.value f) (hf:ev f=.fn g caps) (h:l7 P g (c.args.toList.map ev++caps) os K):Q0 P o ev os K:=by
 rcases h.out with ⟨ins0,ins',gz,need,upd,news,av,hspec,hz,hle,hs,hd,hfr,hK⟩|⟨ins0,ins',gz,av,hspec,hz,hle,hfl,hK⟩|⟨ins0,ins',gz,upd,news,av,hspec,hz,hle,hfl,hfu,hK⟩
 case inr.inl=>exact dB2 ho hc hf hspec hz hle hfl hK
 case inr.inr=>exact c73 ho hc hf hspec hz hle hfl hfu hK
 intro _
 obtain ⟨hcall,hnews,hspec⟩:=hspec
 have hsub:=a18 hs
 obtain ⟨s1,s2,s3⟩:=aR4 hz.sub hsub
 have hnone:∀id x,lk need id=some x→lk gz id=none:=fun id x h=>by
  have:=List.all_eq_true.1 hd _ (Y2 h)
  simpa using this
 refine ⟨av,gz++need,upd++I7 gz,news,fun cx w ρ hok hr=>?_,s1,fun id hid=>?_,hK⟩
 ·have rf:Rd cx w (ρ f) (.fn g caps):=by
   have:=hr f (by simp [ho,Op.operands,Go.Call.operands,hc])
   rwa [hf] at this
  obtain ⟨cus,e1,hcus⟩:=rf.fn_
  have hargs:D9 cx w (c.args.toList.map ρ++cus) (c.args.toList.map ev++caps):=(bM0 fun x hx=>hr x (by simp [ho,Op.operands,Go.Call.operands,hc]; exact .inr (by simpa using hx))).append hcus
  have hargs':=bD6 hle (hz.run cx w _ (hok.sub s3) hargs)
  have p1:=(Post.freeze (hok.sub s3)).widen s3
  have ok1:O1 (cx.fz gz) w need:=by
   have hfrm:=hok.frame (fun _ _ h=>h) p1 (fun _ h=>(by cases h)) (fun _ _ _ _ _ h=>(by cases h))
   refine hfrm.sub fun id x hl=>?_
   have hg:lk (I7 gz) id=none:=by
    have:=aT8 gz id
    rw [hnone id x hl] at this
    cases hq:lk (I7 gz) id with
    |none=>rfl
    |some y=>rw [hq] at this; cases this
   rw [J2,hg]
   simpa using s2 id x hl
  have hcalls:=hspec (cx.fz gz) w (c.args.toList.map ρ++cus).toArray ok1 (by simpa using hargs')
  rw [bV8 ho hc hcall e1]
  refine hcalls.mono fun e w' ⟨v,c',he,hp,hrd⟩=>⟨v,he,c',?_,hrd⟩
  have:=Post.trans hok p1 hp (fun _ h=>(by cases h)) hnews (fun id x hl=>by
   have hg:lk (I7 gz) id=none:=by
    have:=aT8 gz id
    rw [hnone id x hl] at this
    cases hq:lk (I7 gz) id with
    |none=>rfl
    |some y=>rw [hq] at this; cases this
   rw [J2,hg]
   simpa using s2 id x hl) (fun _ _ _ _ _ h=>(by cases h)) (fun id x hl hu y hy=>by
   rw [J2] at hl
   cases hg:lk (I7 gz) id with
   |some z =>
    rw [hg] at hl
    simp at hl
    subst hl
    rw [aV6 hg]
    simp [Obj.ids]
   |none =>
    rw [hg] at hl
    simp at hl
    rw [J2] at hl
    cases hgz:lk gz id with
    |some z =>
     rw [hgz] at hl
     simp at hl
     subst hl
     rw [hz.ids id z hgz]
     simp
    |none =>
     rw [hgz] at hl
     simp at hl
     exact aL5 (List.all_eq_true.1 hfr _ (Y2 hl)) y hy)
  simpa using this
 ·rw [J2]
  have:=hnews id hid
  cases hu:lk upd id with
  |none=>rw [hu] at this; cases this
  |some x=>rfl
def cA4 (os:Os):AV→Bool
 |.own id=>match lk os id with
  |some (.deep _ _ _ _ _ _)=>true
  |_=>false
 |.ep id _ _ _=>match lk os id with
  |some (.deep _ _ _ _ _ _)=>true
  |_=>false
 |_=>false
def dH3 (tab:O4) (t:TypeId):Bool:=match lk tab t with
 |some ti=>match lk tab ti.elem with
  |some te=>Nat.beq te.kind 1 && Nat.beq te.len 1
  |none=>false
 |none=>false
theorem bN7 {b:Bool} {X Y Z:Prop} (h:bif b then X else Y) (hx:b=true→X→Z) (hy:b=false→Y→Z):Z:=by
 cases b
 ·exact hy rfl h
 ·exact hx rfl h
def c88 (tab:O4) (t:TypeId):Bool:=match lk tab t with
 |some ti=>Nat.beq ti.kind 2
 |none=>false
def dH0 (tab:O4) (t:TypeId) (x:AV):Bool :=
 match lk tab t with
 |some ti=>match x with
  |.str _=>Nat.beq ti.kind 4
  |.mp _=>Nat.beq ti.kind 8
  |_=>Nat.beq ti.kind 2
 |none=>false
def cM0 (P:Program) (tab:O4) (d:Nat) (c:Go.Call) (ev:Ev) (os:Os) (K:Kt):Prop :=
 match c.callee with
 |.builtin b=>match b,c.args.toList,c.argTypes.toList with
  |.len,[x],[t]=>bif cA4 os (ev x) then (match c88 tab t with
    |true=>cH0 os (ev x) K
    |false=>False) else match dH0 tab t (ev x) with
   |true=>cQ3 os (ev x) K
   |false=>False
  |.append,[x,y],[t,t']=>bif cA4 os (ev x) then bS2 tab os d t t' (ev x) (ev y) K else b08 tab os d t t' (ev x) (ev y) K
  |.min,[x,y],_=>cR5 (ev x) (ev y) K
  |.max,[x,y],_=>cR0 (ev x) (ev y) K
  |_,_,_=>False
 |.value f=>match ev f with
  |.fn g caps=>l7 P g (c.args.toList.map ev++caps) os K
  |_=>False
 |.invoke _ _=>False
theorem c54 (hT:M0 P tab) (d:Nat) {c:Go.Call} (ho:o.op=.call c) (h:cM0 P tab d c ev os K):Q0 P o ev os K:=by
 unfold cM0 at h
 obtain ⟨callee,args,argTypes⟩:=c
 split at h
 ·rename_i b hb
  simp only at hb
  subst hb
  split at h
  ·rename_i x t ha ht
   have ha':args=#[x]:=by simpa using congrArg List.toArray ha
   have ht':argTypes=#[t]:=by simpa using congrArg List.toArray ht
   subst ha' ht'
   refine bN7 h (fun _ h=>?_) fun _ h=>?_
   ·split at h
    ·rename_i hk
     unfold c88 at hk
     split at hk
     ·rename_i ti hti
      exact dD7 hT hti (Nat.eq_of_beq_eq_true hk) ho h
     ·cases hk
    ·exact h.elim
   split at h
   ·rename_i hl
    refine dF2 hT ho ?_ h
    unfold dH0 at hl
    split at hl
    ·rename_i ti hti
     rw [hti]
     split at hl
     ·rename_i s hx
      rw [hx]
      exact Nat.eq_of_beq_eq_true hl
     ·rename_i s hx
      rw [hx]
      exact Nat.eq_of_beq_eq_true hl
     ·rename_i hne hne2
      have:=Nat.eq_of_beq_eq_true hl
      cases hx:ev x<;>first|exact this|exact absurd hx (hne _)|exact absurd hx (hne2 _)
    ·cases hl
   ·exact h.elim
  ·rename_i x y t t' ha ht
   have ha':args=#[x,y]:=by simpa using congrArg List.toArray ha
   have ht':argTypes=#[t,t']:=by simpa using congrArg List.toArray ht
   subst ha' ht'
   exact bN7 h (fun _ h=>cS8 hT d ho h) fun _ h=>cY5 hT d ho h
  ·rename_i x y ha
   have ha':args=#[x,y]:=by simpa using congrArg List.toArray ha
   subst ha'
   exact dE9 ho h
  ·rename_i x y ha
   have ha':args=#[x,y]:=by simpa using congrArg List.toArray ha
   subst ha'
   exact dF9 ho h
  ·exact h.elim
 ·rename_i f hf
  split at h
  ·rename_i g caps hg
   exact dC1 ho hf hg h
  ·exact h.elim
 ·exact h.elim
def aQ4 (P:Program) (tab:O4) (et:aG2) (d:Nat) (op:Op) (ev:Ev) (os:Os) (K:Kt):Prop :=
 match op with
 |.move x=>K (ev x) [] [] []
 |.assign x=>K (ev x) [] [] []
 |.pick c a b=>cL2 ev c a b K
 |.alloc t=>b76 tab d t K
 |.box t x=>cQ2 d t (ev x) K
 |.build t ps=>b70 tab ev t ps K
 |.buildSlice t n ps=>bif dH3 tab t then (bY8 tab os ev d t n ps K∨aX2 tab os ev d t n ps K) else aX2 tab os ev d t n ps K
 |.load t x=>bif cA4 os (ev x) then b88 tab os t (ev x) K else cM3 tab os t (ev x) (c01 os K)
 |.store t x y=>bif cA4 os (ev x) then bZ8 tab os t (ev x) (ev y) K else bZ2 tab os t (ev x) (ev y) K
 |.nilCheck x=>cR2 (ev x) K
 |.binOp op t x y _=>cT4 tab et op t (ev x) (ev y) (fun av=>K av [] [] [])
 |.unOp op _ x=>c68 op (ev x) K
 |.convert s t x=>cG6 tab s t (ev x) K
 |.makeFunc fn f c=>cG7 ev fn f c K
 |.makeSlice t x y=>cF7 tab d t (ev x) (ev y) K
 |.slice t x lo hi none=>bif cA4 os (ev x) then bZ9 tab os d t (ev x) (U9 ev lo) (U9 ev hi) K else b93 tab os d t (ev x) (U9 ev lo) (U9 ev hi) K
 |.fieldAddr s x f=>bJ7 tab s (ev x) f K
 |.field s x f=>b97 tab s (ev x) f K
 |.indexAddr t x i=>bif cA4 os (ev x) then bF7 tab os t (ev x) (ev i) K else bJ9 tab os t (ev x) (ev i) K
 |.index t x i=>b86 tab t (ev x) (ev i) K
 |.extract x i=>bU6 (ev x) i K
 |.makeMap _ none=>cA9 d K
 |.lookup t x k false=>bZ4 tab os t (ev x) (ev k) K
 |.mapUpdate t x k v=>bJ1 tab os t (ev x) (ev k) (ev v) K
 |.call c=>cM0 P tab d c ev os K
 |_=>False
theorem step_ok (hT:M0 P tab) (hE:aE9 P et) (d:Nat) (h:aQ4 P tab et d o.op ev os K):Q0 P o ev os K:=by
 cases ho:o.op<;>rw [ho] at h<;>simp only [aQ4] at h
 case move x=>exact cO7 (.inl ho) h
 case assign x=>exact cO7 (.inr ho) h
 case pick c a b=>exact dA3 ho h
 case alloc t=>exact c50 hT d ho h
 case box t x=>exact dE5 d ho h
 case build t ps=>exact c30 hT ho h
 case buildSlice t n ps=>exact bN7 h (fun _ h=>h.elim (fun h=>cV7 hT d ho h) fun h=>bP7 hT d ho h) fun _ h=>bP7 hT d ho h
 case load t x=>exact bN7 h (fun _ h=>cZ8 hT ho h) fun _ h=>(dD4 hT ho h).res
 case store t x y=>exact bN7 h (fun _ h=>cY4 hT ho h) fun _ h=>cU1 hT ho h
 case nilCheck x=>exact dF5 ho h
 case binOp op t x y ty=>exact dF0 hT hE ho h
 case unOp op t x=>exact dH4 ho h
 case convert s t x=>exact dD5 hT ho h
 case makeFunc fn f c=>exact dD9 ho h
 case makeSlice t x y=>exact dA2 hT d ho h
 case slice t x lo hi mx=>cases mx with
  |none=>exact bN7 h (fun _ h=>cY7 hT d ho h) fun _ h=>c66 hT d ho h
  |some m=>exact h.elim
 case fieldAddr s x f=>exact cL0 hT ho h
 case field s x f=>exact c36 hT ho h
 case indexAddr t x i=>exact bN7 h (fun _ h=>cE4 hT ho h) fun _ h=>cL4 hT ho h
 case index t x i=>exact c43 hT ho h
 case extract x i=>exact cT1 ho h
 case makeMap t r=>cases r with
  |none=>exact cQ1 d ho h
  |some r=>exact h.elim
 case lookup t x k b=>cases b with
  |false=>exact cW8 hT ho h
  |true=>exact h.elim
 case mapUpdate t x k v=>exact cJ2 hT ho h
 case call c=>exact c54 hT d ho h
end
end Go.Proofs.Ytahmeibkdhbngaa
