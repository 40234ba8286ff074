/- THE WALK OVER READINGS: a region's operations in a row, and what must be shown of them. No program in sight; types are told by the table. -/
import Derived.Test.YtkecefjmcimemaaAr
namespace Go.Proofs.Ytkecefjmcimemaa
open Go.RowKit
set_option linter.unusedVariables false
def top : Nat:=1000
def subP : Os→Os→Prop
 |[],_=>True
 |(k,o)::r,os=>lk os k=some o∧subP r os
theorem subP_spec {os:Os}:∀{need:Os},subP need os→∀id o,lk need id=some o→lk os id=some o
 |(k,x)::r,h,id,o,hl=>by
  rw [lk_cons] at hl
  split at hl
  ·rename_i e
   subst e
   cases hl
   exact h.1
  ·exact subP_spec h.2 id o hl
def flatC : AV→Bool
 |.int _=>true
 |.ik _ _=>true
 |.bool _=>true
 |.str _=>true
 |.any=>true
 |.con _=>true
 |_=>false
def flatA : AV→Bool
 |.tup l=>l.all flatC
 |.agg l=>l.all flatC
 |a=>flatC a
theorem flatC_rd {c c':Ctx} {w w':World} {v:Value} {a:AV} (h:flatC a=true) (hr:Rd c w v a):Rd c' w' v a:=by
 cases a<;>first|cases h|skip
 ·exact Rd.any_ v
 ·obtain ⟨rfl,h⟩:=hr.int_; exact .fz (.int h)
 ·rw [hr.ik_]; exact .fz (.ik _ _)
 ·rw [hr.bool_]; exact .fz (.bool _)
 ·obtain ⟨rfl,h⟩:=hr.str_; exact .fz (.str h)
 ·rw [hr.con_]; exact .fz (.con _)
theorem flatC_rds {c c':Ctx} {w w':World}:∀{us:List Value} {as:List AV},as.all flatC=true→Rds c w us as→Rds c' w' us as
 |_,_,_,.nil=>.nil
 |_,_,h,.cons x t=>by
  simp only [List.all_cons,Bool.and_eq_true] at h
  exact .cons (flatC_rd h.1 x) (flatC_rds h.2 t)
theorem flatA_rd {c c':Ctx} {w w':World} {v:Value} {a:AV} (h:flatA a=true) (hr:Rd c w v a):Rd c' w' v a:=by
 unfold flatA at h
 split at h
 ·obtain ⟨us,rfl,hu⟩:=hr.tup_; exact .tup (flatC_rds h hu)
 ·obtain ⟨us,rfl,hu⟩:=hr.agg_; exact .agg (flatC_rds h hu)
 ·exact flatC_rd h hr
def FlatO : Obj→Prop
 |.gone=>True
 |.row _ ls _=>∀cs∈ls,cs.all flatC=true
 |.deep _ _ cols l _ _=>∀cs∈l,∀(off:Nat) (a:AV),cs[off]?=some a→match lk cols off with
  |none=>flatC a=true
  |some _=>∃isz ls,a=.sl isz ls∧∀cs'∈ls,cs'.all flatC=true
 |_=>False
def FlatOs : Os→Prop
 |[]=>True
 |p::r=>FlatO p.2∧FlatOs r
theorem FlatOs.at : ∀{l:Os},FlatOs l→∀{id:Nat} {o:Obj},lk l id=some o→FlatO o
 |(k,x)::r,h,id,o,hl=>by
  rw [lk_cons] at hl
  split at hl
  ·cases hl; exact h.1
  ·exact FlatOs.at h.2 hl
def flatR : AV→Bool
 |.tup l=>l.all fun a=>match a with|.own _=>true|.agg cs=>cs.all flatC|a=>flatC a
 |.own _=>true
 |.agg cs=>cs.all flatC
 |a=>flatC a
theorem flatC_rf {Φ Φ':Nat→Prop} {w w':World} {v:Value} {a:AV} (h:flatC a=true) (hr:Rf Φ w v a):Rf Φ' w' v a:=by
 cases hr<;>first|cases h|skip
 ·exact .any _
 ·exact .int (by assumption)
 ·exact .ik _ _
 ·exact .bool _
 ·exact .str (by assumption)
 ·exact .con _
theorem flatC_rfs {Φ Φ':Nat→Prop} {w w':World}:∀{us:List Value} {as:List AV},as.all flatC=true→Rfs Φ w us as→Rfs Φ' w' us as
 |_,_,_,.nil=>.nil
 |_,_,h,.cons x t=>by
  simp only [List.all_cons,Bool.and_eq_true] at h
  exact .cons (flatC_rf h.1 x) (flatC_rfs h.2 t)
theorem FlatO.rep {c c':Ctx} {w:World} {id:Nat} {o:Obj} (hf:FlatO o) (h:ORep c w id o) (h1:c'.hd=c.hd) (h2:c'.μ=c.μ):ORep c' w id o:=by
 cases o with
 |gone=>trivial
 |row sz ls e =>
  obtain ⟨css,p1,p2,p3⟩:=h
  exact ⟨css,by rw [h1]; exact p1,p2,fun i us cs hu hc=>flatC_rfs (hf cs (List.mem_of_getElem? hc)) (p3 i us cs hu hc)⟩
 |deep sz e cols l hs sh =>
  obtain ⟨css,p1,p2,p3,p4⟩:=h
  refine ⟨css,by rw [h1]; exact p1,⟨p2.len,fun i us cs hu hc=>⟨(p2.cell i us cs hu hc).1,fun off u a b1 b2 b3=>?_⟩,fun i us cs off isz ie u hu hc b1 b2 b3=>?_,fun i off x us u b1 b2 b3=>by rw [h1]; exact p2.hole i off x us u b1 b2 b3,p2.apart⟩,by rw [h1]; exact p3,by rw [h1]; exact p4⟩
  ·have:=hf cs (List.mem_of_getElem? hc) off a b2
   rw [b3] at this
   exact flatC_rf this ((p2.cell i us cs hu hc).2 off u a b1 b2 b3)
  ·obtain ⟨ls,q1,css',q2,q3,q4⟩:=p2.inner i us cs off isz ie u hu hc b1 b2 b3
   have:=hf cs (List.mem_of_getElem? hc) off _ q1
   rw [b1] at this
   obtain ⟨isz',ls',e1,e2⟩:=this
   cases e1
   exact ⟨ls,q1,css',q2,q3,fun k us' cs' h3 h4=>flatC_rfs (e2 cs' (List.mem_of_getElem? h4)) (q4 k us' cs' h3 h4)⟩
 |_=>exact hf.elim
theorem flatR_rd {c c':Ctx} {w:World} {v:Value} {a:AV} (hf:flatR a=true) (h:Rd c w v a) (h1:c'.hd=c.hd):Rd c' w v a:=by
 have own:∀{v:Value} {id:Nat},Rd c w v (.own id)→Rd c' w v (.own id):=fun {v id} h=>by
  obtain ⟨A,n,cap,e1,e2,e3,e4⟩:=h.own_
  rw [e1]
  exact .own (by rw [h1]; exact e2) e3 e4
 have agg:∀{v:Value} {cs:List AV},cs.all flatC=true→Rd c w v (.agg cs)→Rd c' w v (.agg cs):=fun {v cs} hf h=>by
  obtain ⟨us,rfl,hu⟩:=h.agg_
  exact .agg (flatC_rds hf hu)
 unfold flatR at hf
 split at hf
 ·rename_i l
  obtain ⟨us,rfl,hu⟩:=h.tup_
  refine .tup ?_
  clear h
  induction l generalizing us with
  |nil=>cases hu; exact .nil
  |cons a l ih =>
   cases hu with|cons h t =>
   simp only [List.all_cons,Bool.and_eq_true] at hf
   refine .cons ?_ (ih hf.2 _ t)
   cases a<;>first|exact own h|exact agg hf.1 h|exact flatC_rd hf.1 h
 ·exact own h
 ·exact agg hf h
 ·exact flatC_rd hf h
structure CallOk (P:Program) (f:Nat) (ins:List AV) (os:Os) (K:Kt):Prop where
 out:(∃(ins0 ins':List AV) (g need upd:Os) (news:List Nat) (av:AV),Spec P f need ins' av upd news∧FzcOk os ins ins0 g∧leAs ins0 ins'∧subP need os∧(need.all fun p=>(lk g p.1).isNone)=true∧(need.all fun p=>freshIn news p.2.ids)=true ∧
  K av ((g++need).map (·.1)) news (upd++goneOf g)) ∨
 (∃(ins0 ins':List AV) (g:Os) (av:AV),Spec P f [] ins' av [] []∧LendOk os ins ins0 g∧leAs ins0 ins'∧flatA av=true∧K av (g.map (·.1)) [] []) ∨
 (∃(ins0 ins':List AV) (g upd:Os) (news:List Nat) (av:AV),Spec P f [] ins' av upd news∧LendOk os ins ins0 g∧leAs ins0 ins'∧flatR av=true∧FlatOs upd∧K av (g.map (·.1)) news upd)
section
variable {P:Program} {tab:Tab} {et:EqTab} {o:Oper} {ev:Ev} {os:Os} {K:Kt}
theorem CallOk.fz {f:Nat} {ins ins':List AV} {need upd:Os} {news:List Nat} {av:AV} (h:Spec P f need ins' av upd news) (hle:leAs (fzArgs os ins).1 ins') (hs:subP need os) (hd:(need.all fun p=>(lk (fzArgs os ins).2 p.1).isNone)=true)
  (hf:(need.all fun p=>freshIn news p.2.ids)=true) (hK:K av (((fzArgs os ins).2++need).map (·.1)) news (upd++goneOf (fzArgs os ins).2)):CallOk P f ins os K :=
 ⟨.inl ⟨_,ins',_,need,upd,news,av,h,fzArgs_ok ins,hle,hs,hd,hf,hK⟩⟩
theorem CallOk.as {f:Nat} {ins ins':List AV} {need upd:Os} {news:List Nat} {av:AV} (h:Spec P f need ins' av upd news) (hle:leAs ins ins') (hs:subP need os)
  (hf:(need.all fun p=>freshIn news p.2.ids)=true) (hK:K av (need.map (·.1)) news upd):CallOk P f ins os K :=
 ⟨.inl ⟨ins,ins',[],need,upd,news,av,h,⟨fun _ _ h=>(by cases h),fun _ _ h=>(by cases h),fun c w us _ h=>Rds.mono (c:=c) (c':=c.fz []) (fun _ _=>rfl) (fun _ h=>Or.inl h) (fun _ _=>⟨rfl,rfl⟩) h⟩,hle,hs,List.all_eq_true.2 fun _ _=>rfl,hf,by simpa [goneOf] using hK⟩⟩
theorem CallOk.lend {f:Nat} {ins ins':List AV} {av:AV} (h:Spec P f [] ins' av [] []) (hle:leAs (fzArgs os ins).1 ins') (hf:flatA av=true) (hK:K av ((fzArgs os ins).2.map (·.1)) [] []):CallOk P f ins os K :=
 ⟨.inr (.inl ⟨_,ins',_,av,h,(fzArgs_ok ins).lend,hle,hf,hK⟩)⟩
theorem CallOk.lendD {f:Nat} {ins ins':List AV} {av:AV} (h:Spec P f [] ins' av [] []) (hle:leAs (fzD os ins).1 ins') (hf:flatA av=true) (hK:K av ((fzD os ins).2.map (·.1)) [] []):CallOk P f ins os K :=
 ⟨.inr (.inl ⟨_,ins',_,av,h,fzD_ok ins,hle,hf,hK⟩)⟩
theorem CallOk.lendF {f:Nat} {ins ins':List AV} {upd:Os} {news:List Nat} {av:AV} (h:Spec P f [] ins' av upd news) (hle:leAs (fzD os ins).1 ins') (hf:flatR av=true) (hu:FlatOs upd) (hK:K av ((fzD os ins).2.map (·.1)) news upd):CallOk P f ins os K :=
 ⟨.inr (.inr ⟨_,ins',_,upd,news,av,h,fzD_ok ins,hle,hf,hu,hK⟩)⟩
theorem run_enter {c:Go.Call} {f:Operand} {g:Nat} {cus:List Value} {ρ:Operand→Value} {w:World} (ho:o.op=.call c) (hc:c.callee=.value f) (hcall:callable P g=true) (e1:ρ f=.func (.func g) #[] cus.toArray) :
  (execOp ρ o).run P w=.ok (.enter g (c.args.toList.map ρ++cus).toArray) w:=by
 unfold callable at hcall
 split at hcall
 ·rename_i fn hfn
  simp only [Bool.and_eq_true,Bool.not_eq_true',beq_eq_false_iff_ne,ne_eq] at hcall
  have hbody:fn.body.isNone=false:=by cases hb:fn.body<;>simp_all
  have hm:c.args.map ρ++cus.toArray=(c.args.toList.map ρ++cus).toArray:=by
   apply Array.toList_inj.1
   simp
  simp [execOp,ho,resolve,hc,e1,Deferred.ofValue,invoke,callFunc,hfn,hcall.2,hm]
  intro hbn
  rw [hbn] at hbody
  cases hbody
 ·cases hcall
theorem st_lend {c:Go.Call} {f:Operand} {g:Nat} {caps:List AV} (ho:o.op=.call c) (hc:c.callee=.value f) (hf:ev f=.fn g caps) {ins0 ins':List AV} {gz:Os} {av:AV} (hspec:Spec P g [] ins' av [] [])
  (hz:LendOk os (c.args.toList.map ev++caps) ins0 gz) (hle:leAs ins0 ins') (hfl:flatA av=true) (hK:K av (gz.map (·.1)) [] []):Ans P o ev os K:=by
 intro _
 obtain ⟨hcall,hnews,hspec⟩:=hspec
 refine ⟨av,gz,[],[],fun cx w ρ hok hr=>?_,hz.sub,fun id hid=>(by cases hid),hK⟩
 have rf:Rd cx w (ρ f) (.fn g caps):=by
  have:=hr f (by simp [ho,Op.operands,Go.Call.operands,hc])
  rwa [hf] at this
 obtain ⟨cus,e1,hcus⟩:=rf.fn_
 have hargs:Rds cx w (c.args.toList.map ρ++cus) (c.args.toList.map ev++caps):=(rds_map fun x hx=>hr x (by simp [ho,Op.operands,Go.Call.operands,hc]; exact .inr (by simpa using hx))).append hcus
 have hargs':=leAs_rds hle (hz.run cx w _ hok hargs)
 have p1:=Post.freeze hok
 have no:∀(id:Nat) (o:Obj),lk ([]:Os) id=some o→False:=fun id o h=>(by cases h)
 have ok1:HOk (cx.fz gz) w []:=⟨fun id o h=>(no id o h).elim,fun id o b h=>(no id o h).elim,fun id id' o o' b _ h=>(no id o h).elim,p1.hok.phi⟩
 have hcalls:=hspec (cx.fz gz) w (c.args.toList.map ρ++cus).toArray ok1 (by simpa using hargs')
 rw [run_enter ho hc hcall e1]
 refine hcalls.mono fun e w' ⟨v,c',he,hp,hrd⟩=>⟨v,he,cx,⟨hp.wos,hp.tape,hp.output,hp.size,fun _ h=>h,fun _ h=>.inl h,fun b hb _=>hp.keep b hb fun ⟨id,o,h,_⟩=>no id o h,fun _ _=>⟨rfl,rfl⟩,
  ⟨fun id o h=>(no id o h).elim,fun id o b h=>(no id o h).elim,fun id id' o o' b _ h=>(no id o h).elim,fun b hb=>Nat.lt_of_lt_of_le (hok.phi b hb) hp.size⟩,fun id o b h=>(no id o h).elim⟩,flatA_rd hfl hrd⟩
theorem st_lendF {c:Go.Call} {f:Operand} {g:Nat} {caps:List AV} (ho:o.op=.call c) (hc:c.callee=.value f) (hf:ev f=.fn g caps) {ins0 ins':List AV} {gz upd:Os} {news:List Nat} {av:AV} (hspec:Spec P g [] ins' av upd news)
  (hz:LendOk os (c.args.toList.map ev++caps) ins0 gz) (hle:leAs ins0 ins') (hfl:flatR av=true) (hfu:FlatOs upd) (hK:K av (gz.map (·.1)) news upd):Ans P o ev os K:=by
 intro _
 obtain ⟨hcall,hnews,hspec⟩:=hspec
 refine ⟨av,gz,upd,news,fun cx w ρ hok hr=>?_,hz.sub,hnews,hK⟩
 have rf:Rd cx w (ρ f) (.fn g caps):=by
  have:=hr f (by simp [ho,Op.operands,Go.Call.operands,hc])
  rwa [hf] at this
 obtain ⟨cus,e1,hcus⟩:=rf.fn_
 have hargs:Rds cx w (c.args.toList.map ρ++cus) (c.args.toList.map ev++caps):=(rds_map fun x hx=>hr x (by simp [ho,Op.operands,Go.Call.operands,hc]; exact .inr (by simpa using hx))).append hcus
 have hargs':=leAs_rds hle (hz.run cx w _ hok hargs)
 have p1:=Post.freeze hok
 have no:∀(id:Nat) (o:Obj),lk ([]:Os) id=some o→False:=fun id o h=>(by cases h)
 have ok1:HOk (cx.fz gz) w []:=⟨fun id o h=>(no id o h).elim,fun id o b h=>(no id o h).elim,fun id id' o o' b _ h=>(no id o h).elim,p1.hok.phi⟩
 have hcalls:=hspec (cx.fz gz) w (c.args.toList.map ρ++cus).toArray ok1 (by simpa using hargs')
 rw [run_enter ho hc hcall e1]
 refine hcalls.mono fun e w' ⟨v,c',he,hp,hrd⟩=>⟨v,he,{ c' with Φ:=cx.Φ },⟨hp.wos,hp.tape,hp.output,hp.size,fun _ h=>h,fun _ h=>.inl h,fun b hb _=>hp.keep b hb fun ⟨id,o,h,_⟩=>no id o h,fun i hi=>hp.ctx i hi,
  ⟨fun id o h=>(hfu.at h).rep (hp.hok.rep id o h) rfl rfl,fun id o b h hf=>?_,fun id id' o o' b hne h h' hf=>?_,fun b hb=>Nat.lt_of_lt_of_le (hok.phi b hb) hp.size⟩,fun id o b h hf=>?_⟩,flatR_rd hfl hrd rfl⟩
 ·have hf':foot c' id o b:=by cases o<;>exact hf
  have:=hp.hok.lt id o b h hf'
  exact ⟨this.1,fun hb=>this.2 (hp.phi b (.inl hb))⟩
 ·have hf1:foot c' id o b:=by cases o<;>exact hf
  intro hf2
  have hf2':foot c' id' o' b:=by cases o'<;>exact hf2
  exact hp.hok.sep id id' o o' b hne h h' hf1 hf2'
 ·have hf':foot c' id o b:=by cases o<;>exact hf
  rcases hp.feet id o b h hf' with h1|⟨i,x,h1,_⟩
  ·exact .inl h1
  ·exact (no i x h1).elim
theorem st_call {c:Go.Call} {f:Operand} {g:Nat} {caps:List AV} (ho:o.op=.call c) (hc:c.callee=.value f) (hf:ev f=.fn g caps) (h:CallOk P g (c.args.toList.map ev++caps) os K):Ans P o ev os K:=by
 rcases h.out with ⟨ins0,ins',gz,need,upd,news,av,hspec,hz,hle,hs,hd,hfr,hK⟩|⟨ins0,ins',gz,av,hspec,hz,hle,hfl,hK⟩|⟨ins0,ins',gz,upd,news,av,hspec,hz,hle,hfl,hfu,hK⟩
 case inr.inl=>exact st_lend ho hc hf hspec hz hle hfl hK
 case inr.inr=>exact st_lendF ho hc hf hspec hz hle hfl hfu hK
 intro _
 obtain ⟨hcall,hnews,hspec⟩:=hspec
 have hsub:=subP_spec hs
 obtain ⟨s1,s2,s3⟩:=lk_app_sub hz.sub hsub
 have hnone:∀id x,lk need id=some x→lk gz id=none:=fun id x h=>by
  have:=List.all_eq_true.1 hd _ (lk_mem h)
  simpa using this
 refine ⟨av,gz++need,upd++goneOf gz,news,fun cx w ρ hok hr=>?_,s1,fun id hid=>?_,hK⟩
 ·have rf:Rd cx w (ρ f) (.fn g caps):=by
   have:=hr f (by simp [ho,Op.operands,Go.Call.operands,hc])
   rwa [hf] at this
  obtain ⟨cus,e1,hcus⟩:=rf.fn_
  have hargs:Rds cx w (c.args.toList.map ρ++cus) (c.args.toList.map ev++caps):=(rds_map fun x hx=>hr x (by simp [ho,Op.operands,Go.Call.operands,hc]; exact .inr (by simpa using hx))).append hcus
  have hargs':=leAs_rds hle (hz.run cx w _ (hok.sub s3) hargs)
  have p1:=(Post.freeze (hok.sub s3)).widen s3
  have ok1:HOk (cx.fz gz) w need:=by
   have hfrm:=hok.frame (fun _ _ h=>h) p1 (fun _ h=>(by cases h)) (fun _ _ _ _ _ h=>(by cases h))
   refine hfrm.sub fun id x hl=>?_
   have hg:lk (goneOf gz) id=none:=by
    have:=goneOf_some gz id
    rw [hnone id x hl] at this
    cases hq:lk (goneOf gz) id with
    |none=>rfl
    |some y=>rw [hq] at this; cases this
   rw [lk_append,hg]
   simpa using s2 id x hl
  have hcalls:=hspec (cx.fz gz) w (c.args.toList.map ρ++cus).toArray ok1 (by simpa using hargs')
  rw [run_enter ho hc hcall e1]
  refine hcalls.mono fun e w' ⟨v,c',he,hp,hrd⟩=>⟨v,he,c',?_,hrd⟩
  have:=Post.trans hok p1 hp (fun _ h=>(by cases h)) hnews (fun id x hl=>by
   have hg:lk (goneOf gz) id=none:=by
    have:=goneOf_some gz id
    rw [hnone id x hl] at this
    cases hq:lk (goneOf gz) id with
    |none=>rfl
    |some y=>rw [hq] at this; cases this
   rw [lk_append,hg]
   simpa using s2 id x hl) (fun _ _ _ _ _ h=>(by cases h)) (fun id x hl hu y hy=>by
   rw [lk_append] at hl
   cases hg:lk (goneOf gz) id with
   |some z =>
    rw [hg] at hl
    simp at hl
    subst hl
    rw [lk_gone hg]
    simp [Obj.ids]
   |none =>
    rw [hg] at hl
    simp at hl
    rw [lk_append] at hl
    cases hgz:lk gz id with
    |some z =>
     rw [hgz] at hl
     simp at hl
     subst hl
     rw [hz.ids id z hgz]
     simp
    |none =>
     rw [hgz] at hl
     simp at hl
     exact freshIn_spec (List.all_eq_true.1 hfr _ (lk_mem hl)) y hy)
  simpa using this
 ·rw [lk_append]
  have:=hnews id hid
  cases hu:lk upd id with
  |none=>rw [hu] at this; cases this
  |some x=>rfl
def isDp (os:Os):AV→Bool
 |.own id=>match lk os id with
  |some (.deep _ _ _ _ _ _)=>true
  |_=>false
 |.ep id _ _ _=>match lk os id with
  |some (.deep _ _ _ _ _ _)=>true
  |_=>false
 |_=>false
def deepT (tab:Tab) (t:TypeId):Bool:=match lk tab t with
 |some ti=>match lk tab ti.elem with
  |some te=>Nat.beq te.kind 1 && Nat.beq te.len 1
  |none=>false
 |none=>false
theorem bcase {b:Bool} {X Y Z:Prop} (h:bif b then X else Y) (hx:b=true→X→Z) (hy:b=false→Y→Z):Z:=by
 cases b
 ·exact hy rfl h
 ·exact hx rfl h
def kind2 (tab:Tab) (t:TypeId):Bool:=match lk tab t with
 |some ti=>Nat.beq ti.kind 2
 |none=>false
def lenT (tab:Tab) (t:TypeId) (x:AV):Bool :=
 match lk tab t with
 |some ti=>match x with
  |.str _=>Nat.beq ti.kind 4
  |.mp _=>Nat.beq ti.kind 8
  |_=>Nat.beq ti.kind 2
 |none=>false
def stCall (P:Program) (tab:Tab) (d:Nat) (c:Go.Call) (ev:Ev) (os:Os) (K:Kt):Prop :=
 match c.callee with
 |.builtin b=>match b,c.args.toList,c.argTypes.toList with
  |.len,[x],[t]=>bif isDp os (ev x) then (match kind2 tab t with
    |true=>stLenD os (ev x) K
    |false=>False) else match lenT tab t (ev x) with
   |true=>stLen os (ev x) K
   |false=>False
  |.append,[x,y],[t,t']=>bif isDp os (ev x) then stAppendD tab os d t t' (ev x) (ev y) K else stAppend tab os d t t' (ev x) (ev y) K
  |.min,[x,y],_=>stMin (ev x) (ev y) K
  |.max,[x,y],_=>stMax (ev x) (ev y) K
  |_,_,_=>False
 |.value f=>match ev f with
  |.fn g caps=>CallOk P g (c.args.toList.map ev++caps) os K
  |_=>False
 |.invoke _ _=>False
theorem st_calls (hT:TabOk P tab) (d:Nat) {c:Go.Call} (ho:o.op=.call c) (h:stCall P tab d c ev os K):Ans P o ev os K:=by
 unfold stCall at h
 obtain ⟨callee,args,argTypes⟩:=c
 split at h
 ·rename_i b hb
  simp only at hb
  subst hb
  split at h
  ·rename_i x t ha ht
   have ha':args=#[x]:=by simpa using congrArg List.toArray ha
   have ht':argTypes=#[t]:=by simpa using congrArg List.toArray ht
   subst ha' ht'
   refine bcase h (fun _ h=>?_) fun _ h=>?_
   ·split at h
    ·rename_i hk
     unfold kind2 at hk
     split at hk
     ·rename_i ti hti
      exact st_lenD hT hti (Nat.eq_of_beq_eq_true hk) ho h
     ·cases hk
    ·exact h.elim
   split at h
   ·rename_i hl
    refine st_len hT ho ?_ h
    unfold lenT at hl
    split at hl
    ·rename_i ti hti
     rw [hti]
     split at hl
     ·rename_i s hx
      rw [hx]
      exact Nat.eq_of_beq_eq_true hl
     ·rename_i s hx
      rw [hx]
      exact Nat.eq_of_beq_eq_true hl
     ·rename_i hne hne2
      have:=Nat.eq_of_beq_eq_true hl
      cases hx:ev x<;>first|exact this|exact absurd hx (hne _)|exact absurd hx (hne2 _)
    ·cases hl
   ·exact h.elim
  ·rename_i x y t t' ha ht
   have ha':args=#[x,y]:=by simpa using congrArg List.toArray ha
   have ht':argTypes=#[t,t']:=by simpa using congrArg List.toArray ht
   subst ha' ht'
   exact bcase h (fun _ h=>st_appendD hT d ho h) fun _ h=>st_append hT d ho h
  ·rename_i x y ha
   have ha':args=#[x,y]:=by simpa using congrArg List.toArray ha
   subst ha'
   exact st_min ho h
  ·rename_i x y ha
   have ha':args=#[x,y]:=by simpa using congrArg List.toArray ha
   subst ha'
   exact st_max ho h
  ·exact h.elim
 ·rename_i f hf
  split at h
  ·rename_i g caps hg
   exact st_call ho hf hg h
  ·exact h.elim
 ·exact h.elim
def stepOp (P:Program) (tab:Tab) (et:EqTab) (d:Nat) (op:Op) (ev:Ev) (os:Os) (K:Kt):Prop :=
 match op with
 |.move x=>K (ev x) [] [] []
 |.assign x=>K (ev x) [] [] []
 |.pick c a b=>stPick ev c a b K
 |.alloc t=>stAlloc tab d t K
 |.box t x=>stBox d t (ev x) K
 |.build t ps=>stBuild tab ev t ps K
 |.buildSlice t n ps=>bif deepT tab t then (stBuildD tab os ev d t n ps K∨stBuildSlice tab os ev d t n ps K) else stBuildSlice tab os ev d t n ps K
 |.load t x=>bif isDp os (ev x) then stLoadD tab os t (ev x) K else stLoad tab os t (ev x) (resK os K)
 |.store t x y=>bif isDp os (ev x) then stStoreD tab os t (ev x) (ev y) K else stStore2 tab os t (ev x) (ev y) K
 |.nilCheck x=>stNil (ev x) K
 |.binOp op t x y _=>stBin tab et op t (ev x) (ev y) (fun av=>K av [] [] [])
 |.unOp op _ x=>stUn op (ev x) K
 |.convert s t x=>stConv tab s t (ev x) K
 |.makeFunc fn f c=>stFunc ev fn f c K
 |.makeSlice t x y=>stMake tab d t (ev x) (ev y) K
 |.slice t x lo hi none=>bif isDp os (ev x) then stSliceD tab os d t (ev x) (evOpt ev lo) (evOpt ev hi) K else stSlice tab os d t (ev x) (evOpt ev lo) (evOpt ev hi) K
 |.fieldAddr s x f=>stFieldAddr tab s (ev x) f K
 |.field s x f=>stField tab s (ev x) f K
 |.indexAddr t x i=>bif isDp os (ev x) then stIndexAddrD tab os t (ev x) (ev i) K else stIndexAddr tab os t (ev x) (ev i) K
 |.index t x i=>stIndex tab t (ev x) (ev i) K
 |.extract x i=>stExtract (ev x) i K
 |.makeMap _ none=>stMakeMap d K
 |.lookup t x k false=>stLookup tab os t (ev x) (ev k) K
 |.mapUpdate t x k v=>stMapUpdate tab os t (ev x) (ev k) (ev v) K
 |.call c=>stCall P tab d c ev os K
 |_=>False
theorem step_ok (hT:TabOk P tab) (hE:EqTabOk P et) (d:Nat) (h:stepOp P tab et d o.op ev os K):Ans P o ev os K:=by
 cases ho:o.op<;>rw [ho] at h<;>simp only [stepOp] at h
 case move x=>exact st_move (.inl ho) h
 case assign x=>exact st_move (.inr ho) h
 case pick c a b=>exact st_pick ho h
 case alloc t=>exact st_alloc hT d ho h
 case box t x=>exact st_box d ho h
 case build t ps=>exact st_build hT ho h
 case buildSlice t n ps=>exact bcase h (fun _ h=>h.elim (fun h=>st_buildD hT d ho h) fun h=>st_buildSlice hT d ho h) fun _ h=>st_buildSlice hT d ho h
 case load t x=>exact bcase h (fun _ h=>st_loadD hT ho h) fun _ h=>(st_load hT ho h).res
 case store t x y=>exact bcase h (fun _ h=>st_storeD hT ho h) fun _ h=>st_store2 hT ho h
 case nilCheck x=>exact st_nil ho h
 case binOp op t x y ty=>exact st_bin hT hE ho h
 case unOp op t x=>exact st_un ho h
 case convert s t x=>exact st_conv hT ho h
 case makeFunc fn f c=>exact st_func ho h
 case makeSlice t x y=>exact st_make hT d ho h
 case slice t x lo hi mx=>cases mx with
  |none=>exact bcase h (fun _ h=>st_sliceD hT d ho h) fun _ h=>st_slice hT d ho h
  |some m=>exact h.elim
 case fieldAddr s x f=>exact st_fieldAddr hT ho h
 case field s x f=>exact st_field hT ho h
 case indexAddr t x i=>exact bcase h (fun _ h=>st_indexAddrD hT ho h) fun _ h=>st_indexAddr hT ho h
 case index t x i=>exact st_index hT ho h
 case extract x i=>exact st_extract ho h
 case makeMap t r=>cases r with
  |none=>exact st_makeMap d ho h
  |some r=>exact h.elim
 case lookup t x k b=>cases b with
  |false=>exact st_lookup hT ho h
  |true=>exact h.elim
 case mapUpdate t x k v=>exact st_mapUpdate hT ho h
 case call c=>exact st_calls hT d ho h
end
end Go.Proofs.Ytkecefjmcimemaa
