/- Ghosts for rows within rows: an inner row is frozen where it lies; a nest is a row of frozen rows. No program in sight. -/
import Derived.Test.YtibjcppjfkamhaaGreatDoorM
namespace Go.Proofs.YtibjcppjfkamhaaGreatDoor
open Go.RowKit
set_option linter.unusedVariables false
section
variable {Γ:Fun}
theorem bS5 {α:Type} {l:List α} {k:Nat} {x:α} (h:l[k]?=some x):l.set k x=l:=by
 apply List.ext_getElem?
 intro j
 rw [List.getElem?_set]
 split
 ·rename_i e
  subst e
  split
  ·exact h.symm
  ·rw [List.getElem?_eq_none (by omega)]
 ·rfl
theorem J4.set_ {Φ:Nat→Prop} {w:World}:∀{vs:List Value} {xs:List AV},J4 Φ w vs xs→∀(n:Nat) {v:Value} {a:AV},vs[n]?=some v→Rf Φ w v a→J4 Φ w vs (xs.set n a)
 |_,_,.nil,n,_,_,h,_=>by simp at h
 |_,_,.cons h t,0,_,_,e,k=>by simp at e; subst e; exact .cons k t
 |_,_,.cons h t,n+1,_,_,e,k=>.cons h (J4.set_ t n (by simpa using e) k)
theorem G5.fzIn {ts:Ts} {os:Os} (r i off j j':Nat) {sz e isz ie:Nat} {ls li:List (List AV)} {cs:List AV} {v:Value} (hr:lk os r=some (.row sz ls e)) (hj:lk os j=some (.row isz li ie)) (hj':lk os j'=some (.eqv j v))
  (hi:ls[i]?=some cs) (ho:cs[off]?=some (.con v)) (hn1:Nat.beq r j=false) (hn2:Nat.beq r j'=false) (hn3:Nat.beq j j'=false) {a:Act} {w:World} (hrel:G5 Γ ts os a w) :
  G5 Γ ts ((r,.row sz (ls.set i (cs.set off (.sl isz li))) e)::(j,.gone)::(j',.gone)::os) a w:=by
 have hn1:=J2 hn1
 have hn2:=J2 hn2
 have hn3:=J2 hn3
 refine G5.ghost (need:=[(r,.row sz ls e),(j,.row isz li ie),(j',.eqv j v)]) (upd:=[(r,.row sz (ls.set i (cs.set off (.sl isz li))) e),(j,.gone),(j',.gone)]) (news:=[]) [] hrel ⟨hr,hj,hj',trivial⟩ rfl rfl rfl fun c hok=>?_
 have kr:lk [(r,Obj.row sz ls e),(j,.row isz li ie),(j',.eqv j v)] r=some (.row sz ls e):=p9 _ _ _
 have kj:lk [(r,Obj.row sz ls e),(j,.row isz li ie),(j',.eqv j v)] j=some (.row isz li ie):=by rw [G9 _ _ hn1,p9]
 have kj':lk [(r,Obj.row sz ls e),(j,.row isz li ie),(j',.eqv j v)] j'=some (.eqv j v):=by rw [G9 _ _ hn2,G9 _ _ hn3,p9]
 have hg:∀x o,lk [(j,Obj.row isz li ie)] x=some o→lk [(r,Obj.row sz ls e),(j,.row isz li ie),(j',.eqv j v)] x=some o:=fun x o h=>by
  obtain ⟨rfl,rfl⟩:=lk1 h
  exact kj
 have hv:c.hd j=v:=hok.rep j' _ kj'
 have hown:Rd c w v (.own j):=by
  obtain ⟨css,q1,q2,q3⟩:=hok.rep j _ kj
  obtain ⟨A,cap,e1,e2,e3⟩:=q1.head
  rw [←hv,e1]
  exact .own (by rw [e1]) e2 e3
 have hsl:Rf (c.fz [(j,.row isz li ie)]).Φ w v (.sl isz li):=(bE5 (hok.sub hg) (p9 _ _ _) hown).rf (by simp [AV.ids])
 have ups:∀id,(lk [(r,Obj.row sz (ls.set i (cs.set off (.sl isz li))) e),(j,.gone),(j',.gone)] id).isSome=true↔id=r∨id=j∨id=j':=fun id=>by
  rw [y7,y7,y7]
  by_cases h1:r=id<;>by_cases h2:j=id<;>by_cases h3:j'=id<;>simp [h1,h2,h3,lk]<;>omega
 refine ⟨c.fz [(j,.row isz li ie)],⟨rfl,rfl,rfl,Nat.le_refl _,fun b h=>.inl h,fun b hb=>?_,fun _ _ _=>rfl,fun _ _=>⟨rfl,rfl⟩,⟨fun id o hl=>?_,fun id o b hl hf=>?_,fun id id' o o' b hdis hl hl' hf hf'=>?_,fun b hb=>?_⟩,fun id o b hl hf=>?_⟩,fun t' y hy=>(by cases hy)⟩
 ·rcases hb with h|⟨id,o,h1,h2⟩
  ·exact .inl h
  ·obtain ⟨rfl,rfl⟩:=lk1 h1
   exact .inr (.inr ⟨id,_,kj,(ups id).2 (.inr (.inl rfl)),h2⟩)
 ·rcases lk3 hl with ⟨rfl,rfl⟩|⟨_,rfl,rfl⟩|⟨_,_,rfl,rfl⟩
  ·obtain ⟨css,q1,q2,q3⟩:=hok.rep id _ kr
   refine ⟨css,q1,by simpa using q2,fun n us cs' hu hc=>?_⟩
   have up:∀{us:List Value} {xs:List AV},J4 c.Φ w us xs→J4 (c.fz [(j,.row isz li ie)]).Φ w us xs:=fun h=>h.mono (fun _ _=>rfl) fun _ h=>.inl h
   rw [List.getElem?_set] at hc
   split at hc
   ·rename_i en
    subst en
    split at hc
    ·cases hc
     have h0:=q3 i us cs hu hi
     obtain ⟨u,v1,v2⟩:=h0.get ho
     have hu:u=v:=by cases v2; rfl
     subst hu
     exact (up h0).set_ off v1 hsl
    ·cases hc
   ·exact up (q3 n us cs' hu hc)
  ·trivial
  ·trivial
 ·rcases lk3 hl with ⟨rfl,rfl⟩|⟨_,rfl,rfl⟩|⟨_,_,rfl,rfl⟩
  ·have h1:=hok.lt id _ b kr hf
   refine ⟨h1.1,fun h=>?_⟩
   rcases h with h|⟨x,o,h2,h3⟩
   ·exact h1.2 h
   ·obtain ⟨rfl,rfl⟩:=lk1 h2
    exact hok.sep id x _ _ b hn1 kr kj hf h3
  ·exact hf.elim
  ·exact hf.elim
 ·rcases lk3 hl with ⟨rfl,rfl⟩|⟨_,rfl,rfl⟩|⟨_,_,rfl,rfl⟩<;>rcases lk3 hl' with ⟨rfl,rfl⟩|⟨_,rfl,rfl⟩|⟨_,_,rfl,rfl⟩<;>first|exact hdis rfl|exact hf.elim|exact hf'.elim
 ·rcases hb with h|⟨id,o,h1,h2⟩
  ·exact hok.phi b h
  ·obtain ⟨rfl,rfl⟩:=lk1 h1
   exact (hok.lt id _ b kj h2).1
 ·rcases lk3 hl with ⟨rfl,rfl⟩|⟨_,rfl,rfl⟩|⟨_,_,rfl,rfl⟩
  ·exact .inr ⟨id,_,kr,(ups id).2 (.inl rfl),hf⟩
  ·exact hf.elim
  ·exact hf.elim
theorem j5.fzIn {P:Program} {c:Code} {ts:Ts} {os:Os} {Q:Qt} (r i off j j':Nat) {sz e isz ie:Nat} {ls li:List (List AV)} {cs:List AV} {v:Value} (hr:lk os r=some (.row sz ls e)) (hj:lk os j=some (.row isz li ie)) (hj':lk os j'=some (.eqv j v))
  (hi:ls[i]?=some cs) (ho:cs[off]?=some (.con v)) (hn1:Nat.beq r j=false) (hn2:Nat.beq r j'=false) (hn3:Nat.beq j j'=false) (h:j5 P Γ c ts ((r,.row sz (ls.set i (cs.set off (.sl isz li))) e)::(j,.gone)::(j',.gone)::os) Q):j5 P Γ c ts os Q :=
 ⟨fun a w hrel=>h.run a w (hrel.fzIn r i off j j' hr hj hj' hi ho hn1 hn2 hn3)⟩
theorem G5.flat {ts:Ts} {os:Os} (t id k:Nat) {sz e isz ie:Nat} {l:List (List AV×List (List AV))} (hl:lk ts t=some (.nst id)) (hid:lk os id=some (.nest sz e isz ie l)) (hn:Nat.beq k id=false)
  (hf1:K9 [k] ts=true) (hf2:L8 [k] [(k,.row sz (aF6 isz l) e),(id,.gone)] os=true) {a:Act} {w:World} (hrel:G5 Γ ts os a w) :
  G5 Γ ((t,.own k)::ts) ((k,.row sz (aF6 isz l) e)::(id,.gone)::os) a w:=by
 have hn:=J2 hn
 refine G5.ghost (need:=[(id,.nest sz e isz ie l)]) (upd:=[(k,.row sz (aF6 isz l) e),(id,.gone)]) (news:=[k]) [(t,.own k)] hrel ⟨hid,trivial⟩ hf1 hf2 (by simp [p9]) fun c hok=>?_
 have kid:lk [(id,Obj.nest sz e isz ie l)] id=some (.nest sz e isz ie l):=p9 _ _ _
 obtain ⟨h,z,e1,e2,h3,h4,h5⟩:=hok.rep id _ kid
 have inner:∀p∈U9 z,∀b,p.1.v.ownBlock=some b→foot c id (.nest sz e isz ie l) b:=fun p hp b hb=>by
  refine ⟨p.1.v,?_,hb⟩
  rw [e1]
  simp only [aJ1,List.mem_cons,List.mem_map]
  obtain ⟨q,hq,rfl⟩:=List.mem_map.1 hp
  exact .inr ⟨q,hq,rfl⟩
 have outer:∀b,h.v.ownBlock=some b→foot c id (.nest sz e isz ie l) b:=fun b hb=>⟨h.v,by rw [e1]; simp [aJ1],hb⟩
 let Φ':Nat→Prop:=fun b=>c.Φ b∨∃p∈U9 z,p.1.v.ownBlock=some b
 let c':Ctx:={ (c.setHd k h.v) with Φ:=Φ' }
 have hc':c'.hd k=h.v:=by simp [c',Ctx.setHd]
 have touch:∀b,foot c id (.nest sz e isz ie l) b→Touch c [(id,.nest sz e isz ie l)] [(k,.row sz (aF6 isz l) e),(id,.gone)] b:=fun b hb=>⟨id,_,kid,by rw [G9 _ _ hn,p9]; rfl,hb⟩
 have hnot:∀b,h.v.ownBlock=some b→¬Φ' b:=by
  rintro b hb (hx|⟨p,hp,hx⟩)
  ·exact (hok.lt id _ b kid (outer b hb)).2 hx
  ·obtain ⟨q,hq,rfl⟩:=List.mem_map.1 hp
   exact h5 b q hb hq hx
 refine ⟨c',⟨rfl,rfl,rfl,Nat.le_refl _,fun b hb=>.inl hb,fun b hb=>?_,fun _ _ _=>rfl,fun x hx=>⟨rfl,?_⟩,⟨fun x o hl=>?_,fun x o b hl hf=>?_,fun x x' o o' b hdis hl hl' hf hf'=>?_,fun b hb=>?_⟩,fun x o b hl hf=>?_⟩,fun t' y hy=>?_⟩
 ·rcases hb with hb|⟨p,hp,hb⟩
  ·exact .inl hb
  ·exact .inr (.inr (touch b (inner p hp b hb)))
 ·have:x≠k:=by simpa using hx
  simp [c',Ctx.setHd,this]
 ·rcases lk2 hl with ⟨rfl,rfl⟩|⟨_,rfl,rfl⟩
  ·show O6 Φ' w (c'.hd x) sz (aF6 isz l) e
   rw [hc']
   obtain ⟨css,q1,q2,q3⟩:=h3
   refine ⟨css,q1,by rw [q2]; simp only [D6,aF6,List.length_map,←e2],fun i us cs hu hc=>?_⟩
   have hz:∃p,z[i]?=some p∧cs=p.2.1++[.sl isz p.2.2]:=by
    rw [←e2] at hc
    simp only [aF6,List.map_map] at hc
    rw [List.getElem?_map,Option.map_eq_some_iff] at hc
    obtain ⟨p,hp,rfl⟩:=hc
    exact ⟨p,hp,rfl⟩
   obtain ⟨p,hp,rfl⟩:=hz
   have ho:(D6 z)[i]?=some (p.2.1++[.con p.1.v]):=by simp [D6,hp]
   have h0:=q3 i us _ hu ho
   have hp2:(p.1,p.2.2)∈U9 z:=List.mem_map.2 ⟨p,List.mem_of_getElem? hp,rfl⟩
   obtain ⟨css2,r1,r2,r3⟩:=h4.1 _ hp2
   have hsl:Rf Φ' w p.1.v (.sl isz p.2.2):=r1.rf r2 r3 (fun _ hb=>.inl hb) fun b hb=>.inr ⟨_,hp2,hb⟩
   have h1:J4 Φ' w us (p.2.1++[.con p.1.v]):=h0.mono (fun _ _=>rfl) fun _ hb=>.inl hb
   have hat:(p.2.1++[AV.con p.1.v])[p.2.1.length]?=some (.con p.1.v):=by simp
   obtain ⟨u,u1,u2⟩:=h1.get hat
   have hu2:u=p.1.v:=by cases u2; rfl
   subst hu2
   have:=h1.set_ p.2.1.length u1 hsl
   simpa using this
  ·trivial
 ·rcases lk2 hl with ⟨rfl,rfl⟩|⟨_,rfl,rfl⟩
  ·have hf:h.v.ownBlock=some b:=by rw [←hc']; exact hf
   exact ⟨(hok.lt id _ b kid (outer b hf)).1,hnot b hf⟩
  ·exact hf.elim
 ·rcases lk2 hl with ⟨rfl,rfl⟩|⟨_,rfl,rfl⟩<;>rcases lk2 hl' with ⟨rfl,rfl⟩|⟨_,rfl,rfl⟩<;>first|exact hdis rfl|exact hf.elim|exact hf'.elim
 ·rcases hb with hb|⟨p,hp,hb⟩
  ·exact hok.phi b hb
  ·exact (hok.lt id _ b kid (inner p hp b hb)).1
 ·rcases lk2 hl with ⟨rfl,rfl⟩|⟨_,rfl,rfl⟩
  ·have hf:h.v.ownBlock=some b:=by rw [←hc']; exact hf
   exact .inr (touch b (outer b hf))
  ·exact hf.elim
 ·obtain ⟨rfl,rfl⟩:=bR7 hy
  refine ⟨_,hl,fun v hv=>?_⟩
  obtain ⟨A,n,cap,vs,e6,e7,e8,e9⟩:=hv.nst_
  rw [e1] at e7
  have e10:h.v=.slice A n cap:=by
   injection e7 with e7
   have:=congrArg (fun a:Array Value=>a.toList.head?) e7
   simpa using this
  rw [e6]
  exact .own (by rw [hc',e10]) e8 e9
theorem j5.flat {P:Program} {c:Code} {ts:Ts} {os:Os} {Q:Qt} (t id k:Nat) {sz e isz ie:Nat} {l:List (List AV×List (List AV))} (hl:lk ts t=some (.nst id)) (hid:lk os id=some (.nest sz e isz ie l)) (hn:Nat.beq k id=false)
  (hf1:K9 [k] ts=true) (hf2:L8 [k] [(k,.row sz (aF6 isz l) e),(id,.gone)] os=true) (h:j5 P Γ c ((t,.own k)::ts) ((k,.row sz (aF6 isz l) e)::(id,.gone)::os) Q):j5 P Γ c ts os Q :=
 ⟨fun a w hrel=>h.run a w (hrel.flat t id k hl hid hn hf1 hf2)⟩
theorem G5.leRow {ts:Ts} {os:Os} (id:Nat) {sz e:Nat} {ls:List (List AV)} (q:List (List AV)) (hid:lk os id=some (.row sz ls e)) (hle:aF9 ls q) {a:Act} {w:World} (hrel:G5 Γ ts os a w):G5 Γ ts ((id,.row sz q e)::os) a w :=
 G5.ghost (need:=[(id,.row sz ls e)]) (upd:=[(id,.row sz q e)]) (news:=[]) [] hrel ⟨hid,trivial⟩ rfl rfl rfl fun c hok =>
  ⟨c,Post.leRow (U:=[]) ⟨rfl,rfl,rfl,Nat.le_refl _,fun _ h=>h,fun _ h=>.inl h,fun _ _ _=>rfl,fun _ _=>⟨rfl,rfl⟩,hok,fun i o b hl hf=>.inr ⟨i,o,hl,by rw [hl]; rfl,hf⟩⟩ hle,fun t' y hy=>(by cases hy)⟩
theorem j5.leRow {P:Program} {c:Code} {ts:Ts} {os:Os} {Q:Qt} (id:Nat) {sz e:Nat} {ls:List (List AV)} (q:List (List AV)) (hid:lk os id=some (.row sz ls e)) (hle:aF9 ls q) (h:j5 P Γ c ts ((id,.row sz q e)::os) Q):j5 P Γ c ts os Q :=
 ⟨fun a w hrel=>h.run a w (hrel.leRow id q hid hle)⟩
end
end Go.Proofs.YtibjcppjfkamhaaGreatDoor
