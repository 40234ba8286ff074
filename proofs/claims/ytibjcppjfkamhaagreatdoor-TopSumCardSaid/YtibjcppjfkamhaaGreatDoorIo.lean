/- Ghosts for boxes that hold rows of their own: a nil slice in a box is a row; a row in a box has another name. No program in sight. -/
import Derived.Test.YtibjcppjfkamhaaGreatDoorN
namespace Go.Proofs.YtibjcppjfkamhaaGreatDoor
open Go.RowKit
set_option linter.unusedVariables false
def dB9 {α:Type} (e:α→List AV):Option α→AV
 |none=>.nilp
 |some x=>.fp (e x)
section
variable {Γ:Fun}
theorem F6.setHd {c:Ctx} {w:World} {vs:List Value} {xs:List AV} {g:Nat} {v:Value} (h:F6 c w vs xs) (hg:(AV.idss xs).all (fun i=>!Nat.beq i g)=true):F6 (c.setHd g v) w vs xs :=
 F6.mono (c:=c) (c':=c.setHd g v) (fun _ _=>rfl) (fun _ h=>h) (fun id hid=>⟨rfl,by
  have:=List.all_eq_true.1 hg id hid
  have hne:id≠g:=fun e=>by subst e; simp at this
  simp [Ctx.setHd,hne]⟩) h
theorem set_self {α:Type} {l:List α} {k:Nat} {x:α} (h:l[k]?=some x):l.set k x=l:=bS5 h
theorem G5.nilrowB {ts:Ts} {os:Os} (b off id sz e:Nat) {cs:List AV} {e2:Nat} (hb:lk os b=some (.box cs e2)) (hat:cs[off]?=some .nilsl) (hi:(AV.idss cs).all (fun i=>!Nat.beq i id)=true) (hne:Nat.beq b id=false)
  (hf1:K9 [id] ts=true) (hf2:L8 [id] [(b,.box (cs.set off (.own id)) e2),(id,.row sz [] e)] os=true) {a:Act} {w:World} (hrel:G5 Γ ts os a w) :
  G5 Γ ts ((b,.box (cs.set off (.own id)) e2)::(id,.row sz [] e)::os) a w:=by
 have hne:=J2 hne
 refine G5.ghost (need:=[(b,.box cs e2)]) (upd:=[(b,.box (cs.set off (.own id)) e2),(id,.row sz [] e)]) (news:=[id]) [] hrel ⟨hb,trivial⟩ hf1 hf2 (by simp [y7,hne]) fun c hok=>⟨c.setHd id (.slice none 0 0),?_,fun t' y hy=>(by cases hy)⟩
 have kb:lk [(b,Obj.box cs e2)] b=some (.box cs e2):=p9 _ _ _
 have hm:(c.setHd id (.slice none 0 0)).hd id=.slice none 0 0:=by simp [Ctx.setHd]
 obtain ⟨us,u1,u2⟩:=hok.rep b _ kb
 refine Post.same hok rfl (fun i hi=>⟨rfl,by have:i≠id:=(by simpa using hi); simp [Ctx.setHd,this]⟩) (fun x o hl=>?_) (fun x o d hl hf=>?_) (fun x x' o o' d hdis hl hl' hf hf'=>?_)
 ·rcases lk2 hl with ⟨rfl,rfl⟩|⟨_,rfl,rfl⟩
  ·refine ⟨us,u1,?_⟩
   have u3:=u2.setHd (v:=.slice none 0 0) hi
   obtain ⟨v,v1,v2⟩:=u3.get hat
   have hv:=v2.nilsl_
   subst hv
   have:=u3.set off (v:=.slice none 0 0) (a:=.own id) (.own (n:=0) (cap:=0) (A:=none) hm (Nat.le_refl _) (by simp [maxLen]))
   rwa [set_self v1] at this
  ·exact ⟨[],by rw [hm]; exact ⟨.inl ⟨rfl,rfl⟩,by simp,by simp⟩,rfl,fun i us cs h=>by simp at h⟩
 ·rcases lk2 hl with ⟨rfl,rfl⟩|⟨_,rfl,rfl⟩
  ·exact ⟨x,_,kb,by rw [hl]; rfl,hf⟩
  ·have hf:((c.setHd x (.slice none 0 0)).hd x).ownBlock=some d:=hf
   rw [hm] at hf; cases hf
 ·have no:∀d,((c.setHd id (.slice none 0 0)).hd id).ownBlock=some d→False:=fun d h=>by rw [hm] at h; cases h
  rcases lk2 hl with ⟨rfl,rfl⟩|⟨_,rfl,rfl⟩<;>rcases lk2 hl' with ⟨rfl,rfl⟩|⟨_,rfl,rfl⟩
  ·exact hdis rfl
  ·exact no d hf'
  ·exact no d hf
  ·exact hdis rfl
theorem j5.nilrowB {P:Program} {c:Code} {ts:Ts} {os:Os} {Q:Qt} (b off id sz e:Nat) {cs:List AV} {e2:Nat} (hb:lk os b=some (.box cs e2)) (hat:cs[off]?=some .nilsl) (hi:(AV.idss cs).all (fun i=>!Nat.beq i id)=true) (hne:Nat.beq b id=false)
  (hf1:K9 [id] ts=true) (hf2:L8 [id] [(b,.box (cs.set off (.own id)) e2),(id,.row sz [] e)] os=true) (h:j5 P Γ c ts ((b,.box (cs.set off (.own id)) e2)::(id,.row sz [] e)::os) Q):j5 P Γ c ts os Q :=
 ⟨fun a w hrel=>h.run a w (hrel.nilrowB b off id sz e hb hat hi hne hf1 hf2)⟩
theorem G5.reidB {ts:Ts} {os:Os} (b off j g:Nat) {cs:List AV} {e2 sz e:Nat} {ls:List (List AV)} (hb:lk os b=some (.box cs e2)) (hat:cs[off]?=some (.own j)) (hj:lk os j=some (.row sz ls e)) (hi:(AV.idss cs).all (fun i=>!Nat.beq i g)=true)
  (hn1:Nat.beq b j=false) (hn2:Nat.beq b g=false) (hn3:Nat.beq j g=false)
  (hf1:K9 [g] ts=true) (hf2:L8 [g] [(b,.box (cs.set off (.own g)) e2),(g,.row sz ls e),(j,.gone)] os=true) {a:Act} {w:World} (hrel:G5 Γ ts os a w) :
  G5 Γ ts ((b,.box (cs.set off (.own g)) e2)::(g,.row sz ls e)::(j,.gone)::os) a w:=by
 have hn1:=J2 hn1
 have hn2:=J2 hn2
 have hn3:=J2 hn3
 refine G5.ghost (need:=[(b,.box cs e2),(j,.row sz ls e)]) (upd:=[(b,.box (cs.set off (.own g)) e2),(g,.row sz ls e),(j,.gone)]) (news:=[g]) [] hrel ⟨hb,hj,trivial⟩ hf1 hf2 (by simp [y7,hn2]) fun c hok=>⟨c.setHd g (c.hd j),?_,fun t' y hy=>(by cases hy)⟩
 have kb:lk [(b,Obj.box cs e2),(j,.row sz ls e)] b=some (.box cs e2):=p9 _ _ _
 have kj:lk [(b,Obj.box cs e2),(j,.row sz ls e)] j=some (.row sz ls e):=by rw [G9 _ _ hn1,p9]
 have hm:(c.setHd g (c.hd j)).hd g=c.hd j:=by simp [Ctx.setHd]
 obtain ⟨us,u1,u2⟩:=hok.rep b _ kb
 have rj:O6 c.Φ w (c.hd j) sz ls e:=hok.rep j _ kj
 refine Post.same hok rfl (fun i hi=>⟨rfl,by have:i≠g:=(by simpa using hi); simp [Ctx.setHd,this]⟩) (fun x o hl=>?_) (fun x o d hl hf=>?_) (fun x x' o o' d hdis hl hl' hf hf'=>?_)
 ·rcases lk3 hl with ⟨rfl,rfl⟩|⟨_,rfl,rfl⟩|⟨_,_,rfl,rfl⟩
  ·refine ⟨us,u1,?_⟩
   obtain ⟨v,v1,v2⟩:=u2.get hat
   have u3:=u2.setHd (v:=c.hd j) hi
   obtain ⟨A,n,cap,q1,q2,q3,q4⟩:=v2.own_
   have:=u3.set off (v:=v) (a:=.own g) (by rw [q1]; exact .own (by rw [hm,q2]) q3 q4)
   rwa [set_self v1] at this
  ·show O6 c.Φ w ((c.setHd x (c.hd j)).hd x) sz ls e
   rw [hm]; exact rj
  ·trivial
 ·rcases lk3 hl with ⟨rfl,rfl⟩|⟨_,rfl,rfl⟩|⟨_,_,rfl,rfl⟩
  ·exact ⟨x,_,kb,by rw [hl]; rfl,hf⟩
  ·have hf:((c.setHd x (c.hd j)).hd x).ownBlock=some d:=hf
   rw [hm] at hf
   exact ⟨j,_,kj,by rw [G9 _ _ hn1,G9 _ _ (Ne.symm hn3),p9]; rfl,hf⟩
  ·exact hf.elim
 ·have apart:∀d,((c.setHd g (c.hd j)).hd g).ownBlock=some d→d≠c.μ b:=fun d h e=>by
   rw [hm] at h
   exact hok.sep j b _ _ d (Ne.symm hn1) kj kb h e
  rcases lk3 hl with ⟨rfl,rfl⟩|⟨_,rfl,rfl⟩|⟨_,_,rfl,rfl⟩<;>rcases lk3 hl' with ⟨rfl,rfl⟩|⟨_,rfl,rfl⟩|⟨_,_,rfl,rfl⟩<;>first|exact hdis rfl|exact hf.elim|exact hf'.elim|exact apart d hf hf'|exact apart d hf' hf
theorem j5.reidB {P:Program} {c:Code} {ts:Ts} {os:Os} {Q:Qt} (b off j g:Nat) {cs:List AV} {e2 sz e:Nat} {ls:List (List AV)} (hb:lk os b=some (.box cs e2)) (hat:cs[off]?=some (.own j)) (hj:lk os j=some (.row sz ls e)) (hi:(AV.idss cs).all (fun i=>!Nat.beq i g)=true)
  (hn1:Nat.beq b j=false) (hn2:Nat.beq b g=false) (hn3:Nat.beq j g=false)
  (hf1:K9 [g] ts=true) (hf2:L8 [g] [(b,.box (cs.set off (.own g)) e2),(g,.row sz ls e),(j,.gone)] os=true) (h:j5 P Γ c ts ((b,.box (cs.set off (.own g)) e2)::(g,.row sz ls e)::(j,.gone)::os) Q):j5 P Γ c ts os Q :=
 ⟨fun a w hrel=>h.run a w (hrel.reidB b off j g hb hat hj hi hn1 hn2 hn3 hf1 hf2)⟩
theorem G5.leBox {ts:Ts} {os:Os} (id:Nat) {cs:List AV} {e:Nat} (cs':List AV) (hid:lk os id=some (.box cs e)) (hle:aJ4 cs cs') {a:Act} {w:World} (hrel:G5 Γ ts os a w):G5 Γ ts ((id,.box cs' e)::os) a w :=
 G5.ghost (need:=[(id,.box cs e)]) (upd:=[(id,.box cs' e)]) (news:=[]) [] hrel ⟨hid,trivial⟩ rfl rfl rfl fun c hok =>
  ⟨c,Post.same hok rfl (fun _ _=>⟨rfl,rfl⟩) (fun x o hl=>by
   obtain ⟨rfl,rfl⟩:=lk1 hl
   obtain ⟨us,u1,u2⟩:=hok.rep x _ (p9 _ _ _)
   exact ⟨us,u1,bE0 hle u2⟩) (fun x o d hl hf=>by
   obtain ⟨rfl,rfl⟩:=lk1 hl
   exact ⟨x,_,p9 _ _ _,by rw [p9]; rfl,hf⟩) (fun x x' o o' d hdis hl hl' _=>by
   obtain ⟨rfl,_⟩:=lk1 hl
   obtain ⟨rfl,_⟩:=lk1 hl'
   exact absurd rfl hdis),fun t' y hy=>(by cases hy)⟩
theorem j5.leBox {P:Program} {c:Code} {ts:Ts} {os:Os} {Q:Qt} (id:Nat) {cs:List AV} {e:Nat} (cs':List AV) (hid:lk os id=some (.box cs e)) (hle:aJ4 cs cs') (h:j5 P Γ c ts ((id,.box cs' e)::os) Q):j5 P Γ c ts os Q :=
 ⟨fun a w hrel=>h.run a w (hrel.leBox id cs' hid hle)⟩
theorem y5.leBox {ts:Ts} {os:Os} {Q:Qt} (id:Nat) {cs:List AV} {e:Nat} (cs':List AV) (hid:lk os id=some (.box cs e)) (hle:aJ4 cs cs') (h:y5 Γ ts ((id,.box cs' e)::os) Q):y5 Γ ts os Q :=
 ⟨fun a w hrel=>h.run a w (hrel.leBox id cs' hid hle)⟩
end
def ixd {α:Type} (p:α→Bool) (d:α) (l:List α):List α×Nat:=match l.findIdx? p with
 |some k=>(l,k)
 |none=>(l++[d],l.length)
theorem b82 {α:Type} {l:List α} {k:Nat} {x:α} (h:l[k]?=some x):l.take (k+1)=l.take k++[x]:=by
 rw [List.take_add_one,h]; rfl
theorem bI1 (z:List (Hd×List AV×List (List AV))) (x:Hd×List AV×List (List AV)):D6 (z++[x])=D6 z++[x.2.1++[.con x.1.v]]:=by simp [D6]
theorem bN5 (z:List (Hd×List AV×List (List AV))) (x:Hd×List AV×List (List AV)):U9 (z++[x])=U9 z++[(x.1,x.2.2)]:=by simp [U9]
theorem bI9 {z:List (Hd×List AV×List (List AV))} {α:Type} {l:List α} {f:α→List AV×List (List AV)} (h:z.map (·.2)=l.map f):z.length=l.length:=by
 have:=congrArg List.length h
 simpa using this
def ixf {α:Type} (p:α→Bool) (l:List α):Int:=match l.findIdx? p with
 |some i=>i
 |none=>-1
theorem bN2 {α:Type} (p:α→Bool) (x:α) (l:List α):(x::l).findIdx? p=if p x=true then some 0 else (l.findIdx? p).map (·+1):=by
 rw [List.findIdx?_cons]
theorem b31 {α:Type} (p:α→Bool) (l:List α):(∃(k:Nat) (x:α),ixf p l=(k:Int)∧l[k]?=some x∧p x=true∧l.findIdx? p=some k)∨(ixf p l=-1∧l.findIdx? p=none):=by
 unfold ixf
 cases h:l.findIdx? p with
 |none=>exact .inr ⟨rfl,rfl⟩
 |some k =>
  obtain ⟨hk,hp,_⟩:=List.findIdx?_eq_some_iff_getElem.1 h
  exact .inl ⟨k,l[k],rfl,List.getElem?_eq_getElem hk,hp,rfl⟩
theorem List.getElem_cons_eraseIdx_perm' {α:Type}:∀{l:List α} {n:Nat} (h:n < l.length),(l[n]::l.eraseIdx n).Perm l
 |x::l,0,_=>.refl _
 |x::l,n+1,h=>by
  have ih:=List.getElem_cons_eraseIdx_perm' (l:=l) (n:=n) (by simpa using h)
  exact (List.Perm.swap x _ _).trans (ih.cons x)
theorem bM4 {α:Type} {l:List α} {k:Nat} {x:α} (h:l[k]?=some x) {f:α→α}:l.modify k f=l.set k (f x):=by
 apply List.ext_getElem?
 intro j
 rw [List.getElem?_modify,List.getElem?_set]
 split
 ·rename_i e
  subst e
  rw [h,if_pos (List.getElem?_eq_some_iff.1 h).1]
  rfl
 ·cases l[j]?<;>rfl
theorem set_perm {α:Type}:∀{l:List α} {k:Nat} {a:α},k < l.length→(l.set k a).Perm (a::l.eraseIdx k)
 |x::l,0,a,_=>.refl _
 |x::l,k+1,a,h=>((set_perm (l:=l) (k:=k) (a:=a) (by simpa using h)).cons x).trans (List.Perm.swap _ _ _)
theorem cP2 {α β:Type} {z:List (Hd×β)} {l:List α} {f:α→β} (h:z.map (·.2)=l.map f) {k:Nat} {x:α} (hx:l[k]?=some x):∃g,z[k]?=some (g,f x):=by
 have:(z.map (·.2))[k]?=some (f x):=by rw [h]; simp [hx]
 rw [List.getElem?_map,Option.map_eq_some_iff] at this
 obtain ⟨⟨g,b⟩,h1,h2⟩:=this
 exact ⟨g,by rw [h1,←h2]⟩
end Go.Proofs.YtibjcppjfkamhaaGreatDoor
