/- Ghosts for boxes that hold rows of their own: a nil slice in a box is a row; a row in a box has another name. No program in sight. -/
import Derived.Test.YtibjcppjfkamhaaGreatDoorN
namespace Go.Proofs.YtibjcppjfkamhaaGreatDoor
open Go.RowKit
set_option linter.unusedVariables false
section
variable {Γ:V7}
theorem y8.setHd {c:Ctx} {w:World} {vs:List Value} {xs:List AV} {g:Nat} {v:Value} (h:y8 c w vs xs) (hg:(AV.idss xs).all (fun i=>!Nat.beq i g)=true):y8 (c.setHd g v) w vs xs :=
 y8.mono (c:=c) (c':=c.setHd g v) (fun _ _=>rfl) (fun _ h=>h) (fun id hid=>⟨rfl,by
  have:=List.all_eq_true.1 hg id hid
  have hne:id≠g:=fun e=>by subst e; simp at this
  simp [Ctx.setHd,hne]⟩) h
theorem set_self {α:Type} {l:List α} {k:Nat} {x:α} (h:l[k]?=some x):l.set k x=l:=cF4 h
theorem C8.nilrowB {ts:Ts} {os:Os} (b off id sz e:Nat) {cs:List AV} {e2:Nat} (hb:lk os b=some (.box cs e2)) (hat:cs[off]?=some .nilsl) (hi:(AV.idss cs).all (fun i=>!Nat.beq i id)=true) (hne:Nat.beq b id=false)
  (hf1:J9 [id] ts=true) (hf2:K3 [id] [(b,.box (cs.set off (.own id)) e2),(id,.row sz [] e)] os=true) {a:Act} {w:World} (hrel:C8 Γ ts os a w) :
  C8 Γ ts ((b,.box (cs.set off (.own id)) e2)::(id,.row sz [] e)::os) a w:=by
 have hne:=V3 hne
 refine C8.ghost (need:=[(b,.box cs e2)]) (upd:=[(b,.box (cs.set off (.own id)) e2),(id,.row sz [] e)]) (news:=[id]) [] hrel ⟨hb,trivial⟩ hf1 hf2 (by simp [q8,hne]) fun c hok=>⟨c.setHd id (.slice none 0 0),?_,fun t' y hy=>(by cases hy)⟩
 have kb:lk [(b,Obj.box cs e2)] b=some (.box cs e2):=l8 _ _ _
 have hm:(c.setHd id (.slice none 0 0)).hd id=.slice none 0 0:=by simp [Ctx.setHd]
 obtain ⟨us,u1,u2⟩:=hok.rep b _ kb
 refine Post.same hok rfl (fun i hi=>⟨rfl,by have:i≠id:=(by simpa using hi); simp [Ctx.setHd,this]⟩) (fun x o hl=>?_) (fun x o d hl hf=>?_) (fun x x' o o' d hdis hl hl' hf hf'=>?_)
 ·rcases lk2 hl with ⟨rfl,rfl⟩|⟨_,rfl,rfl⟩
  ·refine ⟨us,u1,?_⟩
   have u3:=u2.setHd (v:=.slice none 0 0) hi
   obtain ⟨v,v1,v2⟩:=u3.get hat
   have hv:=v2.nilsl_
   subst hv
   have:=u3.set off (v:=.slice none 0 0) (a:=.own id) (.own (n:=0) (cap:=0) (A:=none) hm (Nat.le_refl _) (by simp [maxLen]))
   rwa [set_self v1] at this
  ·exact ⟨[],by rw [hm]; exact ⟨.inl ⟨rfl,rfl⟩,by simp,by simp⟩,rfl,fun i us cs h=>by simp at h⟩
 ·rcases lk2 hl with ⟨rfl,rfl⟩|⟨_,rfl,rfl⟩
  ·exact ⟨x,_,kb,by rw [hl]; rfl,hf⟩
  ·have hf:((c.setHd x (.slice none 0 0)).hd x).ownBlock=some d:=hf
   rw [hm] at hf; cases hf
 ·have no:∀d,((c.setHd id (.slice none 0 0)).hd id).ownBlock=some d→False:=fun d h=>by rw [hm] at h; cases h
  rcases lk2 hl with ⟨rfl,rfl⟩|⟨_,rfl,rfl⟩<;>rcases lk2 hl' with ⟨rfl,rfl⟩|⟨_,rfl,rfl⟩
  ·exact hdis rfl
  ·exact no d hf'
  ·exact no d hf
  ·exact hdis rfl
theorem j4.nilrowB {P:Program} {c:Code} {ts:Ts} {os:Os} {Q:Qt} (b off id sz e:Nat) {cs:List AV} {e2:Nat} (hb:lk os b=some (.box cs e2)) (hat:cs[off]?=some .nilsl) (hi:(AV.idss cs).all (fun i=>!Nat.beq i id)=true) (hne:Nat.beq b id=false)
  (hf1:J9 [id] ts=true) (hf2:K3 [id] [(b,.box (cs.set off (.own id)) e2),(id,.row sz [] e)] os=true) (h:j4 P Γ c ts ((b,.box (cs.set off (.own id)) e2)::(id,.row sz [] e)::os) Q):j4 P Γ c ts os Q :=
 ⟨fun a w hrel=>h.run a w (hrel.nilrowB b off id sz e hb hat hi hne hf1 hf2)⟩
theorem C8.reidB {ts:Ts} {os:Os} (b off j g:Nat) {cs:List AV} {e2 sz e:Nat} {ls:List (List AV)} (hb:lk os b=some (.box cs e2)) (hat:cs[off]?=some (.own j)) (hj:lk os j=some (.row sz ls e)) (hi:(AV.idss cs).all (fun i=>!Nat.beq i g)=true)
  (hn1:Nat.beq b j=false) (hn2:Nat.beq b g=false) (hn3:Nat.beq j g=false)
  (hf1:J9 [g] ts=true) (hf2:K3 [g] [(b,.box (cs.set off (.own g)) e2),(g,.row sz ls e),(j,.gone)] os=true) {a:Act} {w:World} (hrel:C8 Γ ts os a w) :
  C8 Γ ts ((b,.box (cs.set off (.own g)) e2)::(g,.row sz ls e)::(j,.gone)::os) a w:=by
 have hn1:=V3 hn1
 have hn2:=V3 hn2
 have hn3:=V3 hn3
 refine C8.ghost (need:=[(b,.box cs e2),(j,.row sz ls e)]) (upd:=[(b,.box (cs.set off (.own g)) e2),(g,.row sz ls e),(j,.gone)]) (news:=[g]) [] hrel ⟨hb,hj,trivial⟩ hf1 hf2 (by simp [q8,hn2]) fun c hok=>⟨c.setHd g (c.hd j),?_,fun t' y hy=>(by cases hy)⟩
 have kb:lk [(b,Obj.box cs e2),(j,.row sz ls e)] b=some (.box cs e2):=l8 _ _ _
 have kj:lk [(b,Obj.box cs e2),(j,.row sz ls e)] j=some (.row sz ls e):=by rw [J4 _ _ hn1,l8]
 have hm:(c.setHd g (c.hd j)).hd g=c.hd j:=by simp [Ctx.setHd]
 obtain ⟨us,u1,u2⟩:=hok.rep b _ kb
 have rj:L6 c.Φ w (c.hd j) sz ls e:=hok.rep j _ kj
 refine Post.same hok rfl (fun i hi=>⟨rfl,by have:i≠g:=(by simpa using hi); simp [Ctx.setHd,this]⟩) (fun x o hl=>?_) (fun x o d hl hf=>?_) (fun x x' o o' d hdis hl hl' hf hf'=>?_)
 ·rcases lk3 hl with ⟨rfl,rfl⟩|⟨_,rfl,rfl⟩|⟨_,_,rfl,rfl⟩
  ·refine ⟨us,u1,?_⟩
   obtain ⟨v,v1,v2⟩:=u2.get hat
   have u3:=u2.setHd (v:=c.hd j) hi
   obtain ⟨A,n,cap,q1,q2,q3,q4⟩:=v2.own_
   have:=u3.set off (v:=v) (a:=.own g) (by rw [q1]; exact .own (by rw [hm,q2]) q3 q4)
   rwa [set_self v1] at this
  ·show L6 c.Φ w ((c.setHd x (c.hd j)).hd x) sz ls e
   rw [hm]; exact rj
  ·trivial
 ·rcases lk3 hl with ⟨rfl,rfl⟩|⟨_,rfl,rfl⟩|⟨_,_,rfl,rfl⟩
  ·exact ⟨x,_,kb,by rw [hl]; rfl,hf⟩
  ·have hf:((c.setHd x (c.hd j)).hd x).ownBlock=some d:=hf
   rw [hm] at hf
   exact ⟨j,_,kj,by rw [J4 _ _ hn1,J4 _ _ (Ne.symm hn3),l8]; rfl,hf⟩
  ·exact hf.elim
 ·have apart:∀d,((c.setHd g (c.hd j)).hd g).ownBlock=some d→d≠c.μ b:=fun d h e=>by
   rw [hm] at h
   exact hok.sep j b _ _ d (Ne.symm hn1) kj kb h e
  rcases lk3 hl with ⟨rfl,rfl⟩|⟨_,rfl,rfl⟩|⟨_,_,rfl,rfl⟩<;>rcases lk3 hl' with ⟨rfl,rfl⟩|⟨_,rfl,rfl⟩|⟨_,_,rfl,rfl⟩<;>first|exact hdis rfl|exact hf.elim|exact hf'.elim|exact apart d hf hf'|exact apart d hf' hf
theorem j4.reidB {P:Program} {c:Code} {ts:Ts} {os:Os} {Q:Qt} (b off j g:Nat) {cs:List AV} {e2 sz e:Nat} {ls:List (List AV)} (hb:lk os b=some (.box cs e2)) (hat:cs[off]?=some (.own j)) (hj:lk os j=some (.row sz ls e)) (hi:(AV.idss cs).all (fun i=>!Nat.beq i g)=true)
  (hn1:Nat.beq b j=false) (hn2:Nat.beq b g=false) (hn3:Nat.beq j g=false)
  (hf1:J9 [g] ts=true) (hf2:K3 [g] [(b,.box (cs.set off (.own g)) e2),(g,.row sz ls e),(j,.gone)] os=true) (h:j4 P Γ c ts ((b,.box (cs.set off (.own g)) e2)::(g,.row sz ls e)::(j,.gone)::os) Q):j4 P Γ c ts os Q :=
 ⟨fun a w hrel=>h.run a w (hrel.reidB b off j g hb hat hj hi hn1 hn2 hn3 hf1 hf2)⟩
theorem C8.leBox {ts:Ts} {os:Os} (id:Nat) {cs:List AV} {e:Nat} (cs':List AV) (hid:lk os id=some (.box cs e)) (hle:aL2 cs cs') {a:Act} {w:World} (hrel:C8 Γ ts os a w):C8 Γ ts ((id,.box cs' e)::os) a w :=
 C8.ghost (need:=[(id,.box cs e)]) (upd:=[(id,.box cs' e)]) (news:=[]) [] hrel ⟨hid,trivial⟩ rfl rfl rfl fun c hok =>
  ⟨c,Post.same hok rfl (fun _ _=>⟨rfl,rfl⟩) (fun x o hl=>by
   obtain ⟨rfl,rfl⟩:=lk1 hl
   obtain ⟨us,u1,u2⟩:=hok.rep x _ (l8 _ _ _)
   exact ⟨us,u1,aY2 hle u2⟩) (fun x o d hl hf=>by
   obtain ⟨rfl,rfl⟩:=lk1 hl
   exact ⟨x,_,l8 _ _ _,by rw [l8]; rfl,hf⟩) (fun x x' o o' d hdis hl hl' _=>by
   obtain ⟨rfl,_⟩:=lk1 hl
   obtain ⟨rfl,_⟩:=lk1 hl'
   exact absurd rfl hdis),fun t' y hy=>(by cases hy)⟩
theorem j4.leBox {P:Program} {c:Code} {ts:Ts} {os:Os} {Q:Qt} (id:Nat) {cs:List AV} {e:Nat} (cs':List AV) (hid:lk os id=some (.box cs e)) (hle:aL2 cs cs') (h:j4 P Γ c ts ((id,.box cs' e)::os) Q):j4 P Γ c ts os Q :=
 ⟨fun a w hrel=>h.run a w (hrel.leBox id cs' hid hle)⟩
theorem Y3.leBox {ts:Ts} {os:Os} {Q:Qt} (id:Nat) {cs:List AV} {e:Nat} (cs':List AV) (hid:lk os id=some (.box cs e)) (hle:aL2 cs cs') (h:Y3 Γ ts ((id,.box cs' e)::os) Q):Y3 Γ ts os Q :=
 ⟨fun a w hrel=>h.run a w (hrel.leBox id cs' hid hle)⟩
end
theorem cI4 {α:Type} {l:List α} {k:Nat} {x:α} (h:l[k]?=some x):l.take (k+1)=l.take k++[x]:=by
 rw [List.take_add_one,h]; rfl
end Go.Proofs.YtibjcppjfkamhaaGreatDoor
