/- Ghosts for boxes that hold rows of their own: a nil slice in a box is a row; a row in a box has another name. No program in sight. -/
import Derived.Test.YtahmeibkdhbngaaN
namespace Go.Proofs.Ytahmeibkdhbngaa
open Go.RowKit
set_option linter.unusedVariables false
section
variable {Γ:M3}
theorem p8.setHd {c:Ctx} {w:World} {vs:List Value} {xs:List AV} {g:Nat} {v:Value} (h:p8 c w vs xs) (hg:(AV.idss xs).all (fun i=>!Nat.beq i g)=true):p8 (c.setHd g v) w vs xs :=
 p8.mono (c:=c) (c':=c.setHd g v) (fun _ _=>rfl) (fun _ h=>h) (fun id hid=>⟨rfl,by
  have:=List.all_eq_true.1 hg id hid
  have hne:id≠g:=fun e=>by subst e; simp at this
  simp [Ctx.setHd,hne]⟩) h
theorem set_self {α:Type} {l:List α} {k:Nat} {x:α} (h:l[k]?=some x):l.set k x=l:=bS1 h
theorem u6.nilrowB {ts:Ts} {os:Os} (b off id sz e:Nat) {cs:List AV} {e2:Nat} (hb:lk os b=some (.box cs e2)) (hat:cs[off]?=some .nilsl) (hi:(AV.idss cs).all (fun i=>!Nat.beq i id)=true) (hne:Nat.beq b id=false)
  (hf1:F6 [id] ts=true) (hf2:F5 [id] [(b,.box (cs.set off (.own id)) e2),(id,.row sz [] e)] os=true) {a:Act} {w:World} (hrel:u6 Γ ts os a w) :
  u6 Γ ts ((b,.box (cs.set off (.own id)) e2)::(id,.row sz [] e)::os) a w:=by
 have hne:=H6 hne
 refine u6.ghost (need:=[(b,.box cs e2)]) (upd:=[(b,.box (cs.set off (.own id)) e2),(id,.row sz [] e)]) (news:=[id]) [] hrel ⟨hb,trivial⟩ hf1 hf2 (by simp [l6,hne]) fun c hok=>⟨c.setHd id (.slice none 0 0),?_,fun t' y hy=>(by cases hy)⟩
 have kb:lk [(b,Obj.box cs e2)] b=some (.box cs e2):=j6 _ _ _
 have hm:(c.setHd id (.slice none 0 0)).hd id=.slice none 0 0:=by simp [Ctx.setHd]
 obtain ⟨us,u1,u2⟩:=hok.rep b _ kb
 refine Post.same hok rfl (fun i hi=>⟨rfl,by have:i≠id:=(by simpa using hi); simp [Ctx.setHd,this]⟩) (fun x o hl=>?_) (fun x o d hl hf=>?_) (fun x x' o o' d hdis hl hl' hf hf'=>?_)
 ·rcases lk2 hl with ⟨rfl,rfl⟩|⟨_,rfl,rfl⟩
  ·refine ⟨us,u1,?_⟩
   have u3:=u2.setHd (v:=.slice none 0 0) hi
   obtain ⟨v,v1,v2⟩:=u3.get hat
   have hv:=v2.nilsl_
   subst hv
   have:=u3.set off (v:=.slice none 0 0) (a:=.own id) (.own (n:=0) (cap:=0) (A:=none) hm (Nat.le_refl _) (by simp [maxLen]))
   rwa [set_self v1] at this
  ·exact ⟨[],by rw [hm]; exact ⟨.inl ⟨rfl,rfl⟩,by simp,by simp⟩,rfl,fun i us cs h=>by simp at h⟩
 ·rcases lk2 hl with ⟨rfl,rfl⟩|⟨_,rfl,rfl⟩
  ·exact ⟨x,_,kb,by rw [hl]; rfl,hf⟩
  ·have hf:((c.setHd x (.slice none 0 0)).hd x).ownBlock=some d:=hf
   rw [hm] at hf; cases hf
 ·have no:∀d,((c.setHd id (.slice none 0 0)).hd id).ownBlock=some d→False:=fun d h=>by rw [hm] at h; cases h
  rcases lk2 hl with ⟨rfl,rfl⟩|⟨_,rfl,rfl⟩<;>rcases lk2 hl' with ⟨rfl,rfl⟩|⟨_,rfl,rfl⟩
  ·exact hdis rfl
  ·exact no d hf'
  ·exact no d hf
  ·exact hdis rfl
theorem j4.nilrowB {P:Program} {c:Code} {ts:Ts} {os:Os} {Q:Qt} (b off id sz e:Nat) {cs:List AV} {e2:Nat} (hb:lk os b=some (.box cs e2)) (hat:cs[off]?=some .nilsl) (hi:(AV.idss cs).all (fun i=>!Nat.beq i id)=true) (hne:Nat.beq b id=false)
  (hf1:F6 [id] ts=true) (hf2:F5 [id] [(b,.box (cs.set off (.own id)) e2),(id,.row sz [] e)] os=true) (h:j4 P Γ c ts ((b,.box (cs.set off (.own id)) e2)::(id,.row sz [] e)::os) Q):j4 P Γ c ts os Q :=
 ⟨fun a w hrel=>h.run a w (hrel.nilrowB b off id sz e hb hat hi hne hf1 hf2)⟩
end
end Go.Proofs.Ytahmeibkdhbngaa
