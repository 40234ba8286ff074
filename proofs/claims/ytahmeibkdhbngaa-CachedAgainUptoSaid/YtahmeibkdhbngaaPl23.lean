import Derived.Test.YtahmeibkdhbngaaPl22
import Derived.Test.YtahmeibkdhbngaaPl24
/- The reference's calls within calls do what the machine does. No program in sight. -/
namespace Go.Proofs.Ytahmeibkdhbngaa
open Go.RowKit
set_option linter.unusedVariables false
theorem cR2 (a b:aK0):aF1 (bQ4 a) (bQ4 b)=decide (a=b):=by
 obtain ⟨⟨k,n⟩,e,s⟩:=a
 obtain ⟨⟨k',n'⟩,e',s'⟩:=b
 by_cases h1:k=k'<;>by_cases h2:n=n'<;>by_cases h3:e=e'<;>by_cases h4:s=s'<;>simp [bQ4,aF1,eq1,h1,h2,h3,h4]
theorem aG6.heap {w:Wd} {N:Nat} (hN:4194304≤N) (hs:Y1 w) (hp:aG6 N w) {H:List Ob} (hH:aN1 w H):aG6 N ⟨w.classes,H,w.epoch⟩∧Y1 ⟨w.classes,H,w.epoch⟩:=by
 have hsl:=bR7 hp
 have W:=hp.wOk hN hs
 have hs':Y1 ⟨w.classes,H,w.epoch⟩:=⟨hs.1,by have:=hH.len; simp only; omega,hs.2.2.1,fun o ho=>by
  have h1:=(hH.ob o ho).2.2.2.1
  have:=W.slots o.cls
  omega⟩
 have hchk:∀(k:Int) (m:Me),checkN N ⟨w.classes,H,w.epoch⟩ k m=checkN N w k m:=by
  intro k m
  have hnum:∀i,aL5 ⟨w.classes,H,w.epoch⟩ k m i=aL5 w k m i:=fun i=>by
   unfold aL5 a94
   simp only [aQ5]
  have hc:∀(l:List Ins) (j:Nat),aS8 ⟨w.classes,H,w.epoch⟩ k m l j=aS8 w k m l j:=by
   intro l
   induction l with
   |nil=>intro j; rfl
   |cons i l ih=>intro j; rw [aS8,aS8,hnum,ih]
  unfold checkN
  rw [hc]
 refine ⟨⟨⟨hp.many.1,hp.many.2.1,hH.len⟩,hp.epoch,hp.cls,fun j c hc=>?_,fun o ho=>?_⟩,hs'⟩
 ·obtain ⟨h1,h2,h3,h4⟩:=hp.meth j c hc
  refine ⟨by rw [aQ5]; exact h1,h2,h3,fun m hm=>?_⟩
  rcases h4 m hm with h|⟨f,h5,h6⟩
  ·exact .inl h
  ·refine .inr ⟨f,?_,h6⟩
   rw [aU7 N w _ m (by omega) hs.1 (bM1 hsl hs.1 _)] at h5
   rw [aU7 N ⟨w.classes,H,w.epoch⟩ _ m (by omega) hs.1 (by rw [aQ5]; exact bM1 hsl hs.1 _),hchk]
   exact h5
 ·obtain ⟨h1,h2,h3,h4,h5⟩:=hH.ob o ho
  exact ⟨h1,h2,h3,by rw [aQ5]; exact h4,h5⟩
end Go.Proofs.Ytahmeibkdhbngaa
