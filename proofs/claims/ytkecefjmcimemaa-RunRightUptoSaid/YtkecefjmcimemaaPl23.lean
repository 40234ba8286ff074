import Derived.Test.YtkecefjmcimemaaPl22
import Derived.Test.YtkecefjmcimemaaPl24
/- The reference's calls within calls do what the machine does. No program in sight. -/
namespace Go.Proofs.Ytkecefjmcimemaa
open Go.RowKit
set_option linter.unusedVariables false
theorem eqAs_TRan (a b:TRan):eqAs (eTRan a) (eTRan b)=decide (a=b):=by
 obtain ⟨⟨k,n⟩,e,s⟩:=a
 obtain ⟨⟨k',n'⟩,e',s'⟩:=b
 by_cases h1:k=k'<;>by_cases h2:n=n'<;>by_cases h3:e=e'<;>by_cases h4:s=s'<;>simp [eTRan,eqAs,eq1,h1,h2,h3,h4]
theorem ran_facts {w:Wd} {N:Nat} (hN:4194304≤N) (hs:SmallW w) (hp:RightP N w) {c:TCall} {fuel:Int} {r:Wd×TRan} (h:RanP w c fuel noQ r) :
  (r.2.err=0→wrongCallN w c fuel=0∧0≤r.2.sends∧r.2.sends≤fuel∧fuel≤400∧HeapOk w r.1.heap∧r.1=⟨w.classes,r.1.heap,w.epoch⟩∧w.heap.length≤r.1.heap.length∧VOk (r.1.heap.length:Int) r.2.value) ∧
  (r.2.err≠0→r.1=w∧r.2.value=⟨0,0⟩∧0≤r.2.sends∧r.2.sends≤400):=by
 rcases h with ⟨h1,rfl⟩|⟨h1,c1,c',h2,h3,h4,rfl⟩
 ·exact ⟨fun e=>absurd e h1,fun _=>⟨rfl,rfl,Int.le_refl _,by simp only; omega⟩⟩
 ·have W:=hp.wOk hN hs
  have hcl:0 < w.classes.length:=by have:=hp.many.1; omega
  obtain ⟨_,_,f1,f2,_⟩:=wrongCallN_ok h1
  obtain ⟨c1',b1,b2,b3,b4,b5,b6⟩:=begin_ok (Q:=noQ) hN hs hp (fun _ _=>rfl) c h1
  rw [h2] at b1
  cases b1
  obtain ⟨p1,p2,p3,p4⟩:=path_after W hcl (fun _ _=>rfl) h3 b3 b6
  rw [b4] at p3
  unfold outN
  by_cases he:c'.err=0
  ·rw [if_pos he]
   have I:=p4 he
   exact ⟨fun _=>⟨h1,by simp only; omega,by simp only; omega,f2,I.heap,rfl,p3,I.back⟩,fun h=>absurd rfl h⟩
  ·rw [if_neg he]
   exact ⟨fun h=>absurd h he,fun _=>⟨rfl,rfl,by simp only; omega,by simp only; omega⟩⟩
theorem RightP.heap {w:Wd} {N:Nat} (hN:4194304≤N) (hs:SmallW w) (hp:RightP N w) {H:List Ob} (hH:HeapOk w H):RightP N ⟨w.classes,H,w.epoch⟩∧SmallW ⟨w.classes,H,w.epoch⟩:=by
 have hsl:=right_slots hp
 have W:=hp.wOk hN hs
 have hs':SmallW ⟨w.classes,H,w.epoch⟩:=⟨hs.1,by have:=hH.len; simp only; omega,hs.2.2.1,fun o ho=>by
  have h1:=(hH.ob o ho).2.2.2.1
  have:=W.slots o.cls
  omega⟩
 have hchk:∀(k:Int) (m:Me),checkN N ⟨w.classes,H,w.epoch⟩ k m=checkN N w k m:=by
  intro k m
  have hnum:∀i,numN ⟨w.classes,H,w.epoch⟩ k m i=numN w k m i:=fun i=>by
   unfold numN numOkN
   simp only [slotsN_heap]
  have hc:∀(l:List Ins) (j:Nat),chkN ⟨w.classes,H,w.epoch⟩ k m l j=chkN w k m l j:=by
   intro l
   induction l with
   |nil=>intro j; rfl
   |cons i l ih=>intro j; rw [chkN,chkN,hnum,ih]
  unfold checkN
  rw [hc]
 refine ⟨⟨⟨hp.many.1,hp.many.2.1,hH.len⟩,hp.epoch,hp.cls,fun j c hc=>?_,fun o ho=>?_⟩,hs'⟩
 ·obtain ⟨h1,h2,h3,h4⟩:=hp.meth j c hc
  refine ⟨by rw [slotsN_heap]; exact h1,h2,h3,fun m hm=>?_⟩
  rcases h4 m hm with h|⟨f,h5,h6⟩
  ·exact .inl h
  ·refine .inr ⟨f,?_,h6⟩
   rw [qcref1_Check_eq N w _ m (by omega) hs.1 (slotsN_in hsl hs.1 _)] at h5
   rw [qcref1_Check_eq N ⟨w.classes,H,w.epoch⟩ _ m (by omega) hs.1 (by rw [slotsN_heap]; exact slotsN_in hsl hs.1 _),hchk]
   exact h5
 ·obtain ⟨h1,h2,h3,h4,h5⟩:=hH.ob o ho
  exact ⟨h1,h2,h3,by rw [slotsN_heap]; exact h4,h5⟩
end Go.Proofs.Ytkecefjmcimemaa
