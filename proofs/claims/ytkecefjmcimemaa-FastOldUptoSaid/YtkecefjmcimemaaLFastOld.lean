/- The plain law of qclaw11.FastOld. No program in sight. -/
import Derived.Test.YtkecefjmcimemaaPl23
namespace Go.Proofs.Ytkecefjmcimemaa
open Go.RowKit
set_option linter.unusedVariables false
theorem fast_Run_2_old (N:Nat) (w:Wd) {k j:Int} {x:Cl} {m:Me} (hx:nthO w.classes k=some x) (hm:nthO x.methods j=some m):∀(l:List Fs) (i:Nat),(∀f∈l,f.epoch≠w.epoch)→fast_Run_2_l1 N k j w l i=some (.next ())
 |[],i,_=>rfl
 |f::l,i,h=>by
  have he:=h f (by simp)
  have ih:=fast_Run_2_old N w hx hm l (i+1) fun g hg=>h g (by simp [hg])
  rw [fast_Run_2_l1]
  by_cases h1:f.cls=k
  ·rw [decide_eq_true h1]
   simp only [cond_true,hx,hm,Option.bind_some]
   by_cases h2:f.name=m.name
   ·rw [decide_eq_true h2,decide_eq_false he]
    exact ih
   ·rw [decide_eq_false h2]
    exact ih
  ·rw [decide_eq_false h1]
   exact ih
theorem FastOld_l1_is (N:Nat) (w:Wd):∀(l:List Fs) (i:Nat),∃o,qclaw11_FastOld_l1 N w l i=some o∧(match o with|.ret r=>r=true|.next ()=>∀f∈l,f.epoch≠w.epoch)
 |[],i=>⟨.next (),rfl,fun f hf=>by cases hf⟩
 |f::l,i=>by
  rw [qclaw11_FastOld_l1]
  by_cases h:f.epoch=w.epoch
  ·rw [decide_eq_true h]
   exact ⟨.ret true,rfl,rfl⟩
  ·rw [decide_eq_false h]
   obtain ⟨o,h1,h2⟩:=FastOld_l1_is N w l (i+1)
   refine ⟨o,h1,?_⟩
   cases o with
   |ret r=>exact h2
   |next u =>
    intro g hg
    rcases List.mem_cons.1 hg with rfl|hg
    ·exact h
    ·exact h2 g hg
set_option maxRecDepth 100000 in
theorem FastOld_alive : qclaw11_alive 4194304=some true:=by kernel_rfl
theorem law_FastOld (a0:Wd) (a1:TCall) (a2:Int) (a3:(List Fs)) (h0:okWd a0) (h1:okTCall a1) (h2:okI a2) (h3:(okL okFs) a3) (hb:bkWd a0+bkTCall a1+bkI a2+(bkL bkFs) a3≤1048576):∃N,qclaw11_FastOld N a0 a1 a2 a3=some true:=by
 obtain ⟨N,hNe⟩:∃N:Nat,N=4194304:=⟨_,rfl⟩
 have hal:qclaw11_alive N=some true:=by rw [hNe]; exact FastOld_alive
 have hN:4194304≤N:=by omega
 refine ⟨N,?_⟩
 have hs:=small_Wd (w:=a0) (by omega)
 unfold qclaw11_FastOld
 rw [hal]
 obtain ⟨r,hr,hp⟩:=Right_some N a0 hN hs
 simp only [Option.bind_some,Bool.not_true,cond_false]
 rw [hr]
 simp only [Option.bind_some]
 by_cases h:r=0
 ·have hp:=hp h
  rw [decide_eq_true h]
  obtain ⟨o,o1,o2⟩:=FastOld_l1_is N a0 a3 0
  simp only [Bool.not_true,cond_false,o1,Option.bind_some]
  cases o with
  |ret r=>simp only at o2 ⊢; rw [o2]
  |next u =>
   obtain ⟨s,q1,q2⟩:=slow_is (fuel:=a2) (gl:=fun x0_ x1_ x2_=>fast_Run_1 N x0_ x1_ x2_ a0) (gq:=fun x0_ x1_=>fast_Run_2 N x0_ x1_ a3 a0) (Q:=noQ) hN hs hp (fun _ _=>rfl) (fun s k n=>by
    show fast_Run_1 N s k n a0=_
    unfold fast_Run_1
    rw [class_Find_eq N a0 k n (by omega) hp.rise hs]
    rfl) (fun k j x m hx hm=>by
    show fast_Run_2 N k j a3 a0=_
    unfold fast_Run_2
    rw [fast_Run_2_old N a0 hx hm a3 0 o2]
    rfl) a1
   obtain ⟨t,R,ev,p1,p2,_⟩:=qcref5_Run_is hN hs hp a1 a2
   have e:=q2.det p2.ran
   subst e
   have hq:fast_Run N a0 a1 a2 a3=some s:=by
    unfold fast_Run
    rw [q1]
    rfl
   simp only [hq,p1,Option.bind_some,eqAs_TRan,decide_true,cond_true,SameWorld_eq]
 ·rw [decide_eq_false h]; rfl
end Go.Proofs.Ytkecefjmcimemaa
