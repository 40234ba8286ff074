/- The plain law of qclaw5.RunRight. No program in sight. -/
import Derived.Test.YtkecefjmcimemaaPl23
namespace Go.Proofs.Ytkecefjmcimemaa
open Go.RowKit
set_option linter.unusedVariables false
set_option maxRecDepth 100000 in
theorem RunRight_alive : qclaw5_alive 4194304=some true:=by kernel_rfl
theorem law_RunRight (a0:Wd) (a1:TCall) (a2:Int) (h0:okWd a0) (h1:okTCall a1) (h2:okI a2) (hb:bkWd a0+bkTCall a1+bkI a2≤1048576):∃N,qclaw5_RunRight N a0 a1 a2=some true:=by
 obtain ⟨N,hNe⟩:∃N:Nat,N=4194304:=⟨_,rfl⟩
 have hal:qclaw5_alive N=some true:=by rw [hNe]; exact RunRight_alive
 have hN:4194304≤N:=by omega
 refine ⟨N,?_⟩
 have hs:=small_Wd (w:=a0) (by omega)
 unfold qclaw5_RunRight
 rw [hal]
 obtain ⟨r,hr,hp⟩:=Right_some N a0 hN hs
 simp only [Option.bind_some,Bool.not_true,cond_false]
 rw [hr]
 simp only [Option.bind_some]
 by_cases h:r=0
 ·have hp:=hp h
  obtain ⟨s,q1,q2⟩:=run_Plain_is hN hs hp a1 a2
  obtain ⟨f1,f2⟩:=ran_facts hN hs hp q2
  simp only [h,decide_true,Bool.not_true,cond_false,q1,Option.bind_some,SameWorld_eq]
  have key:qcref1_Right N s.1=some 0∧wrongN s.2.value (s.1.heap.length:Int)=0∧(⟨s.1.classes,a0.heap,s.1.epoch⟩:Wd)=a0:=by
   by_cases he:s.2.err=0
   ·obtain ⟨_,_,_,_,g1,g2,_,g3⟩:=f1 he
    obtain ⟨k1,k2⟩:=hp.heap hN hs g1
    rw [←g2] at k1 k2
    exact ⟨Right_of N s.1 hN k2 k1,g3,by rw [g2]⟩
   ·obtain ⟨g1,g2,_⟩:=f2 he
    rw [g1]
    exact ⟨Right_of N a0 hN hs hp,by rw [g2]; rfl,rfl⟩
  obtain ⟨k1,k2,k3⟩:=key
  rw [k1]
  simp only [Option.bind_some,decide_true,cond_true,qcref1_Wrong_eq,k2,k3]
 ·simp only [h,decide_false,Bool.not_false,cond_true]
end Go.Proofs.Ytkecefjmcimemaa
