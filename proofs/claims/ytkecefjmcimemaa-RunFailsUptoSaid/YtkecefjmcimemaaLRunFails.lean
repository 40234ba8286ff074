/- The plain law of qclaw5.RunFails. No program in sight. -/
import Derived.Test.YtkecefjmcimemaaPl23
namespace Go.Proofs.Ytkecefjmcimemaa
open Go.RowKit
set_option linter.unusedVariables false
set_option maxRecDepth 100000 in
theorem RunFails_alive : qclaw5_alive 4194304=some true:=by kernel_rfl
theorem law_RunFails (a0:Wd) (a1:TCall) (a2:Int) (h0:okWd a0) (h1:okTCall a1) (h2:okI a2) (hb:bkWd a0+bkTCall a1+bkI a2≤1048576):∃N,qclaw5_RunFails N a0 a1 a2=some true:=by
 obtain ⟨N,hNe⟩:∃N:Nat,N=4194304:=⟨_,rfl⟩
 have hal:qclaw5_alive N=some true:=by rw [hNe]; exact RunFails_alive
 have hN:4194304≤N:=by omega
 refine ⟨N,?_⟩
 have hs:=small_Wd (w:=a0) (by omega)
 unfold qclaw5_RunFails
 rw [hal]
 obtain ⟨r,hr,hp⟩:=Right_some N a0 hN hs
 simp only [Option.bind_some,Bool.not_true,cond_false]
 rw [hr]
 simp only [Option.bind_some]
 by_cases h:r=0
 ·have hp:=hp h
  obtain ⟨s,q1,q2⟩:=run_Plain_is hN hs hp a1 a2
  obtain ⟨f1,f2⟩:=ran_facts hN hs hp q2
  simp only [h,decide_true,Bool.not_true,cond_false,q1,Option.bind_some]
  by_cases he:s.2.err=0
  ·obtain ⟨_,_,_,_,_,_,g,_⟩:=f1 he
   rw [decide_eq_true he,decide_eq_true (show (a0.heap.length:Int)≤(s.1.heap.length:Int) by omega)]
   rfl
  ·obtain ⟨g1,g2,g3,g4⟩:=f2 he
   have hv:eqAs (eV s.2.value) [.int (0:Int),.int (0:Int)]=true:=by rw [g2]; rfl
   rw [decide_eq_false he]
   simp only [cond_false,SameWorld_eq,g1,decide_true,Option.bind_some,cond_true,hv]
   rw [decide_eq_true g3,decide_eq_true g4]
   rfl
 ·simp only [h,decide_false,Bool.not_false,cond_true]
end Go.Proofs.Ytkecefjmcimemaa
