/- The plain law of qclaw8.CachedTells. No program in sight. -/
import Derived.Test.YtahmeibkdhbngaaPl43
namespace Go.Proofs.Ytahmeibkdhbngaa
open Go.RowKit
set_option linter.unusedVariables false
theorem b90 (a0:Wd) (a1:O3) (a2:Int) (a3:(List Ce)) (a4:(List Tl)) (h0:dK8 a0) (h1:cT1 a1) (h2:okI a2) (h3:(okL dA7) a3) (h4:(okL dD3) a4) (hb:cD9 a0+bZ7 a1+bkI a2+(bkL bE1) a3+(bkL bE5) a4≤1048576):∃N,aL4 N a0 a1 a2 a3 a4=some true:=by
 obtain ⟨N,hN⟩:∃N:Nat,4194304≤N:=⟨4194304,Nat.le_refl _⟩
 refine ⟨N,?_⟩
 have hs:=dB6 (w:=a0) (by omega)
 have hz:=dM8 (l:=a3) (t:=a4) (n:=1048576) (by omega) (by omega)
 unfold aL4
 obtain ⟨r,hr,hp⟩:=cY0 N a0 hN hs
 rw [hr]
 simp only [Option.bind_some]
 by_cases h:r=0
 ·have hp:=hp h
  obtain ⟨o,o1,o2⟩:=cK4 N a0 (by omega) hs.1 a3 0
  unfold aZ9
  rw [o1]
  cases o with
  |ret b =>
   have o2:b=false:=o2
   subst o2
   simp only [h,decide_true,Bool.not_true,cond_false,Option.bind_some,Bool.not_false,cond_true]
  |next u =>
   have o2:aK4 a0 a3:=o2
   obtain ⟨r,ev,sb,q1,q2,rfl,q4,q5⟩:=c54 hN hs hp a1 (fuel:=a2) a3 a4 _ hz (by omega) o2
   have p1:=b40 hN hs hp a1 a2 a3 a4 _ hz (by omega) o2 q2 q4 q5
   simp only [h,decide_true,Bool.not_true,cond_false,Option.bind_some,q1,p1,cQ8,c58,cL0,cC7,cond_true]
 ·simp only [h,decide_false,Bool.not_false,cond_true,Option.bind_some]
end Go.Proofs.Ytahmeibkdhbngaa
