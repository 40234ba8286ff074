import Derived.Test.YtibjcppjfkamhaaGreatDoorFr
import Derived.Test.YtibjcppjfkamhaaGreatDoorMir
import Derived.KernelRfl
/- The plain law of TopEnd: closed runs, by the kernel. -/
namespace Go.Proofs.YtibjcppjfkamhaaGreatDoor
open Go.RowKit
set_option linter.unusedVariables false
set_option maxRecDepth 1000000
theorem bS8 : aH1 5000=some true:=by kernel_rfl
theorem bO5 (b:Bool):aE8 5000 4 b=some true∧aE8 5000 5 b=some true∧aE8 5000 6 b=some true:=by
 cases b
 ·exact ⟨by kernel_rfl,by kernel_rfl,by kernel_rfl⟩
 ·exact ⟨by kernel_rfl,by kernel_rfl,by kernel_rfl⟩
theorem cL1 (a0:Int) (a1:Bool) (h0:okI a0) (h1:okB a1) (hb:bkI a0+bkB a1≤1048576):∃N,aE8 N a0 a1=some true:=by
 refine ⟨5000,?_⟩
 by_cases g1:a0 < 4
 ·unfold aE8
  rw [bS8]
  simp [g1]
 ·by_cases g2:6 < a0
  ·unfold aE8
   rw [bS8]
   simp [g1,g2]
  ·have:a0=4∨a0=5∨a0=6:=by omega
   rcases this with rfl|rfl|rfl
   ·exact (bO5 a1).1
   ·exact (bO5 a1).2.1
   ·exact (bO5 a1).2.2
end Go.Proofs.YtibjcppjfkamhaaGreatDoor
