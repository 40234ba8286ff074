import Derived.Test.YtibjcppjfkamhaaGreatDoorPl71
/- Closed runs for the law TopSum, by the kernel. -/
namespace Go.Proofs.YtibjcppjfkamhaaGreatDoor
open Go.RowKit
set_option linter.unusedVariables false
set_option maxRecDepth 1000000
theorem c66 : aT9 5 0 24:=fun n=>by kernel_rfl
theorem cV4 : aT9 5 24 12:=fun n=>by kernel_rfl
theorem cY3 : aT9 5 36 9:=fun n=>by kernel_rfl
theorem cV7 : aT9 5 45 8:=fun n=>by kernel_rfl
theorem cX8 : aT9 5 53 8:=fun n=>by kernel_rfl
theorem dD3 (n:Int) (t:Nat) (h:t≤60):bS9 5 n t=bQ3 n t:=by
 by_cases h0:t < 24
 ·exact c66.at n t (by omega) (by omega)
 by_cases h1:t < 36
 ·exact cV4.at n t (by omega) (by omega)
 by_cases h2:t < 45
 ·exact cY3.at n t (by omega) (by omega)
 by_cases h3:t < 53
 ·exact cV7.at n t (by omega) (by omega)
 exact cX8.at n t (by omega) (by omega)
end Go.Proofs.YtibjcppjfkamhaaGreatDoor
