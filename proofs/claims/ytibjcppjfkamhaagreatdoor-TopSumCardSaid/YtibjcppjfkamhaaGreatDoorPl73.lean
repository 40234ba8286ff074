import Derived.Test.YtibjcppjfkamhaaGreatDoorPl72
/- Closed runs for the law TopSum, by the kernel. -/
namespace Go.Proofs.YtibjcppjfkamhaaGreatDoor
open Go.RowKit
set_option linter.unusedVariables false
set_option maxRecDepth 1000000
theorem c25 : aT9 6 0 24:=fun n=>by kernel_rfl
theorem cY0 : aT9 6 24 12:=fun n=>by kernel_rfl
theorem cX7 : aT9 6 36 9:=fun n=>by kernel_rfl
theorem cY2 : aT9 6 45 8:=fun n=>by kernel_rfl
theorem cU9 : aT9 6 53 8:=fun n=>by kernel_rfl
theorem dC8 (n:Int) (t:Nat) (h:t≤60):bS9 6 n t=bQ3 n t:=by
 by_cases h0:t < 24
 ·exact c25.at n t (by omega) (by omega)
 by_cases h1:t < 36
 ·exact cY0.at n t (by omega) (by omega)
 by_cases h2:t < 45
 ·exact cX7.at n t (by omega) (by omega)
 by_cases h3:t < 53
 ·exact cY2.at n t (by omega) (by omega)
 exact cU9.at n t (by omega) (by omega)
end Go.Proofs.YtibjcppjfkamhaaGreatDoor
