import Derived.Test.YtibjcppjfkamhaaGreatDoorPl75
/- Closed runs for the law TopChanged, by the kernel. -/
namespace Go.Proofs.YtibjcppjfkamhaaGreatDoor
open Go.RowKit
set_option linter.unusedVariables false
set_option maxRecDepth 1000000
def c79 (n m:Int) (t:Nat):Option (y8×Int×V):=(F5 tN (tS9 n m) (z8 6 0 D9 (t:Int))).map fun x=>(x.1,x.2.err,x.2.value)
def c52 (n m:Int) (t:Nat):Option (y8×Int×V):=some (tS9 n m,0,⟨3,a07 m t⟩)
def cC1 (a l:Nat):Prop:=∀n m,(List.range' a l).map (c79 n m)=(List.range' a l).map (c52 n m)
theorem dA6 : cC1 0 24:=fun n m=>by kernel_rfl
theorem c02 : cC1 24 12:=fun n m=>by kernel_rfl
theorem c30 : cC1 36 9:=fun n m=>by kernel_rfl
theorem c47 : cC1 45 8:=fun n m=>by kernel_rfl
theorem cZ8 : cC1 53 8:=fun n m=>by kernel_rfl
theorem c89 (n m:Int) (t:Nat) (h:t≤60):c79 n m t=c52 n m t:=by
 by_cases h0:t < 24
 ·exact List.map_inj_left.1 (dA6 n m) t (List.mem_range'_1.2 ⟨by omega,by omega⟩)
 by_cases h1:t < 36
 ·exact List.map_inj_left.1 (c02 n m) t (List.mem_range'_1.2 ⟨by omega,by omega⟩)
 by_cases h2:t < 45
 ·exact List.map_inj_left.1 (c30 n m) t (List.mem_range'_1.2 ⟨by omega,by omega⟩)
 by_cases h3:t < 53
 ·exact List.map_inj_left.1 (c47 n m) t (List.mem_range'_1.2 ⟨by omega,by omega⟩)
 exact List.map_inj_left.1 (cZ8 n m) t (List.mem_range'_1.2 ⟨by omega,by omega⟩)
end Go.Proofs.YtibjcppjfkamhaaGreatDoor
