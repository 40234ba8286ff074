import Derived.Test.YtibjcppjfkamhaaGreatDoorPl79
/- Closed runs for the law TopOther, by the kernel. -/
namespace Go.Proofs.YtibjcppjfkamhaaGreatDoor
open Go.RowKit
set_option linter.unusedVariables false
set_option maxRecDepth 1000000
def c78 (n m:Int) (t:Nat):Option (Int×V):=(F5 tN (tO6 n m) (z8 6 0 D9 (t:Int))).map fun x=>(x.2.err,x.2.value)
def c67 (n m:Int) (t:Nat):Option (Int×V):=some (0,⟨3,a07 n t⟩)
def cG1 (a l:Nat):Prop:=∀n m,(List.range' a l).map (c78 n m)=(List.range' a l).map (c67 n m)
theorem c94 : cG1 0 24:=fun n m=>by kernel_rfl
theorem c88 : cG1 24 12:=fun n m=>by kernel_rfl
theorem c07 : cG1 36 9:=fun n m=>by kernel_rfl
theorem cY6 : cG1 45 8:=fun n m=>by kernel_rfl
theorem c38 : cG1 53 8:=fun n m=>by kernel_rfl
theorem c69 (n m:Int) (t:Nat) (h:t≤60):c78 n m t=c67 n m t:=by
 by_cases h0:t < 24
 ·exact List.map_inj_left.1 (c94 n m) t (List.mem_range'_1.2 ⟨by omega,by omega⟩)
 by_cases h1:t < 36
 ·exact List.map_inj_left.1 (c88 n m) t (List.mem_range'_1.2 ⟨by omega,by omega⟩)
 by_cases h2:t < 45
 ·exact List.map_inj_left.1 (c07 n m) t (List.mem_range'_1.2 ⟨by omega,by omega⟩)
 by_cases h3:t < 53
 ·exact List.map_inj_left.1 (cY6 n m) t (List.mem_range'_1.2 ⟨by omega,by omega⟩)
 exact List.map_inj_left.1 (c38 n m) t (List.mem_range'_1.2 ⟨by omega,by omega⟩)
end Go.Proofs.YtibjcppjfkamhaaGreatDoor
