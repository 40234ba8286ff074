import Derived.Test.YtibjcppjfkamhaaGreatDoorPl78
/- Closed runs for the law TopOther, by the kernel. -/
namespace Go.Proofs.YtibjcppjfkamhaaGreatDoor
open Go.RowKit
set_option linter.unusedVariables false
set_option maxRecDepth 1000000
def cZ9 (n m:Int) (t:Nat):Option (y8×Int×V):=(F5 tN (tO6 n m) (z8 6 1 D9 (t:Int))).map fun x=>(x.1,x.2.err,x.2.value)
def c73 (n m:Int) (t:Nat):Option (y8×Int×V):=some (tO6 n m,0,⟨3,a07 m t⟩)
def cF0 (a l:Nat):Prop:=∀n m,(List.range' a l).map (cZ9 n m)=(List.range' a l).map (c73 n m)
theorem dA4 : cF0 0 24:=fun n m=>by kernel_rfl
theorem c01 : cF0 24 12:=fun n m=>by kernel_rfl
theorem cZ1 : cF0 36 9:=fun n m=>by kernel_rfl
theorem c08 : cF0 45 8:=fun n m=>by kernel_rfl
theorem cZ6 : cF0 53 8:=fun n m=>by kernel_rfl
theorem c82 (n m:Int) (t:Nat) (h:t≤60):cZ9 n m t=c73 n m t:=by
 by_cases h0:t < 24
 ·exact List.map_inj_left.1 (dA4 n m) t (List.mem_range'_1.2 ⟨by omega,by omega⟩)
 by_cases h1:t < 36
 ·exact List.map_inj_left.1 (c01 n m) t (List.mem_range'_1.2 ⟨by omega,by omega⟩)
 by_cases h2:t < 45
 ·exact List.map_inj_left.1 (cZ1 n m) t (List.mem_range'_1.2 ⟨by omega,by omega⟩)
 by_cases h3:t < 53
 ·exact List.map_inj_left.1 (c08 n m) t (List.mem_range'_1.2 ⟨by omega,by omega⟩)
 exact List.map_inj_left.1 (cZ6 n m) t (List.mem_range'_1.2 ⟨by omega,by omega⟩)
end Go.Proofs.YtibjcppjfkamhaaGreatDoor
