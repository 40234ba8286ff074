import Derived.Test.YtibjcppjfkamhaaGreatDoorPl76
/- Closed runs for the law TopChanged, by the kernel. -/
namespace Go.Proofs.YtibjcppjfkamhaaGreatDoor
open Go.RowKit
set_option linter.unusedVariables false
set_option maxRecDepth 1000000
def c45 (n m:Int) (t:Nat):Option (Int×V):=(F5 tN (tS9 n m) (z8 5 0 D9 (t:Int))).map fun x=>(x.2.err,x.2.value)
def c54 (n m:Int) (t:Nat):Option (Int×V):=some (0,⟨3,a07 m t⟩)
def cF4 (a l:Nat):Prop:=∀n m,(List.range' a l).map (c45 n m)=(List.range' a l).map (c54 n m)
theorem dB1 : cF4 0 24:=fun n m=>by kernel_rfl
theorem c43 : cF4 24 12:=fun n m=>by kernel_rfl
theorem c39 : cF4 36 9:=fun n m=>by kernel_rfl
theorem c63 : cF4 45 8:=fun n m=>by kernel_rfl
theorem c71 : cF4 53 8:=fun n m=>by kernel_rfl
theorem c26 (n m:Int) (t:Nat) (h:t≤60):c45 n m t=c54 n m t:=by
 by_cases h0:t < 24
 ·exact List.map_inj_left.1 (dB1 n m) t (List.mem_range'_1.2 ⟨by omega,by omega⟩)
 by_cases h1:t < 36
 ·exact List.map_inj_left.1 (c43 n m) t (List.mem_range'_1.2 ⟨by omega,by omega⟩)
 by_cases h2:t < 45
 ·exact List.map_inj_left.1 (c39 n m) t (List.mem_range'_1.2 ⟨by omega,by omega⟩)
 by_cases h3:t < 53
 ·exact List.map_inj_left.1 (c63 n m) t (List.mem_range'_1.2 ⟨by omega,by omega⟩)
 exact List.map_inj_left.1 (c71 n m) t (List.mem_range'_1.2 ⟨by omega,by omega⟩)
end Go.Proofs.YtibjcppjfkamhaaGreatDoor
