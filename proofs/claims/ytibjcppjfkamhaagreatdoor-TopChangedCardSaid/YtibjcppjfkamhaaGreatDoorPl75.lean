import Derived.Test.YtibjcppjfkamhaaGreatDoorPl74
/- Closed runs for the law TopChanged, by the kernel. -/
namespace Go.Proofs.YtibjcppjfkamhaaGreatDoor
open Go.RowKit
set_option linter.unusedVariables false
set_option maxRecDepth 1000000
def c29 (n:Int) (t:Nat):Option (y8×Int×V):=(F5 tN (tS7 n) (z8 6 0 D9 (t:Int))).map fun x=>(x.1,x.2.err,x.2.value)
def c48 (n:Int) (t:Nat):Option (y8×Int×V):=some (tS7 n,0,⟨3,a07 n t⟩)
def cC7 (a l:Nat):Prop:=∀n,(List.range' a l).map (c29 n)=(List.range' a l).map (c48 n)
theorem c92 : cC7 0 24:=fun n=>by kernel_rfl
theorem c62 : cC7 24 12:=fun n=>by kernel_rfl
theorem cY9 : cC7 36 9:=fun n=>by kernel_rfl
theorem c86 : cC7 45 8:=fun n=>by kernel_rfl
theorem c09 : cC7 53 8:=fun n=>by kernel_rfl
theorem c81 (n:Int) (t:Nat) (h:t≤60):c29 n t=c48 n t:=by
 by_cases h0:t < 24
 ·exact List.map_inj_left.1 (c92 n) t (List.mem_range'_1.2 ⟨by omega,by omega⟩)
 by_cases h1:t < 36
 ·exact List.map_inj_left.1 (c62 n) t (List.mem_range'_1.2 ⟨by omega,by omega⟩)
 by_cases h2:t < 45
 ·exact List.map_inj_left.1 (cY9 n) t (List.mem_range'_1.2 ⟨by omega,by omega⟩)
 by_cases h3:t < 53
 ·exact List.map_inj_left.1 (c86 n) t (List.mem_range'_1.2 ⟨by omega,by omega⟩)
 exact List.map_inj_left.1 (c09 n) t (List.mem_range'_1.2 ⟨by omega,by omega⟩)
end Go.Proofs.YtibjcppjfkamhaaGreatDoor
