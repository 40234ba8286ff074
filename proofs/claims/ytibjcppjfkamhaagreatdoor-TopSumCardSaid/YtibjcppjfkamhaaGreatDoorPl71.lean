import Derived.Test.YtibjcppjfkamhaaGreatDoorPl70
/- Closed runs for the law TopSum, by the kernel. -/
namespace Go.Proofs.YtibjcppjfkamhaaGreatDoor
open Go.RowKit
set_option linter.unusedVariables false
set_option maxRecDepth 1000000
def bS9 (k:Int) (n:Int) (t:Nat):Option (Nat×Option (Int×Int×Int)):=(D7 tN [z8 5 0 D9 3,z8 k 0 D9 (t:Int)] 6 (tS6 n) (tR5.2++[⟨0,1,⟨4,0⟩⟩])).map fun x=>(x.2.length,(x.2[7]?).map fun r=>(r.err,r.value.k,r.value.n))
def bQ3 (n:Int) (t:Nat):Option (Nat×Option (Int×Int×Int)):=some (8,some (0,3,a07 n t))
def aT9 (k:Int) (a l:Nat):Prop:=∀n,(List.range' a l).map (bS9 k n)=(List.range' a l).map (bQ3 n)
theorem aT9.at {k:Int} {a l:Nat} (h:aT9 k a l) (n:Int) (t:Nat) (h1:a≤t) (h2:t < a+l):bS9 k n t=bQ3 n t :=
 List.map_inj_left.1 (h n) t (List.mem_range'_1.2 ⟨h1,h2⟩)
theorem c42 : aT9 4 0 24:=fun n=>by kernel_rfl
theorem cW8 : aT9 4 24 12:=fun n=>by kernel_rfl
theorem cX3 : aT9 4 36 9:=fun n=>by kernel_rfl
theorem cV3 : aT9 4 45 8:=fun n=>by kernel_rfl
theorem cU8 : aT9 4 53 8:=fun n=>by kernel_rfl
theorem dC7 (n:Int) (t:Nat) (h:t≤60):bS9 4 n t=bQ3 n t:=by
 by_cases h0:t < 24
 ·exact c42.at n t (by omega) (by omega)
 by_cases h1:t < 36
 ·exact cW8.at n t (by omega) (by omega)
 by_cases h2:t < 45
 ·exact cX3.at n t (by omega) (by omega)
 by_cases h3:t < 53
 ·exact cV3.at n t (by omega) (by omega)
 exact cU8.at n t (by omega) (by omega)
end Go.Proofs.YtibjcppjfkamhaaGreatDoor
