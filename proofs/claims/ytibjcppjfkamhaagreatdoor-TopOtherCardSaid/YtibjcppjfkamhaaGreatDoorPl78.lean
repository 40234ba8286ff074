import Derived.Test.YtibjcppjfkamhaaGreatDoorPl74
/- A session's steps for the law TopOther. No program in sight. -/
namespace Go.Proofs.YtibjcppjfkamhaaGreatDoor
open Go.RowKit
set_option linter.unusedVariables false
set_option maxRecDepth 1000000
def cL5 : J7:=⟨1,⟨#[79,100,100]⟩,4,0,⟨ByteArray.empty,0,0,0,[]⟩,⟨⟨0,0⟩,ByteArray.empty,[]⟩⟩
def cQ6 : J7:=⟨3,ByteArray.empty,5,0,⟨ByteArray.empty,0,0,0,[]⟩,⟨⟨0,0⟩,ByteArray.empty,[]⟩⟩
def tO1 : y8:=match F5 tN tR5.1 cL5 with
 |some x=>x.1
 |none=>tR5.1
theorem dD6 : F5 tN tR5.1 cL5=some (tO1,⟨0,5,⟨0,0⟩⟩):=by kernel_rfl
def tO2 (m:Int):y8:=⟨⟨tO1.world.classes.modify 5 fun c=>⟨c.name,c.super,c.slots,[aY4 m]⟩,tO1.world.heap,tO1.world.epoch+1⟩,tO1.cells,tO1.tallies,tO1.saved⟩
theorem dC0 (m:Int) (hm:-1000≤m∧m≤1000):F5 tN tO1 (aV9 5 m)=some (tO2 m,⟨0,0,⟨0,0⟩⟩):=by
 have e0:aK2 tN tO1.world 5 (aY4 m)=some ⟨0,0⟩:=cH3 _ 5 m hm rfl (by kernel_rfl)
 have e1:aA2 tN tO1 (aV9 5 m).class_ (aV9 5 m).method=some (⟨0,0,⟨0,0⟩⟩,tO2 m):=by
  show aA2 tN tO1 5 (aY4 m)=_
  unfold aA2
  rw [e0]
  kernel_rfl
 have ho:aH2 tN tO1=some tO1:=by kernel_rfl
 unfold F5
 rw [ho]
 simp only [Option.bind_some]
 rw [e1]
 rfl
def tOH (m:Int) (h:List Ob):y8:=⟨⟨(tO2 m).world.classes,h,(tO2 m).world.epoch⟩,(tO2 m).cells,(tO2 m).tallies,(tO2 m).saved⟩
def tO3 (m:Int):y8:=tOH m [⟨4,[⟨0,0⟩]⟩,⟨5,[⟨0,0⟩]⟩]
def tO4 (n m:Int):y8:=tOH m [⟨4,[⟨3,n⟩]⟩,⟨5,[⟨0,0⟩]⟩]
def tO5 (n m:Int):y8:=tOH m [⟨4,[⟨3,n⟩]⟩,⟨5,[⟨3,n⟩]⟩]
theorem dC3 (m:Int):F5 tN (tO2 m) cQ6=some (tO3 m,⟨0,1,⟨4,1⟩⟩):=by kernel_rfl
theorem dC9 (n m:Int) (hn:-1000≤n∧n≤1000):F5 tN (tO3 m) (z8 4 0 V4 n)=some ((tO4 n m),⟨0,1,⟨4,0⟩⟩):=by
 have e0:=bR2 (tO3 m).world 0 n hn (by kernel_rfl)
 have e1:aF7 tN (tO3 m).world ⟨⟨4,0⟩,V4,[⟨3,n⟩]⟩ 400 (fun x0_ x1_ x2_=>aL3 tN x0_ x1_ x2_ (tO3 m).world) (fun x0_ x1_=>aO6 tN x0_ x1_)=some ((tO4 n m).world,⟨⟨4,0⟩,0,1⟩):=by
  unfold aF7
  rw [e0]
  kernel_rfl
 have e2:aK9 tN (tO3 m).world ⟨⟨4,0⟩,V4,[⟨3,n⟩]⟩ 400=some ((tO4 n m).world,⟨⟨4,0⟩,0,1⟩):=by
  unfold aK9
  rw [e1]
  rfl
 have e3:Y5 tN (tO3 m) (z8 4 0 V4 n).kind (z8 4 0 V4 n).call=some (⟨0,1,⟨4,0⟩⟩,(tO4 n m)):=by
  show Y5 tN (tO3 m) 4 ⟨⟨4,0⟩,V4,[⟨3,n⟩]⟩=_
  unfold Y5
  rw [e2]
  kernel_rfl
 have ho:aH2 tN (tO3 m)=some (tO3 m):=by kernel_rfl
 unfold F5
 rw [ho]
 simp only [Option.bind_some]
 rw [e3]
 rfl
theorem dD1 (n m:Int) (hn:-1000≤n∧n≤1000):F5 tN (tO4 n m) (z8 4 1 V4 n)=some ((tO5 n m),⟨0,1,⟨4,1⟩⟩):=by
 have e0:=bR2 (tO4 n m).world 1 n hn (by kernel_rfl)
 have e1:aF7 tN (tO4 n m).world ⟨⟨4,1⟩,V4,[⟨3,n⟩]⟩ 400 (fun x0_ x1_ x2_=>aL3 tN x0_ x1_ x2_ (tO4 n m).world) (fun x0_ x1_=>aO6 tN x0_ x1_)=some ((tO5 n m).world,⟨⟨4,1⟩,0,1⟩):=by
  unfold aF7
  rw [e0]
  kernel_rfl
 have e2:aK9 tN (tO4 n m).world ⟨⟨4,1⟩,V4,[⟨3,n⟩]⟩ 400=some ((tO5 n m).world,⟨⟨4,1⟩,0,1⟩):=by
  unfold aK9
  rw [e1]
  rfl
 have e3:Y5 tN (tO4 n m) (z8 4 1 V4 n).kind (z8 4 1 V4 n).call=some (⟨0,1,⟨4,1⟩⟩,(tO5 n m)):=by
  show Y5 tN (tO4 n m) 4 ⟨⟨4,1⟩,V4,[⟨3,n⟩]⟩=_
  unfold Y5
  rw [e2]
  kernel_rfl
 have ho:aH2 tN (tO4 n m)=some (tO4 n m):=by kernel_rfl
 unfold F5
 rw [ho]
 simp only [Option.bind_some]
 rw [e3]
 rfl
def tO6 (n m:Int):y8:=match F5 tN (tO5 n m) (z8 5 0 D9 5) with
 |some x=>x.1
 |none=>tO5 n m
theorem dB5 (n m:Int):(F5 tN (tO5 n m) (z8 5 0 D9 5)).map (fun x=>x.1)=some (tO6 n m):=by kernel_rfl
end Go.Proofs.YtibjcppjfkamhaaGreatDoor
