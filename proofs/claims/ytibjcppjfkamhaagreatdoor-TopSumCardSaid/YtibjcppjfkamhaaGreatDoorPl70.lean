import Derived.Test.YtibjcppjfkamhaaGreatDoorFr
import Derived.Test.YtibjcppjfkamhaaGreatDoorMir
import Derived.KernelRfl
/- A session's steps for the laws of the whole: closed runs, by the kernel, whatever the numbers that are added. No program in sight. -/
namespace Go.Proofs.YtibjcppjfkamhaaGreatDoor
open Go.RowKit
set_option linter.unusedVariables false
set_option maxRecDepth 1000000
def tN : Nat:=5000
def tL5 : List J7:=match aT2 tN with
 |some l=>l
 |none=>[]
def tS0 : y8:=match aX5 tN with
 |some s=>s
 |none=>⟨⟨[],[],0⟩,[],[],[]⟩
def tR5 : y8×List N7:=match D7 tN tL5 0 tS0 [] with
 |some s=>s
 |none=>(tS0,[])
def z8 (k:Int) (r:Int) (nm:ByteArray) (v:Int):J7:=⟨k,ByteArray.empty,0,0,⟨ByteArray.empty,0,0,0,[]⟩,⟨⟨4,r⟩,nm,[⟨3,v⟩]⟩⟩
def V4 : ByteArray:=⟨#[115,101,116]⟩
def D9 : ByteArray:=⟨#[116,105,109,101,115]⟩
theorem bQ2 : aH1 tN=some true:=by kernel_rfl
theorem b72 : aT2 tN=some tL5:=by kernel_rfl
theorem aV8 : tL5.length=5:=by kernel_rfl
theorem b69 : aX5 tN=some tS0:=by kernel_rfl
theorem b33 : tR5.2.length=5:=by kernel_rfl
theorem b46 (l:List J7):D7 tN (tL5++l) 0 tS0 []=D7 tN l 5 tR5.1 tR5.2:=by kernel_rfl
theorem tW3 (n h:Int) (hn:-1000≤n∧n≤1000):aL5 tN ⟨3,n⟩ h=some 0:=by
 have h1:decide (n < -1073741824)=false:=decide_eq_false (by omega)
 have h2:decide (1073741824 < n)=false:=decide_eq_false (by omega)
 unfold aL5
 simp only [h1,h2]
 rfl
theorem bR2 (w:Wd) (r:Int) (v:Int) (hv:-1000≤v∧v≤1000) (hr:aL5 tN ⟨4,r⟩ (w.heap.length:Int)=some 0):aY9 tN w ⟨⟨4,r⟩,V4,[⟨3,v⟩]⟩ 400=some 0:=by
 have e1:aG6 tN V4=some true:=by kernel_rfl
 have n0:F3 ([(⟨4,r⟩:V)]++[⟨3,v⟩]) ((0:Nat):Int)=some ⟨4,r⟩:=rfl
 have n1:F3 ([(⟨4,r⟩:V)]++[⟨3,v⟩]) ((0+1:Nat):Int)=some ⟨3,v⟩:=rfl
 have hl:aC8 tN w ⟨⟨4,r⟩,V4,[⟨3,v⟩]⟩ [⟨4,r⟩,⟨3,v⟩] 0=some (.next ()):=by
  rw [aC8]
  simp only [n0,Option.bind_some,hr,decide_true,Bool.not_true,cond_false]
  rw [aC8]
  simp only [n1,Option.bind_some,tW3 v _ hv,decide_true,Bool.not_true,cond_false]
  rfl
 unfold aY9
 simp only [e1,Option.bind_some]
 show ((aC8 tN w ⟨⟨4,r⟩,V4,[⟨3,v⟩]⟩ [⟨4,r⟩,⟨3,v⟩] 0).bind _)=_
 rw [hl]
 rfl
def tS6 (n:Int):y8:=⟨⟨tR5.1.world.classes,[⟨4,[⟨3,n⟩]⟩],tR5.1.world.epoch⟩,tR5.1.cells,tR5.1.tallies,tR5.1.saved⟩
theorem cH5 (n:Int) (hn:-1000≤n∧n≤1000):F5 tN tR5.1 (z8 4 0 V4 n)=some (tS6 n,⟨0,1,⟨4,0⟩⟩):=by
 have e0:=bR2 tR5.1.world 0 n hn (by kernel_rfl)
 have e1:aF7 tN tR5.1.world ⟨⟨4,0⟩,V4,[⟨3,n⟩]⟩ 400 (fun x0_ x1_ x2_=>aL3 tN x0_ x1_ x2_ tR5.1.world) (fun x0_ x1_=>aO6 tN x0_ x1_)=some ((tS6 n).world,⟨⟨4,0⟩,0,1⟩):=by
  unfold aF7
  rw [e0]
  kernel_rfl
 have e2:aK9 tN tR5.1.world ⟨⟨4,0⟩,V4,[⟨3,n⟩]⟩ 400=some ((tS6 n).world,⟨⟨4,0⟩,0,1⟩):=by
  unfold aK9
  rw [e1]
  rfl
 have e3:Y5 tN tR5.1 (z8 4 0 V4 n).kind (z8 4 0 V4 n).call=some (⟨0,1,⟨4,0⟩⟩,tS6 n):=by
  show Y5 tN tR5.1 4 ⟨⟨4,0⟩,V4,[⟨3,n⟩]⟩=_
  unfold Y5
  rw [e2]
  kernel_rfl
 have ho:aH2 tN tR5.1=some tR5.1:=by kernel_rfl
 unfold F5
 rw [ho]
 simp only [Option.bind_some]
 rw [e3]
 rfl
def a07 (n:Int):Nat→Int
 |0=>0
 |k+1=>(wr (a07 n k+n)).tmod 1073741825
theorem cL2 {x:Int} (h:-1000000≤x∧x≤1000000):x.tmod 1073741825=x:=by
 rcases Int.le_total 0 x with h0|h0
 ·exact Int.tmod_eq_of_lt h0 (by omega)
 ·have:(-x).tmod 1073741825=-x:=Int.tmod_eq_of_lt (by omega) (by omega)
  rw [Int.neg_tmod] at this
  omega
theorem aM2 {n:Int} (hn:-1000≤n∧n≤1000):∀k:Nat,k≤60→a07 n k=n*k∧-1000*(k:Int)≤n*k∧n*k≤1000*(k:Int)
 |0,_=>by simp [a07]
 |k+1,h=>by
  obtain ⟨h1,h2,h3⟩:=aM2 hn k (by omega)
  have e:n*((k+1:Nat):Int)=n*k+n:=by rw [Int.natCast_succ,Int.mul_add,Int.mul_one]
  have ek:((k+1:Nat):Int)=(k:Int)+1:=by omega
  rw [e,a07,h1,aY0 (by unfold Z8; omega),cL2 (by omega)]
  omega
end Go.Proofs.YtibjcppjfkamhaaGreatDoor
