import Derived.Test.YtibjcppjfkamhaaGreatDoorPl70
/- A session's steps for the law TopChanged. No program in sight. -/
namespace Go.Proofs.YtibjcppjfkamhaaGreatDoor
open Go.RowKit
set_option linter.unusedVariables false
set_option maxRecDepth 1000000
def aY4 (m:Int):Me:=⟨⟨#[103,101,116]⟩,0,0,0,[⟨5,m,0,0,ByteArray.empty⟩,⟨17,0,0,0,ByteArray.empty⟩]⟩
def aV9 (c m:Int):J7:=⟨2,ByteArray.empty,c,0,aY4 m,⟨⟨0,0⟩,ByteArray.empty,[]⟩⟩
theorem cW6 (w:Wd) (c m:Int) (hm:-1000≤m∧m≤1000):aM7 tN w c (aY4 m) ⟨5,m,0,0,ByteArray.empty⟩=some 0:=by
 have h1:decide (-1073741824≤m)=true:=decide_eq_true (by omega)
 have h2:decide (m≤1073741824)=true:=decide_eq_true (by omega)
 unfold aM7
 simp only [h1,h2]
 rfl
theorem cQ1 (w:Wd) (c m:Int) (hm:-1000≤m∧m≤1000):aB5 tN w c (aY4 m) [⟨5,m,0,0,ByteArray.empty⟩,⟨17,0,0,0,ByteArray.empty⟩] 0=some (.next ()):=by
 rw [aB5,cW6 w c m hm]
 simp only [Option.bind_some,decide_true,Bool.not_true,cond_false]
 rw [aB5]
 have:aM7 tN w c (aY4 m) ⟨17,0,0,0,ByteArray.empty⟩=some 0:=by kernel_rfl
 rw [this]
 rfl
theorem cH3 (w:Wd) (c m:Int) (hm:-1000≤m∧m≤1000) (h0:decide (c < 0)=false) (h1:decide ((w.classes.length:Int)≤c)=false):aK2 tN w c (aY4 m)=some ⟨0,0⟩:=by
 have e1:aG6 tN (aY4 m).name=some true:=by kernel_rfl
 have e2:a09 tN (aY4 m)=some ([0,1],⟨0,0⟩):=by kernel_rfl
 have e3:aB5 tN w c (aY4 m) (aY4 m).code 0=some (.next ()):=cQ1 w c m hm
 unfold aK2
 simp only [h0,h1,cond_false,Option.bind_some,e1,e2,e3,Bool.not_true]
 rfl
def tS7 (n:Int):y8:=match F5 tN (tS6 n) (z8 5 0 D9 4) with
 |some x=>x.1
 |none=>tS6 n
def dB8 (s:y8) (m:Int):y8:=⟨⟨s.world.classes.modify 4 fun c=>⟨c.name,c.super,c.slots,c.methods.set 0 (aY4 m)⟩,s.world.heap,s.world.epoch+1⟩,s.cells,s.tallies,s.saved⟩
def tS9 (n m:Int):y8:=dB8 (tS7 n) m
theorem dB0 (n:Int):(F5 tN (tS6 n) (z8 5 0 D9 4)).map (fun x=>x.1)=some (tS7 n):=by kernel_rfl
theorem dA8 (n m:Int) (hm:-1000≤m∧m≤1000):F5 tN (tS7 n) (aV9 4 m)=some (tS9 n m,⟨0,0,⟨0,0⟩⟩):=by
 have e0:aK2 tN (tS7 n).world 4 (aY4 m)=some ⟨0,0⟩:=cH3 _ 4 m hm rfl (by kernel_rfl)
 have e1:aA2 tN (tS7 n) (aV9 4 m).class_ (aV9 4 m).method=some (⟨0,0,⟨0,0⟩⟩,tS9 n m):=by
  show aA2 tN (tS7 n) 4 (aY4 m)=_
  unfold aA2
  rw [e0]
  kernel_rfl
 have ho:aH2 tN (tS7 n)=some (tS7 n):=by kernel_rfl
 unfold F5
 rw [ho]
 simp only [Option.bind_some]
 rw [e1]
 rfl
end Go.Proofs.YtibjcppjfkamhaaGreatDoor
