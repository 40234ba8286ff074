/- Mirrors that are laid by hand. No program in sight. -/
import Derived.Test.YtibjcppjfkamhaaGreatDoorDt
import Derived.Lib.ItoaNum
import Derived.Lib.AtoiAll
import Derived.Lib.IndexMore
namespace Go.Proofs.YtibjcppjfkamhaaGreatDoor
open Go.RowKit
set_option linter.unusedVariables false
def cU2 : List Me:=[⟨⟨#[42]⟩,1,0,3,[]⟩,⟨⟨#[43]⟩,1,0,1,[]⟩,⟨⟨#[45]⟩,1,0,2,[]⟩,⟨⟨#[60]⟩,1,0,4,[]⟩,⟨⟨#[61]⟩,1,0,5,[]⟩]
def c58 : Wd:=⟨[⟨⟨#[79,98,106,101,99,116]⟩,-1,0,[]⟩,⟨⟨#[78,105,108]⟩,0,0,[]⟩,⟨⟨#[66,111,111,108]⟩,0,0,[]⟩,⟨⟨#[73,110,116]⟩,0,0,cU2⟩],[],0⟩
def bR6 (N:Nat):Option Wd:=some c58
def aY6 (N:Nat) (a0:List Me) (a1:Int) (a2:List Me):Option (List Me) :=
 match a2 with
 |[x]=>bif (decide (0≤a1) && decide (a1≤(a0.length:Int)) && Nat.ble ((a0.length+1)*64) 140737488355328) then some (a0.take a1.toNat++x::a0.drop a1.toNat) else none
 |_=>none
def strconv_Itoa (N:Nat) (n:Int):Option ByteArray:=some ⟨(Lib.itoa n).toArray⟩
def strconv_Atoi (N:Nat) (s:ByteArray):Option (Int×Bool):=bif decide (s.size≤281474976710656) then some (match Lib.atoiAll s.data.toList with
 |.ok v=>(v,true)
 |.syntax=>(0,false)
 |.range=>(Lib.atoiSat s.data.toList,false)) else none
def strings_Cut (N:Nat) (s sep:ByteArray):Option (ByteArray×ByteArray×Bool):=bif decide (s.size < 4294967281) then some (⟨(Lib.cut s.data.toList sep.data.toList).1.toArray⟩,⟨(Lib.cut s.data.toList sep.data.toList).2.1.toArray⟩,(Lib.cut s.data.toList sep.data.toList).2.2) else none
end Go.Proofs.YtibjcppjfkamhaaGreatDoor
