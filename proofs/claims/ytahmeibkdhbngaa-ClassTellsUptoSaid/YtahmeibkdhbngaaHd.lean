/- Mirrors that are laid by hand. No program in sight. -/
import Derived.Test.YtahmeibkdhbngaaDt
namespace Go.Proofs.Ytahmeibkdhbngaa
open Go.RowKit
set_option linter.unusedVariables false
def a14 : List ByteArray:=[⟨#[42]⟩,⟨#[43]⟩,⟨#[45]⟩,⟨#[60]⟩,⟨#[61]⟩]
def aK3 : List Me:=[⟨⟨#[42]⟩,1,0,3,[]⟩,⟨⟨#[43]⟩,1,0,1,[]⟩,⟨⟨#[45]⟩,1,0,2,[]⟩,⟨⟨#[60]⟩,1,0,4,[]⟩,⟨⟨#[61]⟩,1,0,5,[]⟩]
def bO2 : Wd:=⟨[⟨⟨#[79,98,106,101,99,116]⟩,-1,0,[]⟩,⟨⟨#[78,105,108]⟩,0,0,[]⟩,⟨⟨#[66,111,111,108]⟩,0,0,[]⟩,⟨⟨#[73,110,116]⟩,0,0,aK3⟩],[],0⟩
def aE1 (N:Nat):Option Wd:=some bO2
def aH7 (N:Nat):Option Wd:=some bO2
def S9 (N:Nat) (a0:List Me) (a1:Int) (a2:List Me):Option (List Me) :=
 match a2 with
 |[x]=>bif (decide (0≤a1) && decide (a1≤(a0.length:Int)) && Nat.ble ((a0.length+1)*64) 140737488355328) then some (a0.take a1.toNat++x::a0.drop a1.toNat) else none
 |_=>none
end Go.Proofs.Ytahmeibkdhbngaa
