/- Mirrors that are laid by hand. No program in sight. -/
import Derived.Test.YtahmeibkdhbngaaDt
namespace Go.Proofs.Ytahmeibkdhbngaa
open Go.RowKit
set_option linter.unusedVariables false
def aP8 : List ByteArray:=[⟨#[42]⟩,⟨#[43]⟩,⟨#[45]⟩,⟨#[60]⟩,⟨#[61]⟩]
def aF0 : List Me:=[⟨⟨#[42]⟩,1,0,3,[]⟩,⟨⟨#[43]⟩,1,0,1,[]⟩,⟨⟨#[45]⟩,1,0,2,[]⟩,⟨⟨#[60]⟩,1,0,4,[]⟩,⟨⟨#[61]⟩,1,0,5,[]⟩]
def bN7 : Wd:=⟨[⟨⟨#[79,98,106,101,99,116]⟩,-1,0,[]⟩,⟨⟨#[78,105,108]⟩,0,0,[]⟩,⟨⟨#[66,111,111,108]⟩,0,0,[]⟩,⟨⟨#[73,110,116]⟩,0,0,aF0⟩],[],0⟩
def aS5 (N:Nat):Option Wd:=some bN7
end Go.Proofs.Ytahmeibkdhbngaa
