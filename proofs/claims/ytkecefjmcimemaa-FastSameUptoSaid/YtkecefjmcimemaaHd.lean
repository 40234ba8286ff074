/- Mirrors that are laid by hand. No program in sight. -/
import Derived.Test.YtkecefjmcimemaaDt
namespace Go.Proofs.Ytkecefjmcimemaa
open Go.RowKit
set_option linter.unusedVariables false
def b29 : List ByteArray:=[⟨#[42]⟩,⟨#[43]⟩,⟨#[45]⟩,⟨#[60]⟩,⟨#[61]⟩]
def aR9 : List Me:=[⟨⟨#[42]⟩,1,0,3,[]⟩,⟨⟨#[43]⟩,1,0,1,[]⟩,⟨⟨#[45]⟩,1,0,2,[]⟩,⟨⟨#[60]⟩,1,0,4,[]⟩,⟨⟨#[61]⟩,1,0,5,[]⟩]
def aZ3 : Wd:=⟨[⟨⟨#[79,98,106,101,99,116]⟩,-1,0,[]⟩,⟨⟨#[78,105,108]⟩,0,0,[]⟩,⟨⟨#[66,111,111,108]⟩,0,0,[]⟩,⟨⟨#[73,110,116]⟩,0,0,aR9⟩],[],0⟩
def bF1 (N:Nat):Option Wd:=some aZ3
end Go.Proofs.Ytkecefjmcimemaa
