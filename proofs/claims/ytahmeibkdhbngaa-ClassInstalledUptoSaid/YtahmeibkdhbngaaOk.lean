/- What is known of data that was read: that it is well formed, and of what bulk. Printed by law.py. -/
import Derived.Test.YtahmeibkdhbngaaFr
import Derived.Test.YtahmeibkdhbngaaDt
namespace Go.Proofs.Ytahmeibkdhbngaa
open Go.ChangeShapes Go.WideShapes Go.ChangeAt Go.RowKit Go.Deep
set_option linter.unusedVariables false
def bQ1 (a:Ins):Prop:=okI a.op∧okI a.a∧okI a.b∧okI a.c∧okS a.name
def aK2 (a:Ins):Nat:=bkI a.op+bkI a.a+bkI a.b+bkI a.c+bkS a.name+1
theorem bG1 (a:Ins):1≤aK2 a:=by unfold aK2; omega
def bP1 (a:Me):Prop:=okS a.name∧okI a.args∧okI a.temps∧okI a.prim∧(okL bQ1) a.code
def aH8 (a:Me):Nat:=bkS a.name+bkI a.args+bkI a.temps+bkI a.prim+(bkL aK2) a.code+1
theorem bW9 (a:Me):1≤aH8 a:=by unfold aH8; omega
def bX3 (a:Cl):Prop:=okS a.name∧okI a.super∧okI a.slots∧(okL bP1) a.methods
def aR8 (a:Cl):Nat:=bkS a.name+bkI a.super+bkI a.slots+(bkL aH8) a.methods+1
theorem bU0 (a:Cl):1≤aR8 a:=by unfold aR8; omega
def okV (a:V):Prop:=okI a.k∧okI a.n
def bkV (a:V):Nat:=bkI a.k+bkI a.n+1
theorem b25 (a:V):1≤bkV a:=by unfold bkV; omega
def bU4 (a:Ob):Prop:=okI a.cls∧(okL okV) a.slots
def aS0 (a:Ob):Nat:=bkI a.cls+(bkL bkV) a.slots+1
theorem bX9 (a:Ob):1≤aS0 a:=by unfold aS0; omega
def b69 (a:Wd):Prop:=(okL bX3) a.classes∧(okL bU4) a.heap∧okI a.epoch
def bB5 (a:Wd):Nat:=(bkL aR8) a.classes+(bkL aS0) a.heap+bkI a.epoch+1
end Go.Proofs.Ytahmeibkdhbngaa
