/- What is known of data that was read: that it is well formed, and of what bulk. Printed by law.py. -/
import Derived.Test.YtahmeibkdhbngaaFr
import Derived.Test.YtahmeibkdhbngaaDt
namespace Go.Proofs.Ytahmeibkdhbngaa
open Go.ChangeShapes Go.WideShapes Go.ChangeAt Go.RowKit Go.Deep
set_option linter.unusedVariables false
def bP0 (a:Ins):Prop:=okI a.op∧okI a.a∧okI a.b∧okI a.c∧okS a.name
def aK2 (a:Ins):Nat:=bkI a.op+bkI a.a+bkI a.b+bkI a.c+bkS a.name+1
theorem bF0 (a:Ins):1≤aK2 a:=by unfold aK2; omega
def bO9 (a:Me):Prop:=okS a.name∧okI a.args∧okI a.temps∧okI a.prim∧(okL bP0) a.code
def aG6 (a:Me):Nat:=bkS a.name+bkI a.args+bkI a.temps+bkI a.prim+(bkL aK2) a.code+1
theorem bW1 (a:Me):1≤aG6 a:=by unfold aG6; omega
def bU3 (a:Cl):Prop:=okS a.name∧okI a.super∧okI a.slots∧(okL bO9) a.methods
def aS9 (a:Cl):Nat:=bkS a.name+bkI a.super+bkI a.slots+(bkL aG6) a.methods+1
theorem bW3 (a:Cl):1≤aS9 a:=by unfold aS9; omega
def okV (a:V):Prop:=okI a.k∧okI a.n
def bkV (a:V):Nat:=bkI a.k+bkI a.n+1
theorem b06 (a:V):1≤bkV a:=by unfold bkV; omega
def bW2 (a:Ob):Prop:=okI a.cls∧(okL okV) a.slots
def aS5 (a:Ob):Nat:=bkI a.cls+(bkL bkV) a.slots+1
theorem bX1 (a:Ob):1≤aS5 a:=by unfold aS5; omega
def b38 (a:Wd):Prop:=(okL bU3) a.classes∧(okL bW2) a.heap∧okI a.epoch
def bD0 (a:Wd):Nat:=(bkL aS9) a.classes+(bkL aS5) a.heap+bkI a.epoch+1
end Go.Proofs.Ytahmeibkdhbngaa
