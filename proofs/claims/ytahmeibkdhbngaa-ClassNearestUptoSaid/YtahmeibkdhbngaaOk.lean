/- What is known of data that was read: that it is well formed, and of what bulk. Printed by law.py. -/
import Derived.Test.YtahmeibkdhbngaaFr
import Derived.Test.YtahmeibkdhbngaaDt
namespace Go.Proofs.Ytahmeibkdhbngaa
open Go.ChangeShapes Go.WideShapes Go.ChangeAt Go.RowKit Go.Deep
set_option linter.unusedVariables false
def bN5 (a:Ins):Prop:=okI a.op∧okI a.a∧okI a.b∧okI a.c∧okS a.name
def aM1 (a:Ins):Nat:=bkI a.op+bkI a.a+bkI a.b+bkI a.c+bkS a.name+1
theorem bP7 (a:Ins):1≤aM1 a:=by unfold aM1; omega
def bR6 (a:Me):Prop:=okS a.name∧okI a.args∧okI a.temps∧okI a.prim∧(okL bN5) a.code
def aM6 (a:Me):Nat:=bkS a.name+bkI a.args+bkI a.temps+bkI a.prim+(bkL aM1) a.code+1
theorem bT5 (a:Me):1≤aM6 a:=by unfold aM6; omega
def bU2 (a:Cl):Prop:=okS a.name∧okI a.super∧okI a.slots∧(okL bR6) a.methods
def aP8 (a:Cl):Nat:=bkS a.name+bkI a.super+bkI a.slots+(bkL aM6) a.methods+1
theorem bW1 (a:Cl):1≤aP8 a:=by unfold aP8; omega
def okV (a:V):Prop:=okI a.k∧okI a.n
def bkV (a:V):Nat:=bkI a.k+bkI a.n+1
theorem bY0 (a:V):1≤bkV a:=by unfold bkV; omega
def bS8 (a:Ob):Prop:=okI a.cls∧(okL okV) a.slots
def aR4 (a:Ob):Nat:=bkI a.cls+(bkL bkV) a.slots+1
theorem bR3 (a:Ob):1≤aR4 a:=by unfold aR4; omega
def b37 (a:Wd):Prop:=(okL bU2) a.classes∧(okL bS8) a.heap∧okI a.epoch
def bA8 (a:Wd):Nat:=(bkL aP8) a.classes+(bkL aR4) a.heap+bkI a.epoch+1
end Go.Proofs.Ytahmeibkdhbngaa
