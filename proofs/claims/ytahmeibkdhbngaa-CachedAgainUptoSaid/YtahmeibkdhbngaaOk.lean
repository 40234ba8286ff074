/- What is known of data that was read: that it is well formed, and of what bulk. Printed by law.py. -/
import Derived.Test.YtahmeibkdhbngaaFr
import Derived.Test.YtahmeibkdhbngaaDt
namespace Go.Proofs.Ytahmeibkdhbngaa
open Go.ChangeShapes Go.WideShapes Go.ChangeAt Go.RowKit Go.Deep
set_option linter.unusedVariables false
def cK6 (a:Ins):Prop:=okI a.op∧okI a.a∧okI a.b∧okI a.c∧okS a.name
def bC4 (a:Ins):Nat:=bkI a.op+bkI a.a+bkI a.b+bkI a.c+bkS a.name+1
theorem cQ1 (a:Ins):1≤bC4 a:=by unfold bC4; omega
def cX5 (a:Me):Prop:=okS a.name∧okI a.args∧okI a.temps∧okI a.prim∧(okL cK6) a.code
def bD7 (a:Me):Nat:=bkS a.name+bkI a.args+bkI a.temps+bkI a.prim+(bkL bC4) a.code+1
theorem cY7 (a:Me):1≤bD7 a:=by unfold bD7; omega
def cV5 (a:Cl):Prop:=okS a.name∧okI a.super∧okI a.slots∧(okL cX5) a.methods
def bH6 (a:Cl):Nat:=bkS a.name+bkI a.super+bkI a.slots+(bkL bD7) a.methods+1
theorem cS1 (a:Cl):1≤bH6 a:=by unfold bH6; omega
def okV (a:V):Prop:=okI a.k∧okI a.n
def bkV (a:V):Nat:=bkI a.k+bkI a.n+1
theorem cZ9 (a:V):1≤bkV a:=by unfold bkV; omega
def cS7 (a:Ob):Prop:=okI a.cls∧(okL okV) a.slots
def bH4 (a:Ob):Nat:=bkI a.cls+(bkL bkV) a.slots+1
theorem cY2 (a:Ob):1≤bH4 a:=by unfold bH4; omega
def c94 (a:Wd):Prop:=(okL cV5) a.classes∧(okL cS7) a.heap∧okI a.epoch
def bZ1 (a:Wd):Nat:=(bkL bH6) a.classes+(bkL bH4) a.heap+bkI a.epoch+1
def cI3 (a:O4):Prop:=okV a.self_∧okS a.name∧(okL okV) a.args
def bP8 (a:O4):Nat:=bkV a.self_+bkS a.name+(bkL bkV) a.args+1
end Go.Proofs.Ytahmeibkdhbngaa
