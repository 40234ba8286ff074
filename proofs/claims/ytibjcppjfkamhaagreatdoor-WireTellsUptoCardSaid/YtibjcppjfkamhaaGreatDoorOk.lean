/- What is known of data that was read: that it is well formed, and of what bulk. Printed by law.py. -/
import Derived.Test.YtibjcppjfkamhaaGreatDoorFr
import Derived.Test.YtibjcppjfkamhaaGreatDoorDt
namespace Go.Proofs.YtibjcppjfkamhaaGreatDoor
open Go.ChangeShapes Go.WideShapes Go.ChangeAt Go.RowKit Go.Deep
set_option linter.unusedVariables false
def b06 (a:Ins):Prop:=okI a.op∧okI a.a∧okI a.b∧okI a.c∧okS a.name
def aP4 (a:Ins):Nat:=bkI a.op+bkI a.a+bkI a.b+bkI a.c+bkS a.name+1
theorem cE9 (a:Ins):1≤aP4 a:=by unfold aP4; omega
def b97 (a:Me):Prop:=okS a.name∧okI a.args∧okI a.temps∧okI a.prim∧(okL b06) a.code
def aQ2 (a:Me):Nat:=bkS a.name+bkI a.args+bkI a.temps+bkI a.prim+(bkL aP4) a.code+1
theorem cL1 (a:Me):1≤aQ2 a:=by unfold aQ2; omega
def cA6 (a:Cl):Prop:=okS a.name∧okI a.super∧okI a.slots∧(okL b97) a.methods
def aT2 (a:Cl):Nat:=bkS a.name+bkI a.super+bkI a.slots+(bkL aQ2) a.methods+1
theorem cN2 (a:Cl):1≤aT2 a:=by unfold aT2; omega
def okV (a:V):Prop:=okI a.k∧okI a.n
def bkV (a:V):Nat:=bkI a.k+bkI a.n+1
theorem cP6 (a:V):1≤bkV a:=by unfold bkV; omega
def cB9 (a:Ob):Prop:=okI a.cls∧(okL okV) a.slots
def aS9 (a:Ob):Nat:=bkI a.cls+(bkL bkV) a.slots+1
theorem cJ0 (a:Ob):1≤aS9 a:=by unfold aS9; omega
def cC6 (a:Wd):Prop:=(okL cA6) a.classes∧(okL cB9) a.heap∧okI a.epoch
def bG3 (a:Wd):Nat:=(bkL aT2) a.classes+(bkL aS9) a.heap+bkI a.epoch+1
end Go.Proofs.YtibjcppjfkamhaaGreatDoor
