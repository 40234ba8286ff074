/- What is known of data that was read: that it is well formed, and of what bulk. Printed by law.py. -/
import Derived.Test.YtibjcppjfkamhaaDoorFr
import Derived.Test.YtibjcppjfkamhaaDoorDt
namespace Go.Proofs.YtibjcppjfkamhaaDoor
open Go.ChangeShapes Go.WideShapes Go.ChangeAt Go.RowKit Go.Deep
set_option linter.unusedVariables false
def bP0 (a:Ins):Prop:=okI a.op∧okI a.a∧okI a.b∧okI a.c∧okS a.name
def aI0 (a:Ins):Nat:=bkI a.op+bkI a.a+bkI a.b+bkI a.c+bkS a.name+1
theorem b79 (a:Ins):1≤aI0 a:=by unfold aI0; omega
def b35 (a:Me):Prop:=okS a.name∧okI a.args∧okI a.temps∧okI a.prim∧(okL bP0) a.code
def aK2 (a:Me):Nat:=bkS a.name+bkI a.args+bkI a.temps+bkI a.prim+(bkL aI0) a.code+1
theorem cF3 (a:Me):1≤aK2 a:=by unfold aK2; omega
def bQ3 (a:Cl):Prop:=okS a.name∧okI a.super∧okI a.slots∧(okL b35) a.methods
def aM7 (a:Cl):Nat:=bkS a.name+bkI a.super+bkI a.slots+(bkL aK2) a.methods+1
theorem cC7 (a:Cl):1≤aM7 a:=by unfold aM7; omega
def okV (a:V):Prop:=okI a.k∧okI a.n
def bkV (a:V):Nat:=bkI a.k+bkI a.n+1
theorem cK1 (a:V):1≤bkV a:=by unfold bkV; omega
def b33 (a:Ob):Prop:=okI a.cls∧(okL okV) a.slots
def aN0 (a:Ob):Nat:=bkI a.cls+(bkL bkV) a.slots+1
theorem cE8 (a:Ob):1≤aN0 a:=by unfold aN0; omega
def bQ4 (a:Wd):Prop:=(okL bQ3) a.classes∧(okL b33) a.heap∧okI a.epoch
def aX4 (a:Wd):Nat:=(bkL aM7) a.classes+(bkL aN0) a.heap+bkI a.epoch+1
end Go.Proofs.YtibjcppjfkamhaaDoor
