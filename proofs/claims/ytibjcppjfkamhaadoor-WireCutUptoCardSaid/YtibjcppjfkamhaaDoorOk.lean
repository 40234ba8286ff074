/- What is known of data that was read: that it is well formed, and of what bulk. Printed by law.py. -/
import Derived.Test.YtibjcppjfkamhaaDoorFr
import Derived.Test.YtibjcppjfkamhaaDoorDt
namespace Go.Proofs.YtibjcppjfkamhaaDoor
open Go.ChangeShapes Go.WideShapes Go.ChangeAt Go.RowKit Go.Deep
set_option linter.unusedVariables false
def bM6 (a:Ins):Prop:=okI a.op∧okI a.a∧okI a.b∧okI a.c∧okS a.name
def aH3 (a:Ins):Nat:=bkI a.op+bkI a.a+bkI a.b+bkI a.c+bkS a.name+1
theorem b51 (a:Ins):1≤aH3 a:=by unfold aH3; omega
def bZ7 (a:Me):Prop:=okS a.name∧okI a.args∧okI a.temps∧okI a.prim∧(okL bM6) a.code
def aJ2 (a:Me):Nat:=bkS a.name+bkI a.args+bkI a.temps+bkI a.prim+(bkL aH3) a.code+1
theorem b82 (a:Me):1≤aJ2 a:=by unfold aJ2; omega
def bO1 (a:Cl):Prop:=okS a.name∧okI a.super∧okI a.slots∧(okL bZ7) a.methods
def aL2 (a:Cl):Nat:=bkS a.name+bkI a.super+bkI a.slots+(bkL aJ2) a.methods+1
theorem cB8 (a:Cl):1≤aL2 a:=by unfold aL2; omega
def okV (a:V):Prop:=okI a.k∧okI a.n
def bkV (a:V):Nat:=bkI a.k+bkI a.n+1
theorem cG4 (a:V):1≤bkV a:=by unfold bkV; omega
def bY0 (a:Ob):Prop:=okI a.cls∧(okL okV) a.slots
def aL4 (a:Ob):Nat:=bkI a.cls+(bkL bkV) a.slots+1
theorem b90 (a:Ob):1≤aL4 a:=by unfold aL4; omega
def bQ4 (a:Wd):Prop:=(okL bO1) a.classes∧(okL bY0) a.heap∧okI a.epoch
def aV2 (a:Wd):Nat:=(bkL aL2) a.classes+(bkL aL4) a.heap+bkI a.epoch+1
end Go.Proofs.YtibjcppjfkamhaaDoor
