/- What is known of data that was read: that it is well formed, and of what bulk. Printed by law.py. -/
import Derived.Test.YtahmeibkdhbngaaFr
import Derived.Test.YtahmeibkdhbngaaDt
namespace Go.Proofs.Ytahmeibkdhbngaa
open Go.ChangeShapes Go.WideShapes Go.ChangeAt Go.RowKit Go.Deep
set_option linter.unusedVariables false
def cS0 (a:Ins):Prop:=okI a.op∧okI a.a∧okI a.b∧okI a.c∧okS a.name
def bI7 (a:Ins):Nat:=bkI a.op+bkI a.a+bkI a.b+bkI a.c+bkS a.name+1
theorem cX7 (a:Ins):1≤bI7 a:=by unfold bI7; omega
def c61 (a:Me):Prop:=okS a.name∧okI a.args∧okI a.temps∧okI a.prim∧(okL cS0) a.code
def bK0 (a:Me):Nat:=bkS a.name+bkI a.args+bkI a.temps+bkI a.prim+(bkL bI7) a.code+1
theorem c06 (a:Me):1≤bK0 a:=by unfold bK0; omega
def c81 (a:Cl):Prop:=okS a.name∧okI a.super∧okI a.slots∧(okL c61) a.methods
def bM7 (a:Cl):Nat:=bkS a.name+bkI a.super+bkI a.slots+(bkL bK0) a.methods+1
theorem c60 (a:Cl):1≤bM7 a:=by unfold bM7; omega
def okV (a:V):Prop:=okI a.k∧okI a.n
def bkV (a:V):Nat:=bkI a.k+bkI a.n+1
theorem dB0 (a:V):1≤bkV a:=by unfold bkV; omega
def c63 (a:Ob):Prop:=okI a.cls∧(okL okV) a.slots
def bO9 (a:Ob):Nat:=bkI a.cls+(bkL bkV) a.slots+1
theorem c25 (a:Ob):1≤bO9 a:=by unfold bO9; omega
def dF8 (a:Wd):Prop:=(okL c81) a.classes∧(okL c63) a.heap∧okI a.epoch
def b81 (a:Wd):Nat:=(bkL bM7) a.classes+(bkL bO9) a.heap+bkI a.epoch+1
def b78 (a:K7):Prop:=okV a.self_∧okS a.name∧(okL okV) a.args
def aV8 (a:K7):Nat:=bkV a.self_+bkS a.name+(bkL bkV) a.args+1
theorem cN4 (a:K7):1≤aV8 a:=by unfold aV8; omega
end Go.Proofs.Ytahmeibkdhbngaa
