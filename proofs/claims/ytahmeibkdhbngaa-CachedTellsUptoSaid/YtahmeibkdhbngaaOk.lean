/- What is known of data that was read: that it is well formed, and of what bulk. Printed by law.py. -/
import Derived.Test.YtahmeibkdhbngaaFr
import Derived.Test.YtahmeibkdhbngaaDt
namespace Go.Proofs.Ytahmeibkdhbngaa
open Go.ChangeShapes Go.WideShapes Go.ChangeAt Go.RowKit Go.Deep
set_option linter.unusedVariables false
def cX5 (a:Ins):Prop:=okI a.op∧okI a.a∧okI a.b∧okI a.c∧okS a.name
def bL5 (a:Ins):Nat:=bkI a.op+bkI a.a+bkI a.b+bkI a.c+bkS a.name+1
theorem c36 (a:Ins):1≤bL5 a:=by unfold bL5; omega
def dB3 (a:Me):Prop:=okS a.name∧okI a.args∧okI a.temps∧okI a.prim∧(okL cX5) a.code
def bM6 (a:Me):Nat:=bkS a.name+bkI a.args+bkI a.temps+bkI a.prim+(bkL bL5) a.code+1
theorem c84 (a:Me):1≤bM6 a:=by unfold bM6; omega
def dC6 (a:Cl):Prop:=okS a.name∧okI a.super∧okI a.slots∧(okL dB3) a.methods
def bQ5 (a:Cl):Nat:=bkS a.name+bkI a.super+bkI a.slots+(bkL bM6) a.methods+1
theorem dB4 (a:Cl):1≤bQ5 a:=by unfold bQ5; omega
def okV (a:V):Prop:=okI a.k∧okI a.n
def bkV (a:V):Nat:=bkI a.k+bkI a.n+1
theorem dH0 (a:V):1≤bkV a:=by unfold bkV; omega
def c77 (a:Ob):Prop:=okI a.cls∧(okL okV) a.slots
def bQ8 (a:Ob):Nat:=bkI a.cls+(bkL bkV) a.slots+1
theorem dA2 (a:Ob):1≤bQ8 a:=by unfold bQ8; omega
def dK8 (a:Wd):Prop:=(okL dC6) a.classes∧(okL c77) a.heap∧okI a.epoch
def cD9 (a:Wd):Nat:=(bkL bQ5) a.classes+(bkL bQ8) a.heap+bkI a.epoch+1
def cT1 (a:O3):Prop:=okV a.self_∧okS a.name∧(okL okV) a.args
def bZ7 (a:O3):Nat:=bkV a.self_+bkS a.name+(bkL bkV) a.args+1
def c95 (a:St):Prop:=okI a.cls∧okS a.name∧okI a.pos
def cW8 (a:St):Nat:=bkI a.cls+bkS a.name+bkI a.pos+1
def cX1 (a:Ln):Prop:=okI a.cls∧okI a.found
def bH3 (a:Ln):Nat:=bkI a.cls+bkI a.found+1
theorem cN1 (a:Ln):1≤bH3 a:=by unfold bH3; omega
def dA7 (a:Ce):Prop:=c95 a.site∧okI a.epoch∧okB a.many∧(okL cX1) a.lines
def bE1 (a:Ce):Nat:=cW8 a.site+bkI a.epoch+bkB a.many+(bkL bH3) a.lines+1
theorem dB5 (a:Ce):1≤bE1 a:=by unfold bE1; omega
def dD3 (a:Tl):Prop:=c95 a.site∧(okL cX1) a.classes
def bE5 (a:Tl):Nat:=cW8 a.site+(bkL bH3) a.classes+1
theorem dA3 (a:Tl):1≤bE5 a:=by unfold bE5; omega
end Go.Proofs.Ytahmeibkdhbngaa
