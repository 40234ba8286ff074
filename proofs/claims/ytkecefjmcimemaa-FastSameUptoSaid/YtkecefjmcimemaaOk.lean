/- What is known of data that was read: that it is well formed, and of what bulk. Printed by law.py. -/
import Derived.Test.YtkecefjmcimemaaFr
import Derived.Test.YtkecefjmcimemaaDt
namespace Go.Proofs.Ytkecefjmcimemaa
open Go.ChangeShapes Go.WideShapes Go.ChangeAt Go.RowKit Go.Deep
set_option linter.unusedVariables false
def cU7 (a:Ins):Prop:=okI a.op∧okI a.a∧okI a.b∧okI a.c∧okS a.name
def bL4 (a:Ins):Nat:=bkI a.op+bkI a.a+bkI a.b+bkI a.c+bkS a.name+1
theorem c38 (a:Ins):1≤bL4 a:=by unfold bL4; omega
def c63 (a:Me):Prop:=okS a.name∧okI a.args∧okI a.temps∧okI a.prim∧(okL cU7) a.code
def bN0 (a:Me):Nat:=bkS a.name+bkI a.args+bkI a.temps+bkI a.prim+(bkL bL4) a.code+1
theorem c73 (a:Me):1≤bN0 a:=by unfold bN0; omega
def c74 (a:Cl):Prop:=okS a.name∧okI a.super∧okI a.slots∧(okL c63) a.methods
def bQ8 (a:Cl):Nat:=bkS a.name+bkI a.super+bkI a.slots+(bkL bN0) a.methods+1
theorem dA3 (a:Cl):1≤bQ8 a:=by unfold bQ8; omega
def okV (a:V):Prop:=okI a.k∧okI a.n
def bkV (a:V):Nat:=bkI a.k+bkI a.n+1
theorem dJ2 (a:V):1≤bkV a:=by unfold bkV; omega
def c99 (a:Ob):Prop:=okI a.cls∧(okL okV) a.slots
def bR7 (a:Ob):Nat:=bkI a.cls+(bkL bkV) a.slots+1
theorem c61 (a:Ob):1≤bR7 a:=by unfold bR7; omega
def dL2 (a:Wd):Prop:=(okL c74) a.classes∧(okL c99) a.heap∧okI a.epoch
def cD6 (a:Wd):Nat:=(bkL bQ8) a.classes+(bkL bR7) a.heap+bkI a.epoch+1
def cR5 (a:O6):Prop:=okV a.self_∧okS a.name∧(okL okV) a.args
def bZ3 (a:O6):Nat:=bkV a.self_+bkS a.name+(bkL bkV) a.args+1
def dJ4 (a:St):Prop:=okI a.cls∧okS a.name∧okI a.pos
def c92 (a:St):Nat:=bkI a.cls+bkS a.name+bkI a.pos+1
def c71 (a:Ln):Prop:=okI a.cls∧okI a.found
def cV4 (a:Ln):Nat:=bkI a.cls+bkI a.found+1
def c95 (a:Tl):Prop:=dJ4 a.site∧(okL c71) a.classes
def cK0 (a:Tl):Nat:=c92 a.site+(bkL cV4) a.classes+1
end Go.Proofs.Ytkecefjmcimemaa
