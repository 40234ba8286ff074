/- What is known of data that was read: that it is well formed, and of what bulk. Printed by law.py. -/
import Derived.Test.YtkecefjmcimemaaFr
import Derived.Test.YtkecefjmcimemaaDt
namespace Go.Proofs.Ytkecefjmcimemaa
open Go.ChangeShapes Go.WideShapes Go.ChangeAt Go.RowKit Go.Deep
set_option linter.unusedVariables false
def cS5 (a:Ins):Prop:=okI a.op∧okI a.a∧okI a.b∧okI a.c∧okS a.name
def bJ8 (a:Ins):Nat:=bkI a.op+bkI a.a+bkI a.b+bkI a.c+bkS a.name+1
theorem cY5 (a:Ins):1≤bJ8 a:=by unfold bJ8; omega
def c05 (a:Me):Prop:=okS a.name∧okI a.args∧okI a.temps∧okI a.prim∧(okL cS5) a.code
def bK1 (a:Me):Nat:=bkS a.name+bkI a.args+bkI a.temps+bkI a.prim+(bkL bJ8) a.code+1
theorem c65 (a:Me):1≤bK1 a:=by unfold bK1; omega
def c94 (a:Cl):Prop:=okS a.name∧okI a.super∧okI a.slots∧(okL c05) a.methods
def bP7 (a:Cl):Nat:=bkS a.name+bkI a.super+bkI a.slots+(bkL bK1) a.methods+1
theorem c57 (a:Cl):1≤bP7 a:=by unfold bP7; omega
def okV (a:V):Prop:=okI a.k∧okI a.n
def bkV (a:V):Nat:=bkI a.k+bkI a.n+1
theorem dB4 (a:V):1≤bkV a:=by unfold bkV; omega
def c79 (a:Ob):Prop:=okI a.cls∧(okL okV) a.slots
def bP9 (a:Ob):Nat:=bkI a.cls+(bkL bkV) a.slots+1
theorem c02 (a:Ob):1≤bP9 a:=by unfold bP9; omega
def dI7 (a:Wd):Prop:=(okL c94) a.classes∧(okL c79) a.heap∧okI a.epoch
def cC2 (a:Wd):Nat:=(bkL bP7) a.classes+(bkL bP9) a.heap+bkI a.epoch+1
def cO0 (a:U2):Prop:=okV a.self_∧okS a.name∧(okL okV) a.args
def bX6 (a:U2):Nat:=bkV a.self_+bkS a.name+(bkL bkV) a.args+1
def c08 (a:St):Prop:=okI a.cls∧okS a.name∧okI a.pos
def cH8 (a:St):Nat:=bkI a.cls+bkS a.name+bkI a.pos+1
end Go.Proofs.Ytkecefjmcimemaa
