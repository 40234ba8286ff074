/- What is known of data that was read: that it is well formed, and of what bulk. Printed by law.py. -/
import Derived.Test.YtkecefjmcimemaaFr
import Derived.Test.YtkecefjmcimemaaDt
namespace Go.Proofs.Ytkecefjmcimemaa
open Go.ChangeShapes Go.WideShapes Go.ChangeAt Go.RowKit Go.Deep
set_option linter.unusedVariables false
def okIns (a:Ins):Prop:=okI a.op∧okI a.a∧okI a.b∧okI a.c∧okS a.name
def bkIns (a:Ins):Nat:=bkI a.op+bkI a.a+bkI a.b+bkI a.c+bkS a.name+1
theorem bkIns_pos (a:Ins):1≤bkIns a:=by unfold bkIns; omega
def okMe (a:Me):Prop:=okS a.name∧okI a.args∧okI a.temps∧okI a.prim∧(okL okIns) a.code
def bkMe (a:Me):Nat:=bkS a.name+bkI a.args+bkI a.temps+bkI a.prim+(bkL bkIns) a.code+1
theorem bkMe_pos (a:Me):1≤bkMe a:=by unfold bkMe; omega
def okCl (a:Cl):Prop:=okS a.name∧okI a.super∧okI a.slots∧(okL okMe) a.methods
def bkCl (a:Cl):Nat:=bkS a.name+bkI a.super+bkI a.slots+(bkL bkMe) a.methods+1
theorem bkCl_pos (a:Cl):1≤bkCl a:=by unfold bkCl; omega
def okV (a:V):Prop:=okI a.k∧okI a.n
def bkV (a:V):Nat:=bkI a.k+bkI a.n+1
theorem bkV_pos (a:V):1≤bkV a:=by unfold bkV; omega
def okOb (a:Ob):Prop:=okI a.cls∧(okL okV) a.slots
def bkOb (a:Ob):Nat:=bkI a.cls+(bkL bkV) a.slots+1
theorem bkOb_pos (a:Ob):1≤bkOb a:=by unfold bkOb; omega
def okWd (a:Wd):Prop:=(okL okCl) a.classes∧(okL okOb) a.heap∧okI a.epoch
def bkWd (a:Wd):Nat:=(bkL bkCl) a.classes+(bkL bkOb) a.heap+bkI a.epoch+1
theorem bkWd_pos (a:Wd):1≤bkWd a:=by unfold bkWd; omega
def okTCall (a:TCall):Prop:=okV a.self_∧okS a.name∧(okL okV) a.args
def bkTCall (a:TCall):Nat:=bkV a.self_+bkS a.name+(bkL bkV) a.args+1
theorem bkTCall_pos (a:TCall):1≤bkTCall a:=by unfold bkTCall; omega
end Go.Proofs.Ytkecefjmcimemaa
