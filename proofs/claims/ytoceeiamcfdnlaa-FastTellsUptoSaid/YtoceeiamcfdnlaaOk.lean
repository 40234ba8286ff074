/- What is known of data that was read: that it is well formed, and of what bulk. Printed by law.py. -/
import Derived.Test.YtoceeiamcfdnlaaFr
import Derived.Test.YtoceeiamcfdnlaaDt
namespace Go.Proofs.Ytoceeiamcfdnlaa
open Go.ChangeShapes Go.WideShapes Go.ChangeAt Go.RowKit Go.Deep
set_option linter.unusedVariables false
def okSt (a : St) : Prop := okI a.cls ∧ okS a.name ∧ okI a.pos
def bkSt (a : St) : Nat := bkI a.cls + bkS a.name + bkI a.pos + 1
theorem bkSt_pos (a : St) : 1 ≤ bkSt a := by unfold bkSt; omega
def okLn (a : Ln) : Prop := okI a.cls ∧ okI a.found
def bkLn (a : Ln) : Nat := bkI a.cls + bkI a.found + 1
theorem bkLn_pos (a : Ln) : 1 ≤ bkLn a := by unfold bkLn; omega
def okCe (a : Ce) : Prop := okSt a.site ∧ okI a.epoch ∧ okB a.many ∧ (okL okLn) a.lines
def bkCe (a : Ce) : Nat := bkSt a.site + bkI a.epoch + bkB a.many + (bkL bkLn) a.lines + 1
theorem bkCe_pos (a : Ce) : 1 ≤ bkCe a := by unfold bkCe; omega
def okIns (a : Ins) : Prop := okI a.op ∧ okI a.a ∧ okI a.b ∧ okI a.c ∧ okS a.name
def bkIns (a : Ins) : Nat := bkI a.op + bkI a.a + bkI a.b + bkI a.c + bkS a.name + 1
theorem bkIns_pos (a : Ins) : 1 ≤ bkIns a := by unfold bkIns; omega
def okMe (a : Me) : Prop := okS a.name ∧ okI a.args ∧ okI a.temps ∧ okI a.prim ∧ (okL okIns) a.code
def bkMe (a : Me) : Nat := bkS a.name + bkI a.args + bkI a.temps + bkI a.prim + (bkL bkIns) a.code + 1
theorem bkMe_pos (a : Me) : 1 ≤ bkMe a := by unfold bkMe; omega
def okCl (a : Cl) : Prop := okS a.name ∧ okI a.super ∧ okI a.slots ∧ (okL okMe) a.methods
def bkCl (a : Cl) : Nat := bkS a.name + bkI a.super + bkI a.slots + (bkL bkMe) a.methods + 1
theorem bkCl_pos (a : Cl) : 1 ≤ bkCl a := by unfold bkCl; omega
def okV (a : V) : Prop := okI a.k ∧ okI a.n
def bkV (a : V) : Nat := bkI a.k + bkI a.n + 1
theorem bkV_pos (a : V) : 1 ≤ bkV a := by unfold bkV; omega
def okOb (a : Ob) : Prop := okI a.cls ∧ (okL okV) a.slots
def bkOb (a : Ob) : Nat := bkI a.cls + (bkL bkV) a.slots + 1
theorem bkOb_pos (a : Ob) : 1 ≤ bkOb a := by unfold bkOb; omega
def okWd (a : Wd) : Prop := (okL okCl) a.classes ∧ (okL okOb) a.heap ∧ okI a.epoch
def bkWd (a : Wd) : Nat := (bkL bkCl) a.classes + (bkL bkOb) a.heap + bkI a.epoch + 1
theorem bkWd_pos (a : Wd) : 1 ≤ bkWd a := by unfold bkWd; omega
def okTl (a : Tl) : Prop := okSt a.site ∧ (okL okLn) a.classes
def bkTl (a : Tl) : Nat := bkSt a.site + (bkL bkLn) a.classes + 1
theorem bkTl_pos (a : Tl) : 1 ≤ bkTl a := by unfold bkTl; omega
end Go.Proofs.Ytoceeiamcfdnlaa
