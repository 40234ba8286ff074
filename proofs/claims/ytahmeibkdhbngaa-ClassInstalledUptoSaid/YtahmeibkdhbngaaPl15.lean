import Derived.Test.YtahmeibkdhbngaaPl10
/- Plain laws of the mirrors: what a method of a right world is; fast code. No program in sight. -/
namespace Go.Proofs.Ytahmeibkdhbngaa
open Go.RowKit
set_option linter.unusedVariables false
end Go.Proofs.Ytahmeibkdhbngaa
namespace Go.Proofs.Ytahmeibkdhbngaa
open Go.RowKit
set_option linter.unusedVariables false
end Go.Proofs.Ytahmeibkdhbngaa
namespace Go.Proofs.Ytahmeibkdhbngaa
open Go.RowKit
set_option linter.unusedVariables false
end Go.Proofs.Ytahmeibkdhbngaa
namespace Go.Proofs.Ytahmeibkdhbngaa
open Go.RowKit
set_option linter.unusedVariables false
end Go.Proofs.Ytahmeibkdhbngaa
namespace Go.Proofs.Ytahmeibkdhbngaa
open Go.RowKit
set_option linter.unusedVariables false
theorem aU5 (N:Nat) {l:List Ins} (h:l.length≤1048576):Z6 N l=some l:=by
 unfold Z6
 rw [Z4 (by omega)]
 rfl
theorem aN8 (N:Nat) (m:Me) (h:m.code.length≤1048576):N8 N m=some m:=by
 unfold N8
 rw [aU5 N h]
 rfl
theorem aJ9 (N:Nat):∀(l:List Me) (k:Nat) (acc:List Me),(∀m∈l,m.code.length≤1048576)→acc.length+l.length≤1048576→M5 N l k acc=some (acc++l)
 |[],k,acc,_,_=>by simp [M5]
 |x::l,k,acc,h,hl=>by
  rw [M5,aN8 N x (h x (by simp))]
  simp only [Option.bind_some]
  rw [Z4 (by simp at hl ⊢; omega)]
  simp only [cond_true]
  rw [aJ9 N l (k+1) _ (fun o ho=>h o (by simp [ho])) (by simp at hl ⊢; omega)]
  simp
theorem aK0 (N:Nat):∀(l:List Cl) (k:Nat) (acc:List Cl),(∀x∈l,x.methods.length≤1048576∧∀m∈x.methods,m.code.length≤1048576)→acc.length+l.length≤1048576→M4 N l k acc=some (acc++l)
 |[],k,acc,_,_=>by simp [M4]
 |x::l,k,acc,h,hl=>by
  have hx:=h x (by simp)
  rw [M4,aJ9 N x.methods 0 [] hx.2 (by simpa using hx.1)]
  simp only [Option.bind_some,List.nil_append]
  rw [Z4 (by simp at hl ⊢; omega)]
  simp only [cond_true]
  rw [aK0 N l (k+1) _ (fun o ho=>h o (by simp [ho])) (by simp at hl ⊢; omega)]
  simp
theorem bE1 (N:Nat) (w:Wd) (h:aD1 w):aD0 N w=some w:=by
 unfold aD0
 rw [bK4 N h.2.2.2 h.2.1]
 simp only [Option.bind_some]
 rw [aK0 N w.classes 0 [] h.2.2.1 (by simpa using h.1)]
 rfl
end Go.Proofs.Ytahmeibkdhbngaa
