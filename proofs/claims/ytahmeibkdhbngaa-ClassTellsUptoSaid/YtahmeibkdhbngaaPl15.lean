import Derived.Test.YtahmeibkdhbngaaPl10
/- Plain laws of the mirrors: what a method of a right world is; fast code. No program in sight. -/
namespace Go.Proofs.Ytahmeibkdhbngaa
open Go.RowKit
set_option linter.unusedVariables false
end Go.Proofs.Ytahmeibkdhbngaa
namespace Go.Proofs.Ytahmeibkdhbngaa
open Go.RowKit
set_option linter.unusedVariables false
end Go.Proofs.Ytahmeibkdhbngaa
namespace Go.Proofs.Ytahmeibkdhbngaa
open Go.RowKit
set_option linter.unusedVariables false
theorem aJ2 (N:Nat) (w:Wd) (hs:w.classes.length≤1048576):∀(n:Nat) (k:Nat) (c acc:Int),k≤w.classes.length+1→w.classes.length+1 - k < n →
  O5 N w n c acc (k:Int)=some ((U4 w (w.classes.length+1 - k) c).foldl (fun n k=>match w.classes[k.toNat]? with|some x=>wr (n+x.slots)|none=>n) acc)
 |0,k,c,acc,_,h=>by omega
 |n+1,k,c,acc,hk,hn=>by
  rw [O5]
  by_cases h0:0≤c
  ·by_cases h1:c < w.classes.length
   ·obtain ⟨x,hx,hnth⟩:=aK5 h0 h1
    by_cases h2:k≤w.classes.length
    ·have h2':(k:Int)≤(w.classes.length:Int):=by omega
     have e:w.classes.length+1 - k=(w.classes.length - k)+1:=by omega
     have wk:wr ((k:Int)+1)=((k+1:Nat):Int):=by rw [aO4 (by unfold M9; omega)]; omega
     simp only [h0,h1,h2',decide_true,cond_true,Option.bind_some,hnth,wk]
     rw [aJ2 N w hs n (k+1) _ _ (by omega) (by omega),e,U4,if_pos h0,hx]
     simp only [List.foldl_cons,hx]
     rw [show w.classes.length+1 - (k+1)=w.classes.length - k by omega]
    ·have h2':¬(k:Int)≤(w.classes.length:Int):=by omega
     have e:w.classes.length+1 - k=0:=by omega
     simp only [h0,h1,h2',decide_true,decide_false,cond_true,cond_false,Option.bind_some,e]
     rfl
   ·have hx:w.classes[c.toNat]?=none:=a00 h1
    simp only [h0,h1,decide_true,decide_false,cond_true,cond_false,Option.bind_some]
    cases hm:w.classes.length+1 - k with
    |zero=>rfl
    |succ m=>rw [U4,if_pos h0,hx]; rfl
  ·simp only [h0,decide_false,cond_false,Option.bind_some]
   cases hm:w.classes.length+1 - k with
   |zero=>rfl
   |succ m=>rw [U4,if_neg h0]; rfl
theorem aP9 (N:Nat) (w:Wd) (c:Int) (hN:1048578≤N) (hs:w.classes.length≤1048576):aA2 N w c=some (P6 w c):=by
 unfold aA2 P6
 have h:=aJ2 N w hs N 0 c 0 (by omega) (by omega)
 simp only [Nat.sub_zero,Int.ofNat_zero] at h
 rw [h]
 rfl
theorem aM1 (N:Nat) (s:ByteArray):∀(n k:Nat),n+k=s.size→Q4 N s n k=some (if (s.data.toList.drop k).all nmB=true then .next () else .ret false)
 |0,k,h=>by
  rw [List.drop_eq_nil_of_le (by rw [show s.data.toList.length=s.size from rfl]; omega)]
  rfl
 |n+1,k,h=>by
  have hk:k < s.data.toList.length:=by rw [show s.data.toList.length=s.size from rfl]; omega
  rw [Q4,List.drop_eq_getElem_cons hk,bM4,List.getElem?_eq_getElem hk,aM1 N s n (k+1) (by omega)]
  simp only [Option.bind_some,List.all_cons]
  generalize s.data.toList[k]=u
  generalize s.data.toList.drop (k+1)=b
  by_cases h1:(u.toNat:Int)≤32
  ·have h1':(u.toNat:Int) < 33:=by omega
   have e:nmB u=false:=by simp [nmB,h1']
   simp only [h1,e,decide_true,cond_true,Option.bind_some,Bool.false_and]; rfl
  ·have h1':¬(u.toNat:Int) < 33:=by omega
   by_cases h2:126 < (u.toNat:Int)
   ·have e:nmB u=false:=by simp only [nmB,h1',h2,decide_true,decide_false,Bool.not_true,Bool.and_false]
    simp only [h1,h2,e,decide_true,decide_false,cond_true,cond_false,Option.bind_some,Bool.false_and]; rfl
   ·have e:nmB u=true:=by simp only [nmB,h1',h2,decide_false,Bool.not_false,Bool.and_true]
    simp only [h1,h2,e,decide_false,cond_false,Option.bind_some,Bool.true_and]
theorem aU6 (N:Nat) (s:ByteArray):aC5 N s=some (aR7 s):=by
 unfold aC5 aR7
 have e:((s.size:Int) - ((0:Nat):Int)).toNat=s.size:=by omega
 rw [e,aM1 N s s.size 0 (by omega),List.drop_zero]
 by_cases h1:(s.size:Int) < 1
 ·have h1':¬0 < s.size:=by omega
  simp [h1,h1']
 ·have h1':0 < s.size:=by omega
  by_cases h2:(12:Int) < (s.size:Int)
  ·have h2':¬s.size≤12:=by omega
   simp [h1,h2,h2']
  ·have h2':s.size≤12:=by omega
   cases h:s.data.toList.all nmB<;>simp [h1,h2,h1',h2']
theorem aS7 {w:Wd} (hw:∀x∈w.classes,0≤x.slots∧x.slots≤6):∀(l:List Int) (acc:Int),0≤acc→acc+6*l.length≤100000000 →
  0≤l.foldl (fun n k=>match w.classes[k.toNat]? with|some x=>wr (n+x.slots)|none=>n) acc∧l.foldl (fun n k=>match w.classes[k.toNat]? with|some x=>wr (n+x.slots)|none=>n) acc≤acc+6*l.length
 |[],acc,h0,h1=>⟨by simpa using h0,by simp⟩
 |k::l,acc,h0,h1=>by
  simp only [List.foldl_cons,List.length_cons] at h1 ⊢
  cases hx:w.classes[k.toNat]? with
  |none =>
   have:=aS7 hw l acc h0 (by omega)
   simp only
   omega
  |some x =>
   have:=hw x (List.mem_of_getElem? hx)
   simp only
   rw [aO4 (by unfold M9; omega)]
   have:=aS7 hw l (acc+x.slots) (by omega) (by omega)
   omega
theorem bF5 {w:Wd} (hw:∀x∈w.classes,0≤x.slots∧x.slots≤6) (hs:w.classes.length≤1048576) (c:Int):0≤P6 w c∧P6 w c≤1000000000:=by
 have hl:=bI7 w (w.classes.length+1) c
 have:=aS7 hw (U4 w (w.classes.length+1) c) 0 (by omega) (by omega)
 unfold P6
 exact ⟨this.1,Int.le_trans this.2 (by omega)⟩
end Go.Proofs.Ytahmeibkdhbngaa
namespace Go.Proofs.Ytahmeibkdhbngaa
open Go.RowKit
set_option linter.unusedVariables false
end Go.Proofs.Ytahmeibkdhbngaa
namespace Go.Proofs.Ytahmeibkdhbngaa
open Go.RowKit
set_option linter.unusedVariables false
theorem aV0 (N:Nat) {l:List Ins} (h:l.length≤1048576):Z4 N l=some l:=by
 unfold Z4
 rw [E8 (by omega)]
 rfl
theorem V8 (N:Nat) (m:Me) (h:m.code.length≤1048576):M8 N m=some m:=by
 unfold M8
 rw [aV0 N h]
 rfl
theorem aN6 (N:Nat):∀(l:List Me) (k:Nat) (acc:List Me),(∀m∈l,m.code.length≤1048576)→acc.length+l.length≤1048576→P5 N l k acc=some (acc++l)
 |[],k,acc,_,_=>by simp [P5]
 |x::l,k,acc,h,hl=>by
  rw [P5,V8 N x (h x (by simp))]
  simp only [Option.bind_some]
  rw [E8 (by simp at hl ⊢; omega)]
  simp only [cond_true]
  rw [aN6 N l (k+1) _ (fun o ho=>h o (by simp [ho])) (by simp at hl ⊢; omega)]
  simp
theorem aO2 (N:Nat):∀(l:List Cl) (k:Nat) (acc:List Cl),(∀x∈l,x.methods.length≤1048576∧∀m∈x.methods,m.code.length≤1048576)→acc.length+l.length≤1048576→P8 N l k acc=some (acc++l)
 |[],k,acc,_,_=>by simp [P8]
 |x::l,k,acc,h,hl=>by
  have hx:=h x (by simp)
  rw [P8,aN6 N x.methods 0 [] hx.2 (by simpa using hx.1)]
  simp only [Option.bind_some,List.nil_append]
  rw [E8 (by simp at hl ⊢; omega)]
  simp only [cond_true]
  rw [aO2 N l (k+1) _ (fun o ho=>h o (by simp [ho])) (by simp at hl ⊢; omega)]
  simp
theorem bH9 (N:Nat) (w:Wd) (h:aB9 w):aH6 N w=some w:=by
 unfold aH6
 rw [aL8 N h.2.2.2 h.2.1]
 simp only [Option.bind_some]
 rw [aO2 N w.classes 0 [] h.2.2.1 (by simpa using h.1)]
 rfl
theorem aJ8 (N:Nat):∀(l:List Me) (k:Nat) (acc:List Me),(∀m∈l,m.code.length≤1048576)→acc.length+l.length≤1048576→M0 N l k acc=some (acc++l)
 |[],k,acc,_,_=>by simp [M0]
 |x::l,k,acc,h,hl=>by
  rw [M0,V8 N x (h x (by simp))]
  simp only [Option.bind_some]
  rw [E8 (by simp at hl ⊢; omega)]
  simp only [cond_true]
  rw [aJ8 N l (k+1) _ (fun o ho=>h o (by simp [ho])) (by simp at hl ⊢; omega)]
  simp
theorem aJ9 (N:Nat):∀(l:List Cl) (k:Nat) (acc:List Cl),(∀x∈l,x.methods.length≤1048576∧∀m∈x.methods,m.code.length≤1048576)→acc.length+l.length≤1048576→L9 N l k acc=some (acc++l)
 |[],k,acc,_,_=>by simp [L9]
 |x::l,k,acc,h,hl=>by
  have hx:=h x (by simp)
  rw [L9,aJ8 N x.methods 0 [] hx.2 (by simpa using hx.1)]
  simp only [Option.bind_some,List.nil_append]
  rw [E8 (by simp at hl ⊢; omega)]
  simp only [cond_true]
  rw [aJ9 N l (k+1) _ (fun o ho=>h o (by simp [ho])) (by simp at hl ⊢; omega)]
  simp
theorem bC5 (N:Nat) (w:Wd) (h:aB9 w):aC8 N w=some w:=by
 unfold aC8
 rw [aL8 N h.2.2.2 h.2.1]
 simp only [Option.bind_some]
 rw [aJ9 N w.classes 0 [] h.2.2.1 (by simpa using h.1)]
 rfl
theorem aJ3 (N:Nat):∀(l:List Me) (k:Nat) (acc:List Me),(∀m∈l,m.code.length≤1048576)→acc.length+l.length≤1048576→L8 N l k acc=some (acc++l)
 |[],k,acc,_,_=>by simp [L8]
 |x::l,k,acc,h,hl=>by
  rw [L8,V8 N x (h x (by simp))]
  simp only [Option.bind_some]
  rw [E8 (by simp at hl ⊢; omega)]
  simp only [cond_true]
  rw [aJ3 N l (k+1) _ (fun o ho=>h o (by simp [ho])) (by simp at hl ⊢; omega)]
  simp
theorem aJ6 (N:Nat):∀(l:List Cl) (k:Nat) (acc:List Cl),(∀x∈l,x.methods.length≤1048576∧∀m∈x.methods,m.code.length≤1048576)→acc.length+l.length≤1048576→L6 N l k acc=some (acc++l)
 |[],k,acc,_,_=>by simp [L6]
 |x::l,k,acc,h,hl=>by
  have hx:=h x (by simp)
  rw [L6,aJ3 N x.methods 0 [] hx.2 (by simpa using hx.1)]
  simp only [Option.bind_some,List.nil_append]
  rw [E8 (by simp at hl ⊢; omega)]
  simp only [cond_true]
  rw [aJ6 N l (k+1) _ (fun o ho=>h o (by simp [ho])) (by simp at hl ⊢; omega)]
  simp
theorem bB1 (N:Nat) (w:Wd) (h:aB9 w):aC9 N w=some w:=by
 unfold aC9
 rw [aL8 N h.2.2.2 h.2.1]
 simp only [Option.bind_some]
 rw [aJ6 N w.classes 0 [] h.2.2.1 (by simpa using h.1)]
 rfl
end Go.Proofs.Ytahmeibkdhbngaa
