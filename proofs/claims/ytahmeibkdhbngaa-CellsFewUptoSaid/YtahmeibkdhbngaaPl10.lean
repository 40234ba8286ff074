import Derived.Test.YtahmeibkdhbngaaMir
import Derived.Test.YtahmeibkdhbngaaOk
/- Plain laws of the mirrors: the same, own copies. No program in sight. -/
namespace Go.Proofs.Ytahmeibkdhbngaa
open Go.RowKit
set_option linter.unusedVariables false
theorem bL4 (a b:St):aK5 (eSt a) (eSt b)=decide (a=b):=bO1 a b
end Go.Proofs.Ytahmeibkdhbngaa
namespace Go.Proofs.Ytahmeibkdhbngaa
open Go.RowKit
set_option linter.unusedVariables false
theorem aQ5 {a b:Nat} (h:a≤b):Nat.ble a b=true:=by rw [Nat.ble_eq]; exact h
end Go.Proofs.Ytahmeibkdhbngaa
namespace Go.Proofs.Ytahmeibkdhbngaa
open Go.RowKit
set_option linter.unusedVariables false
theorem aW3 (b:ByteArray):b.toList=b.data.toList:=by
 have:∀(n i:Nat) (r:List UInt8),n=b.size - i→ByteArray.toList.loop b i r=r.reverse++b.data.toList.drop i:=by
  intro n
  induction n with
  |zero =>
   intro i r h
   unfold ByteArray.toList.loop
   rw [if_neg (by omega)]
   have:b.data.toList.length≤i:=by simpa using (show b.size≤i by omega)
   rw [List.drop_eq_nil_of_le this]; simp
  |succ n ih =>
   intro i r h
   have hi:i < b.size:=by omega
   have hi':i < b.data.toList.length:=by simpa using hi
   unfold ByteArray.toList.loop
   rw [if_pos hi,ih (i+1) _ (by omega),List.drop_eq_getElem_cons hi']
   have e:b.get! i=b.data.toList[i]:=by
    show b.data[i]! = _
    rw [getElem!_pos b.data i hi,Array.getElem_toList]
   simp [e]
 have:=this b.size 0 [] (by omega)
 simpa [ByteArray.toList] using this
theorem toList_inj {a b:ByteArray} (h:a.toList=b.toList):a=b:=by
 rw [aW3,aW3] at h
 cases a; cases b
 congr
 exact Array.toList_inj.1 h
end Go.Proofs.Ytahmeibkdhbngaa
namespace Go.Proofs.Ytahmeibkdhbngaa
open Go.RowKit
set_option linter.unusedVariables false
end Go.Proofs.Ytahmeibkdhbngaa
namespace Go.Proofs.Ytahmeibkdhbngaa
open Go.RowKit
set_option linter.unusedVariables false
end Go.Proofs.Ytahmeibkdhbngaa
namespace Go.Proofs.Ytahmeibkdhbngaa
open Go.RowKit
set_option linter.unusedVariables false
end Go.Proofs.Ytahmeibkdhbngaa
namespace Go.Proofs.Ytahmeibkdhbngaa
open Go.RowKit
set_option linter.unusedVariables false
end Go.Proofs.Ytahmeibkdhbngaa
namespace Go.Proofs.Ytahmeibkdhbngaa
open Go.RowKit
set_option linter.unusedVariables false
end Go.Proofs.Ytahmeibkdhbngaa
namespace Go.Proofs.Ytahmeibkdhbngaa
open Go.RowKit
set_option linter.unusedVariables false
def aG2 (c:Int):List Ln→Int
 |[]=>-1
 |y::l=>if y.cls=c then y.found else aG2 c l
def aF5 (s:St) (e c:Int):List Ce→Int
 |[]=>-1
 |x::l=>if x.site=s then (if x.epoch=e then aG2 c x.lines else -1) else aF5 s e c l
theorem bF9 (N:Nat) (s:St):∀(l:List Ce) (k:Nat),j6 N (fun x=>J7 N x s) l k=some (match l.findIdx? (fun t=>decide (t.site=s)) with|some i=>.ret ((k+i:Nat):Int)|none=>.next ())
 |[],k=>rfl
 |x::l,k=>by
  rw [j6,aD7,bF9 N s l (k+1)]
  unfold J7
  rw [bL4]
  by_cases e:x.site=s
  ·simp [e]
  ·cases l.findIdx? (fun t=>decide (t.site=s))<;>simp [e]; omega
theorem aT3 (N:Nat) (l:List Ce) (s:St):O7 N l s=some (ixf (fun t=>decide (t.site=s)) l):=by
 unfold O7 y7 ixf
 rw [bF9]
 cases l.findIdx? (fun t=>decide (t.site=s))<;>simp
theorem aG0 (N:Nat) (c:Int):∀(l:List Ln) (k:Nat),∃o,M4 N c l k=some o∧(match o with|.ret r=>r|.next ()=>-1)=aG2 c l
 |[],k=>⟨.next (),rfl,rfl⟩
 |y::l,k=>by
  rw [M4,aG2]
  by_cases h:y.cls=c
  ·exact ⟨.ret y.found,by simp [h],by simp [h]⟩
  ·obtain ⟨o,h1,h2⟩:=aG0 N c l (k+1)
   exact ⟨o,by simp [h,h1],by rw [if_neg h]; exact h2⟩
theorem aY5 (s:St) (e c:Int):∀l:List Ce,aF5 s e c l=match l.findIdx? (fun t=>decide (t.site=s)) with
   |some i=>(match l[i]? with|some x=>(if x.epoch=e then aG2 c x.lines else -1)|none=>-1)|none=>-1
 |[]=>rfl
 |x::l=>by
  rw [aF5,aD7]
  by_cases h:x.site=s
  ·simp [h]
  ·simp only [h,decide_false,Bool.false_eq_true,if_false]
   rw [aY5 s e c l]
   cases l.findIdx? (fun t=>decide (t.site=s))<;>simp
theorem aY3 (N:Nat) (l:List Ce) (s:St) (e c:Int):O3 N l s e c=some (aF5 s e c l):=by
 unfold O3
 rw [aT3,aY5]
 simp only [Option.bind_some]
 rcases aT1 (fun t:Ce=>decide (t.site=s)) l with ⟨k,x,e1,e2,e3,e4⟩|⟨e1,e2⟩
 ·rw [e1,e4]
  have h0:¬((k:Int) < 0):=by omega
  simp only [h0,decide_false,cond_false,aD6,e2,Option.bind_some]
  by_cases he:x.epoch=e
  ·obtain ⟨o,h1,h2⟩:=aG0 N c x.lines 0
   simp only [he,decide_true,Bool.not_true,cond_false,h1,Option.bind_some,if_true,←h2]
   cases o<;>rfl
  ·simp [he]
 ·rw [e1,e2]
  simp
def bF4 (l:List Ce):Prop:=l.length≤1099511627776∧∀x∈l,x.lines.length≤1099511627776
def aX8 (s:St) (e c f:Int):List Ce→List Ce
 |[]=>[aA8 e c f ⟨s,e,false,[]⟩]
 |x::l=>if x.site=s then aA8 e c f x::l else x::aX8 s e c f l
theorem aZ0 (N:Nat) (l:List Ce) (s:St) (e c f:Int) (h:bF4 l):U6 N l s e c f=some (aX8 s e c f l):=by
 unfold U6
 have hg:(Nat.ble ((l.length+1)*72) 140737488355328 && l.all fun t=>Nat.ble ((t.lines.length+1)*16) 140737488355328)=true:=by
  rw [Bool.and_eq_true,List.all_eq_true]
  exact ⟨aQ5 (by have:=h.1; omega),fun t ht=>aQ5 (by have:=h.2 t ht; omega)⟩
 rw [hg]
 simp only [cond_true]
 congr 1
 clear hg h
 unfold ixd
 induction l with
 |nil=>rfl
 |cons x l ih =>
  rw [aD7,aX8]
  by_cases hs:x.site=s
  ·simp [hs]
  ·simp only [hs,decide_false,Bool.false_eq_true,if_false]
   rw [←ih]
   cases l.findIdx? (fun t=>decide (t.site=s)) with
   |none=>simp
   |some i=>simp
end Go.Proofs.Ytahmeibkdhbngaa
namespace Go.Proofs.Ytahmeibkdhbngaa
open Go.RowKit
set_option linter.unusedVariables false
theorem bN0 {α:Type} (p:α→Bool) (l:List α):(0≤ixf p l)↔l.any p=true:=by
 rcases aT1 p l with ⟨k,x,e1,e2,e3,_⟩|⟨e1,e2⟩
 ·rw [e1,List.any_eq_true]
  exact ⟨fun _=>⟨x,List.mem_of_getElem? e2,e3⟩,fun _=>by omega⟩
 ·rw [e1,List.any_eq_true]
  rw [List.findIdx?_eq_none_iff] at e2
  refine ⟨fun h=>by omega,fun ⟨x,hx,hp⟩=>?_⟩
  rw [e2 x hx] at hp; cases hp
end Go.Proofs.Ytahmeibkdhbngaa
