import Derived.Test.YtahmeibkdhbngaaMir
import Derived.Test.YtahmeibkdhbngaaOk
/- Plain laws of the mirrors: the same, own copies. No program in sight. -/
namespace Go.Proofs.Ytahmeibkdhbngaa
open Go.RowKit
set_option linter.unusedVariables false
theorem aX2 (a b:V):aB4 (eV a) (eV b)=decide (a=b):=eqV a b
theorem aA3 (a b:St):aB4 (O9 a) (O9 b)=decide (a=b):=c83 a b
theorem aR4 (a b:Ln):aB4 (J6 a) (J6 b)=decide (a=b):=dO7 a b
theorem aM3 (a b:Ins):aB4 (aN6 a) (aN6 b)=decide (a=b):=dO0 a b
theorem aT6 {α:Type} {l:List α} {k n:Nat} (h:n+1=(l.drop k).length):∃y,l[k]?=some y∧l.drop k=y::l.drop (k+1)∧n=(l.drop (k+1)).length:=by
 rw [List.length_drop] at h
 have hk:k < l.length:=by omega
 refine ⟨l[k],List.getElem?_eq_getElem hk,List.drop_eq_getElem_cons hk,by rw [List.length_drop]; omega⟩
theorem aS6 {α:Type} {l:List α} {k:Nat} (h:0=(l.drop k).length):l.drop k=[]:=List.eq_nil_of_length_eq_zero h.symm
theorem b30 (N:Nat) (b:List Ins):∀(l:List Ins) (k:Nat),l.length=(b.drop k).length→Y4 N b l k=some (if l=b.drop k then .next () else .ret false)
 |[],k,h=>by rw [aS6 h]; rfl
 |x::l,k,h=>by
  obtain ⟨y,hy,hd,hl⟩:=aT6 h
  rw [hd,Y4]
  simp only [Option.bind_some,Option.bind_none,cond_true,cond_false,Bool.cond_decide,aX2,aA3,aR4,aM3,Bool.not_true,Bool.not_false,I5,hy,b30 N b l (k+1) hl]
  by_cases e:x=y<;>simp [e]
theorem cR8 (N:Nat) (a b:List Ins):aL9 N a b=some (decide (a=b)):=by
 unfold aL9
 by_cases h:a.length=b.length
 ·rw [b30 N b a 0 (by simpa using h)]
  by_cases e:a=b<;>simp [h,e]
 ·have:a≠b:=fun e=>h (by rw [e])
  have h':¬((a.length:Int)=b.length):=by omega
  simp [this,h']
theorem bY4 (N:Nat) (b:List Ln):∀(l:List Ln) (k:Nat),l.length=(b.drop k).length→V3 N b l k=some (if l=b.drop k then .next () else .ret false)
 |[],k,h=>by rw [aS6 h]; rfl
 |x::l,k,h=>by
  obtain ⟨y,hy,hd,hl⟩:=aT6 h
  rw [hd,V3]
  simp only [Option.bind_some,Option.bind_none,cond_true,cond_false,Bool.cond_decide,aX2,aA3,aR4,aM3,Bool.not_true,Bool.not_false,I5,hy,bY4 N b l (k+1) hl]
  by_cases e:x=y<;>simp [e]
theorem bY7 (N:Nat) (a b:List Ln):aE2 N a b=some (decide (a=b)):=by
 unfold aE2
 by_cases h:a.length=b.length
 ·rw [bY4 N b a 0 (by simpa using h)]
  by_cases e:a=b<;>simp [h,e]
 ·have:a≠b:=fun e=>h (by rw [e])
  have h':¬((a.length:Int)=b.length):=by omega
  simp [this,h']
theorem bV6 (N:Nat) (b:Wd) (i:Nat) (o:Ob) (ho:b.heap[i]?=some o):∀(l:List V) (k:Nat),l.length=(o.slots.drop k).length→V7 N b i l k=some (if l=o.slots.drop k then .next () else .ret false)
 |[],k,h=>by rw [aS6 h]; rfl
 |x::l,k,h=>by
  obtain ⟨y,hy,hd,hl⟩:=aT6 h
  rw [hd,V7]
  simp only [Option.bind_some,Option.bind_none,cond_true,cond_false,Bool.cond_decide,aX2,aA3,aR4,aM3,Bool.not_true,Bool.not_false,I5,hy,ho,bV6 N b i o ho l (k+1) hl]
  by_cases e:x=y<;>simp [e]
theorem bV4 (N:Nat) (b:Wd):∀(l:List Ob) (k:Nat),l.length=(b.heap.drop k).length→U9 N b l k=some (if l=b.heap.drop k then .next () else .ret false)
 |[],k,h=>by rw [aS6 h]; rfl
 |x::l,k,h=>by
  obtain ⟨y,hy,hd,hl⟩:=aT6 h
  rw [hd,U9]
  simp only [Option.bind_some,Option.bind_none,cond_true,cond_false,Bool.cond_decide,aX2,aA3,aR4,aM3,Bool.not_true,Bool.not_false,I5,hy,bV4 N b l (k+1) hl]
  obtain ⟨xc,xs⟩:=x
  obtain ⟨yc,ys⟩:=y
  by_cases e1:xc=yc
  ·by_cases e2:xs.length=ys.length
   ·have:=bV6 N b k ⟨yc,ys⟩ hy xs 0 (by simpa using e2)
    simp only [List.drop_zero] at this
    by_cases e3:xs=ys
    ·subst e3; simp [e1,this]
    ·simp [e1,e2,e3,this]
   ·have e3:xs≠ys:=fun e=>e2 (by rw [e])
    have e2':¬((xs.length:Int)=ys.length):=by omega
    simp [e1,e2',e3]
  ·simp [e1]
theorem bY6 (N:Nat) (c:Cl):∀(l:List Me) (k:Nat),l.length=(c.methods.drop k).length→V5 N c l k=some (if l=c.methods.drop k then .next () else .ret false)
 |[],k,h=>by rw [aS6 h]; rfl
 |x::l,k,h=>by
  obtain ⟨y,hy,hd,hl⟩:=aT6 h
  rw [hd,V5]
  simp only [Option.bind_some,Option.bind_none,cond_true,cond_false,Bool.cond_decide,aX2,aA3,aR4,aM3,Bool.not_true,Bool.not_false,I5,hy,bY6 N c l (k+1) hl,cR8]
  obtain ⟨x1,x2,x3,x4,x5⟩:=x
  obtain ⟨y1,y2,y3,y4,y5⟩:=y
  by_cases e1:x1=y1
  ·by_cases e2:x2=y2
   ·by_cases e3:x3=y3
    ·by_cases e4:x4=y4
     ·by_cases e5:x5=y5<;>simp [e1,e2,e3,e4,e5]
     ·simp [e1,e2,e3,e4]
    ·simp [e1,e2,e3]
   ·simp [e1,e2]
  ·simp [e1]
theorem bW6 (N:Nat) (b:Wd):∀(l:List Cl) (k:Nat),l.length=(b.classes.drop k).length→V4 N b l k=some (if l=b.classes.drop k then .next () else .ret false)
 |[],k,h=>by rw [aS6 h]; rfl
 |x::l,k,h=>by
  obtain ⟨y,hy,hd,hl⟩:=aT6 h
  rw [hd,V4]
  simp only [Option.bind_some,Option.bind_none,cond_true,cond_false,Bool.cond_decide,aX2,aA3,aR4,aM3,Bool.not_true,Bool.not_false,I5,hy,bW6 N b l (k+1) hl]
  obtain ⟨x1,x2,x3,x4⟩:=x
  obtain ⟨y1,y2,y3,y4⟩:=y
  by_cases e1:x1=y1
  ·by_cases e2:x2=y2
   ·by_cases e3:x3=y3
    ·by_cases e4:x4.length=y4.length
     ·have:=bY6 N ⟨y1,y2,y3,y4⟩ x4 0 (by simpa using e4)
      simp only [List.drop_zero] at this
      by_cases e5:x4=y4
      ·subst e5; simp [e1,e2,e3,this]
      ·simp [e1,e2,e3,e4,e5,this]
     ·have e5:x4≠y4:=fun e=>e4 (by rw [e])
      have e4':¬((x4.length:Int)=y4.length):=by omega
      simp [e1,e2,e3,e4',e5]
    ·simp [e1,e2,e3]
   ·simp [e1,e2]
  ·simp [e1]
theorem cQ8 (N:Nat) (a b:Wd):aJ5 N a b=some (decide (a=b)):=by
 unfold aJ5
 obtain ⟨a1,a2,a3⟩:=a
 obtain ⟨b1,b2,b3⟩:=b
 by_cases e3:a3=b3
 ·by_cases h1:a1.length=b1.length
  ·by_cases h2:a2.length=b2.length
   ·have r1:=bW6 N ⟨b1,b2,b3⟩ a1 0 (by simpa using h1)
    have r2:=bV4 N ⟨b1,b2,b3⟩ a2 0 (by simpa using h2)
    simp only [List.drop_zero] at r1 r2
    by_cases e1:a1=b1
    ·subst e1
     by_cases e2:a2=b2
     ·subst e2; simp [e3,r1,r2]
     ·simp [e2,e3,h2,r1,r2]
    ·simp [e1,e3,h1,h2,r1]
   ·have e2:a2≠b2:=fun e=>h2 (by rw [e])
    have h2':¬((a2.length:Int)=b2.length):=by omega
    simp [e2,e3,h1,h2']
  ·have e1:a1≠b1:=fun e=>h1 (by rw [e])
   have h1':¬((a1.length:Int)=b1.length):=by omega
   simp [e1,e3,h1']
 ·simp [e3]
end Go.Proofs.Ytahmeibkdhbngaa
namespace Go.Proofs.Ytahmeibkdhbngaa
open Go.RowKit
set_option linter.unusedVariables false
theorem F4 {a b:Nat} (h:a≤b):Nat.ble a b=true:=by rw [Nat.ble_eq]; exact h
theorem b53 {α:Type} {l:List α} {i:Int} (h:¬(i < l.length)):l[i.toNat]?=none:=List.getElem?_eq_none (by omega)
theorem aP6 {α:Type} {l:List α} {i:Int} (h:0≤i):q9 l i=l[i.toNat]?:=by
 unfold q9; rw [decide_eq_true h]; rfl
theorem Y8 {α:Type} {l:List α} {i:Int} (h:0≤i) (h2:i < l.length):∃x,l[i.toNat]?=some x∧q9 l i=some x:=by
 have hl:i.toNat < l.length:=by omega
 exact ⟨l[i.toNat],List.getElem?_eq_getElem hl,by rw [aP6 h,List.getElem?_eq_getElem hl]⟩
def Z0 (v:V) (n:Int):Int :=
 if v.k=0∨v.k=1∨v.k=2 then (if v.n=0 then 0 else 2)
 else if v.k=3 then (if v.n < -1073741824∨1073741824 < v.n then 3 else 0)
 else if v.k=4 then (if v.n < 0∨n≤v.n then 6 else 0) else 1
theorem cA5 (N:Nat) (v:V) (n:Int):aW5 N v n=some (Z0 v n):=by
 unfold aW5 Z0
 by_cases h0:v.k=0
 ·by_cases h:v.n=0<;>simp [h0,h]
 by_cases h1:v.k=1
 ·by_cases h:v.n=0<;>simp [h1,h]
 by_cases h2:v.k=2
 ·by_cases h:v.n=0<;>simp [h2,h]
 by_cases h3:v.k=3
 ·by_cases h:v.n < -1073741824<;>by_cases h':1073741824 < v.n<;>simp [h3,h,h']
 by_cases h4:v.k=4
 ·by_cases h:v.n < 0<;>by_cases h':n≤v.n<;>simp [h4,h,h']
 simp [h0,h1,h2,h3,h4]
theorem a08 (N:Nat) (v:V) (n:Int):aJ9 N v n=some (Z0 v n):=by
 unfold aJ9 Z0
 by_cases h0:v.k=0
 ·by_cases h:v.n=0<;>simp [h0,h]
 by_cases h1:v.k=1
 ·by_cases h:v.n=0<;>simp [h1,h]
 by_cases h2:v.k=2
 ·by_cases h:v.n=0<;>simp [h2,h]
 by_cases h3:v.k=3
 ·by_cases h:v.n < -1073741824<;>by_cases h':1073741824 < v.n<;>simp [h3,h,h']
 by_cases h4:v.k=4
 ·by_cases h:v.n < 0<;>by_cases h':n≤v.n<;>simp [h4,h,h']
 by_cases h5:v.k < 0
 ·simp [h0,h1,h2,h3,h4,h5]
 ·have h6:4 < v.k:=by omega
  simp [h0,h1,h2,h3,h4,h5,h6]
def G9 (h:List Ob) (v:V):Int :=
 if v.k=0 then 1 else if v.k=1∨v.k=2 then 2 else if v.k=3 then 3
 else if v.k=4∧0≤v.n then (match h[v.n.toNat]? with|some o=>o.cls|none=>0) else 0
theorem a90 (N:Nat) (h:List Ob) (v:V):aM9 N h v=some (G9 h v):=by
 unfold aM9 G9
 by_cases h0:v.k=0
 ·simp [h0]
 by_cases h1:v.k=1
 ·simp [h1]
 by_cases h2:v.k=2
 ·simp [h2]
 by_cases h3:v.k=3
 ·simp [h3]
 by_cases h4:v.k=4
 ·by_cases h5:0≤v.n
  ·by_cases h6:v.n < h.length
   ·obtain ⟨x,hx,hy⟩:=Y8 h5 h6
    simp [h4,h5,h6,hy]
    exact (congrArg Ob.cls (List.getElem?_eq_some_iff.1 hx).2).symm
   ·simp [h4,h5,h6]
  ·simp [h4,h5]
 ·simp [h0,h1,h2,h3,h4]
theorem bK7 (N:Nat) (h:List Ob) (v:V):aN2 N h v=some (G9 h v):=by
 unfold aN2 G9
 by_cases h0:v.k=0
 ·simp [h0,q9]
 by_cases h1:v.k=1
 ·simp [h1,q9]
 by_cases h2:v.k=2
 ·simp [h2,q9]
 by_cases h3:v.k=3
 ·simp [h3,q9]
 by_cases h4:v.k=4
 ·by_cases h5:0≤v.n
  ·by_cases h6:v.n < h.length
   ·obtain ⟨x,hx,hy⟩:=Y8 h5 h6
    simp [h4,h5,h6,hy]
    exact (congrArg Ob.cls (List.getElem?_eq_some_iff.1 hx).2).symm
   ·simp [h4,h5,h6]
  ·simp [h4,h5]
 ·by_cases h5:v.k < 0
  ·simp [h0,h1,h2,h3,h4,h5]
  ·have h6:3 < v.k:=by omega
   simp [h0,h1,h2,h3,h4,h5,h6]
def bF6 (h:List Ob) (v:V) (n:Int):V :=
 if v.k=4∧0≤v.n∧0≤n then (match h[v.n.toNat]? with|some o=>o.slots.getD n.toNat ⟨0,0⟩|none=>⟨0,0⟩) else ⟨0,0⟩
theorem bS4 (N:Nat) (h:List Ob) (v:V) (n:Int):aV3 N h v n=some (bF6 h v n):=by
 unfold aV3 bF6
 by_cases h4:v.k=4
 ·by_cases h5:0≤v.n
  ·have h5':¬v.n < 0:=by omega
   by_cases h6:v.n < h.length
   ·have h6':¬((h.length:Int)≤v.n):=by omega
    obtain ⟨x,hx,hy⟩:=Y8 h5 h6
    by_cases h7:0≤n
    ·have h7':¬n < 0:=by omega
     by_cases h8:n < x.slots.length
     ·have h8':¬((x.slots.length:Int)≤n):=by omega
      obtain ⟨y,hy1,hy2⟩:=Y8 h7 h8
      simp [h4,h5,h5',h6',h7,h7',hx,hy,h8',hy1,hy2,List.getD_eq_getElem?_getD]
     ·have h8':((x.slots.length:Int)≤n):=by omega
      simp [h4,h5,h5',h6',h7,h7',hx,hy,h8',List.getD_eq_getElem?_getD]
    ·have h7':n < 0:=by omega
     simp [h4,h5,h5',h6',h7,h7']
   ·have h6':((h.length:Int)≤v.n):=by omega
    simp [h4,h5,h5',h6']
  ·have h5':v.n < 0:=by omega
   simp [h4,h5,h5']
 ·simp [h4]
theorem aW1 (N:Nat) (n:Int):∀(l:List V) (k:Nat),aB8 N n l k=some (if (k:Int)≤n then (match l[(n - k).toNat]? with|some x=>.ret x|none=>.next ()) else .next ())
 |[],k=>by simp [aB8]
 |x::l,k=>by
  rw [aB8,aW1 N n l (k+1)]
  by_cases e:(k:Int)=n
  ·subst e; simp
  ·by_cases h:(k:Int)≤n
   ·have h1:((k+1:Nat):Int)≤n:=by omega
    have h2:(n - (k:Int)).toNat=(n - ((k+1:Nat):Int)).toNat+1:=by omega
    rw [if_pos h1,if_pos h,h2]
    simp [e]
   ·have h1:¬((k+1:Nat):Int)≤n:=by omega
    rw [if_neg h1,if_neg h]
    simp [e]
theorem cE5 (N:Nat) (h:List Ob) (v:V) (n:Int):aX3 N h v n=some (bF6 h v n):=by
 unfold aX3 bF6
 by_cases h4:v.k=4
 ·by_cases h5:0≤v.n
  ·by_cases h6:v.n < h.length
   ·obtain ⟨x,hx,hy⟩:=Y8 h5 h6
    by_cases h7:0≤n
    ·simp only [h4,h5,h6,hx,hy,Option.bind_some,Option.bind_none,cond_true,cond_false,Bool.cond_decide,aX2,aA3,aR4,aM3,Bool.not_true,Bool.not_false,I5,decide_true,aW1]
     have:(n - ((0:Nat):Int)).toNat=n.toNat:=by omega
     rw [this]
     cases hq:x.slots[n.toNat]?<;>simp [h7,hq,List.getD_eq_getElem?_getD]
    ·simp [h4,h5,h6,hy,aW1,h7]
   ·simp [h4,h5,h6]
  ·simp [h4,h5]
 ·simp [h4]
theorem bE4 (N:Nat) (b:Bool):aV4 N b=some (if b=true then ⟨2,0⟩ else ⟨1,0⟩):=by cases b<;>rfl
theorem bA8 (N:Nat) (b:Bool):aM2 N b=some (if b=true then ⟨2,0⟩ else ⟨1,0⟩):=by cases b<;>rfl
theorem aV8 (N:Nat) {l:List V} (h:l.length≤1048576):aI5 N l=some l:=by
 unfold aI5
 rw [F4 (by omega)]
 rfl
theorem bL8 (N:Nat):∀(l:List Ob) (k:Nat) (acc:List Ob),(∀o∈l,o.slots.length≤1048576)→acc.length+l.length≤1048576→aF5 N l k acc=some (acc++l)
 |[],k,acc,_,_=>by simp [aF5]
 |x::l,k,acc,h,hl=>by
  rw [aF5,aV8 N (h x (by simp))]
  simp only [Option.bind_some]
  rw [F4 (by simp at hl ⊢; omega)]
  simp only [cond_true]
  rw [bL8 N l (k+1) _ (fun o ho=>h o (by simp [ho])) (by simp at hl ⊢; omega)]
  simp
theorem bX2 (N:Nat) {l:List Ob} (h:∀o∈l,o.slots.length≤1048576) (hl:l.length≤1048576):aY5 N l=some l:=by
 unfold aY5
 rw [bL8 N l 0 [] h (by simpa using hl)]
 rfl
theorem cO2 (N:Nat) {l:List Ob} (c s:Int) (h:∀o∈l,o.slots.length≤1048576) (hl:l.length≤1048575) (h0:0≤s) (h1:s≤1000) :
  bC1 N l c s=some (if 60≤l.length then ([],⟨0,0⟩,15) else (l++[⟨c,List.replicate s.toNat ⟨0,0⟩⟩],⟨4,(l.length:Int)⟩,0)):=by
 unfold bC1
 have hm:max s 0=s:=by omega
 by_cases h6:60≤l.length
 ·have h6':(60:Int)≤l.length:=by omega
  simp [h6,h6']
 ·have h6':¬(60:Int)≤l.length:=by omega
  rw [bX2 N h (by omega),hm]
  have e1:(decide (0≤s) && decide (s≤140737488355328) && decide (s*16≤140737488355328))=true:=by
   simp only [Bool.and_eq_true,decide_eq_true_eq]; omega
  rw [e1]
  simp only [Option.bind_some,cond_true]
  rw [F4 (by simp; omega)]
  simp [h6,h6']
def bD5 (n:Int):V:=⟨3,n.tmod 1073741825⟩
def Z6 (p:Int) (a b:V):V×Int :=
 if a.k≠3∨b.k≠3 then (⟨0,0⟩,12)
 else if p=1 then (bD5 (a.n+b.n),0) else if p=2 then (bD5 (a.n - b.n),0) else if p=3 then (bD5 (a.n*b.n),0)
 else if p=4 then (if a.n < b.n then ⟨2,0⟩ else ⟨1,0⟩,0) else if p=5 then (if a.n=b.n then ⟨2,0⟩ else ⟨1,0⟩,0) else (⟨0,0⟩,1)
theorem dH1 (n:Int):F8 (n.tmod 1073741825):=by
 have h1:=Int.tmod_lt_of_pos n (show (0:Int) < 1073741825 by omega)
 have h2:-1073741825 < n.tmod 1073741825:=by
  rcases Int.le_total 0 n with h|h
  ·have:=Int.tmod_nonneg (1073741825:Int) h; omega
  ·have:=Int.tmod_lt_of_pos (-n) (show (0:Int) < 1073741825 by omega)
   rw [Int.neg_tmod] at this
   omega
 exact ⟨by omega,by omega⟩
theorem b78 (N:Nat) (n:Int):aK2 N n=some (bD5 n):=by
 unfold aK2 bD5
 have:=dH1 n
 simp [this]
def aL1 (n:Int):Prop:=-1073741824≤n∧n≤1073741824
theorem cU6 {a b:Int} (ha:aL1 a) (hb:aL1 b):-1152921504606846976≤a*b∧a*b≤1152921504606846976:=by
 have h:(a*b).natAbs≤1073741824*1073741824:=by
  rw [Int.natAbs_mul]
  exact Nat.mul_le_mul (by have:=ha.1; have:=ha.2; omega) (by have:=hb.1; have:=hb.2; omega)
 omega
theorem cH8 (N:Nat) (p:Int) (a b:V) (ha:a.k=3→aL1 a.n) (hb:b.k=3→aL1 b.n):a04 N p a b=some (Z6 p a b):=by
 unfold a04 Z6
 by_cases h1:a.k=3
 ·by_cases h2:b.k=3
  ·have ha:=ha h1
   have hb:=hb h2
   have hm:=cU6 ha hb
   have w1:wr (a.n+b.n)=a.n+b.n:=H9 (by unfold F8; unfold aL1 at ha hb; omega)
   have w2:wr (a.n - b.n)=a.n - b.n:=H9 (by unfold F8; unfold aL1 at ha hb; omega)
   have w3:wr (a.n*b.n)=a.n*b.n:=H9 (by unfold F8; omega)
   simp only [h1,h2,w1,w2,w3,b78,bE4,Option.bind_some,Option.bind_none,cond_true,cond_false,Bool.cond_decide,aX2,aA3,aR4,aM3,Bool.not_true,Bool.not_false,I5,decide_true,decide_eq_true_eq,ne_eq,not_true_eq_false,or_self,if_false]
   by_cases e1:p=1
   ·simp [e1]
   by_cases e2:p=2
   ·simp [e2]
   by_cases e3:p=3
   ·simp [e3]
   by_cases e4:p=4
   ·simp [e4]
   by_cases e5:p=5
   ·simp [e5]
   simp [e1,e2,e3,e4,e5]
  ·simp [h1,h2]
 ·simp [h1]
theorem c43 {n:Int} (h:0≤n) (hb:n≤1152921504606846976):wr (n - wr (n.tdiv 1073741825*1073741825))=n.tmod 1073741825∧F8 (n.tdiv 1073741825):=by
 have e:=Int.mul_tdiv_add_tmod n 1073741825
 have h1:=Int.tmod_nonneg (1073741825:Int) h
 have h2:=Int.tmod_lt_of_pos n (show (0:Int) < 1073741825 by omega)
 have w1:wr (n.tdiv 1073741825*1073741825)=n.tdiv 1073741825*1073741825:=H9 (by unfold F8; omega)
 have w2:wr (n - n.tdiv 1073741825*1073741825)=n - n.tdiv 1073741825*1073741825:=H9 (by unfold F8; omega)
 rw [w1,w2]
 exact ⟨by omega,by unfold F8; omega⟩
theorem c61 {n:Int} (h:n < 0) (hb:-1152921504606846976≤n):wr (n+wr ((-n).tdiv 1073741825*1073741825))=n.tmod 1073741825∧F8 ((-n).tdiv 1073741825)∧F8 (-n):=by
 have e:=Int.mul_tdiv_add_tmod (-n) 1073741825
 have h1:=Int.tmod_nonneg (1073741825:Int) (show (0:Int)≤-n by omega)
 have h2:=Int.tmod_lt_of_pos (-n) (show (0:Int) < 1073741825 by omega)
 have w1:wr ((-n).tdiv 1073741825*1073741825)=(-n).tdiv 1073741825*1073741825:=H9 (by unfold F8; omega)
 have w2:wr (n+(-n).tdiv 1073741825*1073741825)=n+(-n).tdiv 1073741825*1073741825:=H9 (by unfold F8; omega)
 have e3:(-n).tmod 1073741825=-(n.tmod 1073741825):=Int.neg_tmod ..
 rw [w1,w2]
 exact ⟨by omega,by unfold F8; omega,by unfold F8; omega⟩
theorem cD5 (N:Nat) (p:Int) (a b:V) (ha:a.k=3→aL1 a.n) (hb:b.k=3→aL1 b.n):aW8 N p a b=some (Z6 p a b):=by
 unfold aW8
 by_cases h1:a.k=3
 ·by_cases h2:b.k=3
  ·have ha:=ha h1
   have hb:=hb h2
   have hm:=cU6 ha hb
   have w1:wr (a.n+b.n)=a.n+b.n:=H9 (by unfold F8; unfold aL1 at ha hb; omega)
   have w2:wr (a.n - b.n)=a.n - b.n:=H9 (by unfold F8; unfold aL1 at ha hb; omega)
   have w3:wr (a.n*b.n)=a.n*b.n:=H9 (by unfold F8; omega)
   have fin:∀n:Int,-1152921504606846976≤n→n≤1152921504606846976→(bif decide ((0:Int)≤n) then (bif (decide ((1073741825:Int)≠0) && decide (F8 (n.tdiv (1073741825:Int)))) then some ((⟨(3:Int),(wr (n - (wr ((n.tdiv (1073741825:Int))*(1073741825:Int)))))⟩:V),(0:Int)) else none) else (bif decide (F8 (-n)) then (bif (decide ((1073741825:Int)≠0) && decide (F8 ((-n).tdiv (1073741825:Int)))) then some ((⟨(3:Int),(wr (n+(wr (((-n).tdiv (1073741825:Int))*(1073741825:Int)))))⟩:V),(0:Int)) else none) else none))=some (bD5 n,0):=by
    intro n l1 l2
    by_cases hn:0≤n
    ·obtain ⟨r1,r2⟩:=c43 hn l2
     have d2:=decide_eq_true r2
     have d0:decide ((1073741825:Int)≠0)=true:=by decide
     simp only [hn,r1,d2,d0,bD5,decide_true,cond_true,Bool.and_true]
    ·obtain ⟨r1,r2,r3⟩:=c61 (show n < 0 by omega) l1
     have d2:=decide_eq_true r2
     have d3:=decide_eq_true r3
     have d0:decide ((1073741825:Int)≠0)=true:=by decide
     simp only [hn,r1,d2,d3,d0,bD5,decide_false,cond_true,cond_false,Bool.and_true]
   unfold aL1 at ha hb
   by_cases e1:p=1
   ·have hp:Z6 p a b=(bD5 (a.n+b.n),0):=by simp [Z6,h1,h2,e1]
    rw [hp]
    simp only [h1,h2,w1,e1,decide_true,Bool.not_true,cond_true,cond_false,Option.bind_some]
    exact fin _ (by omega) (by omega)
   by_cases e2:p=2
   ·have hp:Z6 p a b=(bD5 (a.n - b.n),0):=by simp [Z6,h1,h2,e2]
    rw [hp]
    simp only [h1,h2,w2,e2,decide_true,Bool.not_true,cond_true,cond_false,Option.bind_some]
    exact fin _ (by omega) (by omega)
   by_cases e3:p=3
   ·have hp:Z6 p a b=(bD5 (a.n*b.n),0):=by simp [Z6,h1,h2,e3]
    rw [hp]
    simp only [h1,h2,w3,e3,decide_true,Bool.not_true,cond_true,cond_false,Option.bind_some]
    exact fin _ hm.1 hm.2
   unfold Z6
   simp only [h1,h2,bA8,e1,e2,e3,decide_true,decide_false,Bool.not_true,cond_false,Option.bind_some]
   by_cases e4:p=4
   ·simp [e4]
   by_cases e5:p=5
   ·simp [e5]
   simp [e4,e5]
  ·simp [Z6,h1,h2]
 ·simp [Z6,h1]
end Go.Proofs.Ytahmeibkdhbngaa
namespace Go.Proofs.Ytahmeibkdhbngaa
open Go.RowKit
set_option linter.unusedVariables false
theorem c50 : ∀a:List UInt8,Op.bytesLess a a=false
 |[]=>rfl
 |a::x=>by simp [Op.bytesLess,c50 x]
theorem cQ5 : ∀a b c:List UInt8,Op.bytesLess a b=true→Op.bytesLess b c=true→Op.bytesLess a c=true
 |_,[],_,h,_=>by simp [Op.bytesLess] at h
 |_,_::_,[],_,h=>by simp [Op.bytesLess] at h
 |[],_::_,_::_,_,_=>rfl
 |a::x,b::y,c::z,h,h'=>by
  simp only [Op.bytesLess,Bool.or_eq_true,Bool.and_eq_true,decide_eq_true_eq,beq_iff_eq] at h h' ⊢
  rcases h with h|⟨rfl,h⟩
  ·rcases h' with h'|⟨rfl,_⟩
   ·exact Or.inl (UInt8.lt_trans h h')
   ·exact Or.inl h
  ·rcases h' with h'|⟨rfl,h'⟩
   ·exact Or.inl h'
   ·exact Or.inr ⟨rfl,cQ5 x y z h h'⟩
theorem cG3 (b:ByteArray):b.toList=b.data.toList:=by
 have:∀(n i:Nat) (r:List UInt8),n=b.size - i→ByteArray.toList.loop b i r=r.reverse++b.data.toList.drop i:=by
  intro n
  induction n with
  |zero =>
   intro i r h
   unfold ByteArray.toList.loop
   rw [if_neg (by omega)]
   have:b.data.toList.length≤i:=by simpa using (show b.size≤i by omega)
   rw [List.drop_eq_nil_of_le this]; simp
  |succ n ih =>
   intro i r h
   have hi:i < b.size:=by omega
   have hi':i < b.data.toList.length:=by simpa using hi
   unfold ByteArray.toList.loop
   rw [if_pos hi,ih (i+1) _ (by omega),List.drop_eq_getElem_cons hi']
   have e:b.get! i=b.data.toList[i]:=by
    show b.data[i]! = _
    rw [getElem!_pos b.data i hi,Array.getElem_toList]
   simp [e]
 have:=this b.size 0 [] (by omega)
 simpa [ByteArray.toList] using this
theorem toList_inj {a b:ByteArray} (h:a.toList=b.toList):a=b:=by
 rw [cG3,cG3] at h
 cases a; cases b
 congr
 exact Array.toList_inj.1 h
theorem bV3 (a:ByteArray):ltS a a=false:=c50 _
theorem lt_trans {a b c:ByteArray} (h:ltS a b=true) (h':ltS b c=true):ltS a c=true:=cQ5 _ _ _ h h'
def bX5 (ms:List Me):Prop:=ms.Pairwise fun a b=>ltS a.name b.name=true
def ixN (s:ByteArray):List Me→Option Nat
 |[]=>none
 |m::r=>if m.name=s then some 0 else (ixN s r).map (·+1)
theorem a98 {s:ByteArray}:∀{ms:List Me} {i:Nat},ixN s ms=some i→∃m,ms[i]?=some m∧m.name=s
 |m::r,i,h=>by
  unfold ixN at h
  by_cases e:m.name=s
  ·rw [if_pos e] at h; cases h; exact ⟨m,rfl,e⟩
  ·rw [if_neg e] at h
   cases hr:ixN s r with
   |none=>rw [hr] at h; cases h
   |some j=>rw [hr] at h; cases h; obtain ⟨m',h1,h2⟩:=a98 hr; exact ⟨m',h1,h2⟩
theorem cP8 {s:ByteArray}:∀{ms:List Me},ixN s ms=none→∀m∈ms,m.name≠s
 |[],_=>fun m hm=>by cases hm
 |m::r,h=>by
  unfold ixN at h
  by_cases e:m.name=s
  ·rw [if_pos e] at h; cases h
  ·rw [if_neg e] at h
   cases hr:ixN s r with
   |some j=>rw [hr] at h; cases h
   |none =>
    intro x hx
    rcases List.mem_cons.1 hx with rfl|hx
    ·exact e
    ·exact cP8 hr x hx
theorem bG2 {ms:List Me} (h:bX5 ms) {i j:Nat} {a b:Me} (hi:ms[i]?=some a) (hj:ms[j]?=some b) (hij:i < j):ltS a.name b.name=true:=by
 obtain ⟨hi1,rfl⟩:=List.getElem?_eq_some_iff.1 hi
 obtain ⟨hj1,rfl⟩:=List.getElem?_eq_some_iff.1 hj
 exact List.pairwise_iff_getElem.1 h i j hi1 hj1 hij
theorem cE4 {ms:List Me} (h:bX5 ms) {i:Nat} {m:Me} (hm:ms[i]?=some m):ixN m.name ms=some i:=by
 cases hx:ixN m.name ms with
 |none=>exact absurd rfl (cP8 hx m (List.mem_of_getElem? hm))
 |some j =>
  obtain ⟨m',h1,h2⟩:=a98 hx
  rcases Nat.lt_trichotomy i j with hij|hij|hij
  ·have:=bG2 h hm h1 hij; rw [h2,bV3] at this; cases this
  ·rw [hij]
  ·have:=bG2 h h1 hm hij; rw [h2,bV3] at this; cases this
theorem bO1 (N:Nat) (m:Me) (s:ByteArray):aF3 N m s=some (if ltS m.name s=true then -1 else if m.name=s then 0 else 1):=by
 unfold aF3 aL8 cmp_isNaN_string
 cases h:ltS m.name s
 ·by_cases e:m.name=s<;>simp [e]
 ·simp
theorem bR4 (N:Nat) (ms:List Me) (s:ByteArray) (hl:ms.length≤1048576) (hr:bX5 ms):∀(n:Nat) (a b:Nat),a≤b→b≤ms.length→b - a < n →
  (∀i m,i < a→ms[i]?=some m→ltS m.name s=true)→(∀i m,b≤i→ms[i]?=some m→ltS m.name s=false) →
  ∃v:Nat,y9 N ms s (fun x0_ x1_=>aF3 N x0_ x1_) n (a:Int) (b:Int)=some (v:Int)∧v≤ms.length ∧
   (∀i m,i < v→ms[i]?=some m→ltS m.name s=true)∧(∀i m,v≤i→ms[i]?=some m→ltS m.name s=false)
 |0,a,b,_,_,h,_,_=>by omega
 |n+1,a,b,hab,hb,hn,ha,hbb=>by
  rw [y9]
  by_cases hlt:a < b
  ·have hlt':(a:Int) < (b:Int):=by omega
   have w1:wr ((a:Int)+(b:Int))=((a+b:Nat):Int):=by rw [H9 (by unfold F8; omega)]; omega
   have w2:((a+b:Nat):Int) / 2=(((a+b) / 2:Nat):Int):=by omega
   have w3:decide (F8 ((((a+b) / 2:Nat):Int)))=true:=decide_eq_true (by unfold F8; omega)
   have w4:wr ((((a+b) / 2:Nat):Int)+1)=(((a+b) / 2+1:Nat):Int):=by rw [H9 (by unfold F8; omega)]; omega
   have hmid:(a+b) / 2 < ms.length:=by omega
   obtain ⟨x,hx⟩:∃x,ms[(a+b) / 2]?=some x:=⟨_,List.getElem?_eq_getElem hmid⟩
   have w5:(0:Int)≤((a+b:Nat):Int):=by omega
   have ho:=bO1 N x s
   simp only [w1,w2,w3,w4,w5,hlt',I5,hx,ho,decide_true,cond_true,Option.bind_some]
   cases hc:ltS x.name s with
   |true =>
    simp only [if_true,show ((-1:Int) < 0)=True by simp,decide_true,cond_true,Option.bind_some]
    refine bR4 N ms s hl hr n _ b (by omega) hb (by omega) (fun i m hi hm=>?_) hbb
    rcases Nat.lt_or_ge i ((a+b) / 2) with h|h
    ·exact lt_trans (bG2 hr hm hx h) hc
    ·have e:i=(a+b) / 2:=by omega
     subst e; rw [hx] at hm; cases hm; exact hc
   |false =>
    have hd:∀i m,(a+b) / 2≤i→ms[i]?=some m→ltS m.name s=false:=by
     intro i m hi hm
     rcases Nat.lt_or_ge ((a+b) / 2) i with h|h
     ·cases hq:ltS m.name s with
      |false=>rfl
      |true=>have:=lt_trans (bG2 hr hx hm h) hq; rw [hc] at this; cases this
     ·have e:i=(a+b) / 2:=by omega
      subst e; rw [hx] at hm; cases hm; exact hc
    have hz:decide ((if false=true then (-1:Int) else if x.name=s then 0 else 1) < 0)=false:=by
     by_cases e:x.name=s<;>simp [e]
    rw [hz]
    simp only [cond_false,Option.bind_some]
    exact bR4 N ms s hl hr n a _ (by omega) (by omega) (by omega) ha hd
  ·have hlt':¬(a:Int) < (b:Int):=by omega
   simp only [hlt',decide_false,cond_false]
   have e:a=b:=by omega
   subst e
   exact ⟨a,rfl,hb,ha,hbb⟩
theorem bsearch_eq (N:Nat) (ms:List Me) (s:ByteArray) (hN:1048577≤N) (hl:ms.length≤1048576) (hr:bX5 ms) :
  ∃v:Int,G7 N ms s (fun x0_ x1_=>aF3 N x0_ x1_)=some (v,(ixN s ms).isSome)∧∀i,ixN s ms=some i→v=i:=by
 obtain ⟨v,hv,hle,h1,h2⟩:=bR4 N ms s hl hr N 0 ms.length (by omega) (by omega) (by omega) (fun i m h=>absurd h (by omega)) (fun i m h hm=>by
  have:=(List.getElem?_eq_some_iff.1 hm).1; omega)
 refine ⟨(v:Int),?_,?_⟩
 ·unfold G7
  have hv':y9 N ms s (fun x0_ x1_=>aF3 N x0_ x1_) N (0:Int) (ms.length:Int)=some (v:Int):=hv
  rw [hv']
  simp only [Option.bind_some]
  by_cases hlt:v < ms.length
  ·have hlt':(v:Int) < (ms.length:Int):=by omega
   obtain ⟨x,hx⟩:∃x,ms[v]?=some x:=⟨_,List.getElem?_eq_getElem hlt⟩
   have hf:=h2 v x (Nat.le_refl _) hx
   simp only [hlt',decide_true,cond_true,I5,hx,Option.bind_some,bO1,hf]
   by_cases e:x.name=s
   ·have:=cE4 hr hx
    rw [e] at this
    simp [e,this]
   ·cases hi:ixN s ms with
    |none=>simp [e]
    |some i =>
     obtain ⟨m',hm1,hm2⟩:=a98 hi
     rcases Nat.lt_trichotomy i v with h|h|h
     ·have:=h1 i m' h hm1; rw [hm2,bV3] at this; cases this
     ·subst h; rw [hx] at hm1; cases hm1; exact absurd hm2 e
     ·have:=bG2 hr hx hm1 h
      rw [hm2] at this; rw [hf] at this; cases this
  ·have hlt':¬(v:Int) < (ms.length:Int):=by omega
   simp only [hlt',decide_false,cond_false,Option.bind_some]
   cases hi:ixN s ms with
   |none=>rfl
   |some i =>
    obtain ⟨m',hm1,hm2⟩:=a98 hi
    have:=(List.getElem?_eq_some_iff.1 hm1).1
    have:=h1 i m' (by omega) hm1
    rw [hm2,bV3] at this; cases this
 ·intro i hi
  obtain ⟨m',hm1,hm2⟩:=a98 hi
  have hlen:=(List.getElem?_eq_some_iff.1 hm1).1
  rcases Nat.lt_trichotomy i v with h|h|h
  ·have:=h1 i m' h hm1; rw [hm2,bV3] at this; cases this
  ·rw [h]
  ·obtain ⟨x,hx⟩:∃x,ms[v]?=some x:=⟨ms[v]'(by omega),List.getElem?_eq_getElem (by omega)⟩
   have:=bG2 hr hx hm1 h
   rw [hm2] at this
   rw [h2 v x (Nat.le_refl _) hx] at this; cases this
def aB1 (w:Wd) (s:ByteArray):Nat→Int→Option (Int×Int)
 |0,_=>none
 |n+1,c=>if 0≤c then (match w.classes[c.toNat]? with
  |some x=>(match ixN s x.methods with|some i=>some (c,(i:Int))|none=>aB1 w s n x.super)
  |none=>none) else none
def D6 (w:Wd) (s:ByteArray) (c:Int):Int×Int:=(aB1 w s (w.classes.length+1) c).getD (-1,-1)
def aU5 (w:Wd):Prop:=∀x∈w.classes,bX5 x.methods
def aA5 (w:Wd):Prop:=w.classes.length≤1048576∧w.heap.length≤1048576∧(∀x∈w.classes,x.methods.length≤1048576∧∀m∈x.methods,m.code.length≤1048576)∧∀o∈w.heap,o.slots.length≤1048576
def bY8 {σ:Type} (o:Option (Int×Int)) (s:σ):C9 (Int×Int) σ:=match o with|some p=>.ret p|none=>.next s
theorem bH4 (N:Nat) (w:Wd) (s:ByteArray) (hN:1048577≤N) (hw:aU5 w) (hs:aA5 w):∀(n:Nat) (k:Nat) (c:Int),k≤w.classes.length+1→w.classes.length+1 - k < n →
  aD5 N w s n c (k:Int)=some (bY8 (aB1 w s (w.classes.length+1 - k) c) ())
 |0,k,c,_,h=>by omega
 |n+1,k,c,hk,hn=>by
  rw [aD5]
  by_cases h0:0≤c
  ·by_cases h1:c < w.classes.length
   ·obtain ⟨x,hx,hnth⟩:=Y8 h0 h1
    by_cases h2:k≤w.classes.length
    ·have h2':(k:Int)≤(w.classes.length:Int):=by omega
     have hxm:=List.mem_of_getElem? hx
     obtain ⟨v,hv,hvi⟩:=bsearch_eq N x.methods s hN (hs.2.2.1 x hxm).1 (hw x hxm)
     have e:w.classes.length+1 - k=(w.classes.length+1 - (k+1))+1:=by omega
     have wk:wr ((k:Int)+1)=((k+1:Nat):Int):=by rw [H9 (by have:=hs.1; unfold F8; omega)]; omega
     rw [e,aB1]
     simp only [h0,h1,h2',decide_true,cond_true,Option.bind_some,hnth,hv,hx,if_true,wk]
     cases hi:ixN s x.methods with
     |some i=>have:=hvi i hi; subst this; rfl
     |none =>
      simp only [Option.isSome_none,cond_false]
      exact bH4 N w s hN hw hs n (k+1) x.super (by omega) (by omega)
    ·have h2':¬(k:Int)≤(w.classes.length:Int):=by omega
     have e:w.classes.length+1 - k=0:=by omega
     simp only [h0,h1,h2',decide_true,decide_false,cond_true,cond_false,Option.bind_some,e]
     rfl
   ·have:aB1 w s (w.classes.length+1 - k) c=none:=by
     cases w.classes.length+1 - k with
     |zero=>rfl
     |succ n=>rw [aB1,if_pos h0,b53 h1]
    simp only [h0,h1,decide_true,decide_false,cond_true,cond_false,Option.bind_some,this]
    rfl
  ·have:aB1 w s (w.classes.length+1 - k) c=none:=by
    cases w.classes.length+1 - k with
    |zero=>rfl
    |succ n=>rw [aB1,if_neg h0]
   simp only [h0,decide_false,cond_false,Option.bind_some,this]
   rfl
theorem bS9 (N:Nat) (w:Wd) (c:Int) (s:ByteArray) (hN:1048578≤N) (hw:aU5 w) (hs:aA5 w):aL5 N w c s=some (D6 w s c):=by
 unfold aL5 D6
 have h:=bH4 N w s (by omega) hw hs N 0 c (by omega) (by have:=hs.1; omega)
 have h':aD5 N w s N c (0:Int)=some (bY8 (aB1 w s (w.classes.length+1) c) ()):=h
 rw [h']
 cases aB1 w s (w.classes.length+1) c<;>rfl
def aE5 (w:Wd):Nat→Int→List Int
 |0,_=>[]
 |n+1,c=>if 0≤c then (match w.classes[c.toNat]? with|some x=>c::aE5 w n x.super|none=>[]) else []
theorem b68 (w:Wd):∀(n:Nat) (c:Int),(aE5 w n c).length≤n
 |0,_=>Nat.le_refl _
 |n+1,c=>by
  rw [aE5]
  split
  ·split
   ·have:=b68 w n; simp only [List.length_cons]; exact Nat.succ_le_succ (this _)
   ·simp
  ·simp
theorem cU2 (w:Wd):∀(n:Nat) (c:Int),∀k∈aE5 w n c,0≤k∧k < w.classes.length
 |0,_,k,h=>by cases h
 |n+1,c,k,h=>by
  rw [aE5] at h
  split at h
  ·split at h
   ·rename_i h0 _ x hx
    rcases List.mem_cons.1 h with rfl|h
    ·exact ⟨h0,by have:=(List.getElem?_eq_some_iff.1 hx).1; omega⟩
    ·exact cU2 w n _ k h
   ·cases h
  ·cases h
theorem bH0 (N:Nat) (w:Wd) (hs:w.classes.length≤1048576):∀(n:Nat) (c:Int) (acc:List Int),acc.length≤w.classes.length+1→w.classes.length+1 - acc.length < n →
  aH0 N w n c acc=some (acc++aE5 w (w.classes.length+1 - acc.length) c)
 |0,c,acc,_,h=>by omega
 |n+1,c,acc,hk,hn=>by
  rw [aH0]
  by_cases h0:0≤c
  ·by_cases h1:c < w.classes.length
   ·obtain ⟨x,hx,hnth⟩:=Y8 h0 h1
    by_cases h2:acc.length≤w.classes.length
    ·have h2':(acc.length:Int)≤(w.classes.length:Int):=by omega
     have e:w.classes.length+1 - acc.length=(w.classes.length+1 - (acc++[c]).length)+1:=by simp; omega
     have hb:Nat.ble ((acc.length+[c].length)*8) 140737488355328=true:=F4 (by simp; omega)
     rw [e,aE5]
     simp only [h0,h1,h2',decide_true,cond_true,Option.bind_some,hnth,hx,if_true,hb]
     rw [bH0 N w hs n x.super (acc++[c]) (by simp; omega) (by simp; omega)]
     simp
    ·have h2':¬(acc.length:Int)≤(w.classes.length:Int):=by omega
     have e:w.classes.length+1 - acc.length=0:=by omega
     simp [h0,h1,h2',e,aE5]
   ·have:aE5 w (w.classes.length+1 - acc.length) c=[]:=by
     cases w.classes.length+1 - acc.length with
     |zero=>rfl
     |succ n=>rw [aE5,if_pos h0,b53 h1]
    simp [h0,h1,this]
  ·have:aE5 w (w.classes.length+1 - acc.length) c=[]:=by
    cases w.classes.length+1 - acc.length with
    |zero=>rfl
    |succ n=>rw [aE5,if_neg h0]
   simp [h0,this]
theorem bT1 (N:Nat) (w:Wd) (c:Int) (hN:1048578≤N) (hs:w.classes.length≤1048576):aU6 N w c=some (aE5 w (w.classes.length+1) c):=by
 unfold aU6
 rw [bH0 N w hs N c [] (by simp) (by simp; omega)]
 rfl
def H6 (w:Wd) (c:Int):Int:=(aE5 w (w.classes.length+1) c).foldl (fun n k=>match w.classes[k.toNat]? with|some x=>wr (n+x.slots)|none=>n) 0
theorem bD3 (N:Nat) (w:Wd) (L:List Int) (hL:∀k∈L,0≤k∧k < w.classes.length):∀(l:List Int) (k:Nat) (n:Int),l=L.drop k →
  aC8 N w L l k n=some (l.foldl (fun n k=>match w.classes[k.toNat]? with|some x=>wr (n+x.slots)|none=>n) n)
 |[],k,n,_=>rfl
 |c::l,k,n,h=>by
  obtain ⟨h1,h2,_⟩:=D8 h
  obtain ⟨c0,c1⟩:=hL c (List.mem_of_getElem? h1)
  obtain ⟨x,hx,hnth⟩:=Y8 c0 c1
  rw [aC8]
  simp only [I5,h1,Option.bind_some,hnth,List.foldl_cons,hx]
  exact bD3 N w L hL l (k+1) _ h2
theorem aM1 (N:Nat) (w:Wd) (c:Int) (hN:1048578≤N) (hs:w.classes.length≤1048576):aA4 N w c=some (H6 w c):=by
 unfold aA4 H6
 rw [bT1 N w c hN hs]
 simp only [Option.bind_some]
 rw [bD3 N w _ (cU2 w _ c) (aE5 w (w.classes.length+1) c) 0 0 rfl]
 rfl
theorem bF1 (N:Nat) (s:ByteArray) (c:Int):∀(ms:List Me) (k:Nat),aE8 N s c ms k=some (bY8 ((ixN s ms).map fun i=>(c,((k+i:Nat):Int))) ())
 |[],k=>rfl
 |m::r,k=>by
  rw [aE8,ixN]
  by_cases e:m.name=s
  ·simp [e,bY8]
  ·simp only [e,decide_false,cond_false,if_false]
   rw [bF1 N s c r (k+1)]
   cases ixN s r with
   |none=>rfl
   |some i=>simp [bY8]; omega
theorem cF2 (w:Wd) (s:ByteArray) (N:Nat) (L:List Int):∀(n:Nat) (c:Int) (k:Nat),aE5 w n c=L.drop k →
  aE7 N w s L (aE5 w n c) k=some (bY8 (aB1 w s n c) ())
 |0,c,k,_=>rfl
 |n+1,c,k,h=>by
  rw [aB1]
  rw [aE5] at h ⊢
  by_cases h0:0≤c
  ·rw [if_pos h0] at h ⊢
   rw [if_pos h0]
   cases hx:w.classes[c.toNat]? with
   |none=>rfl
   |some x =>
    rw [hx] at h
    simp only at h ⊢
    obtain ⟨h1,h2,_⟩:=D8 h
    have hnth:q9 w.classes c=some x:=by rw [aP6 h0,hx]
    rw [aE7]
    simp only [I5,h1,Option.bind_some,hnth,bF1]
    cases hi:ixN s x.methods with
    |some i=>simp [bY8]
    |none =>
     simp only [Option.map_none,bY8]
     exact cF2 w s N L n x.super (k+1) h2
  ·rw [if_neg h0] at h ⊢
   rw [if_neg h0]
   rfl
theorem aO0 (N:Nat) (w:Wd) (c:Int) (s:ByteArray) (hN:1048578≤N) (hs:w.classes.length≤1048576):aC2 N w c s=some (D6 w s c):=by
 unfold aC2 D6
 rw [bT1 N w c hN hs]
 simp only [Option.bind_some]
 rw [cF2 w s N _ _ c 0 rfl]
 cases aB1 w s (w.classes.length+1) c<;>rfl
theorem b62 (w:Wd) (s:ByteArray):∀(n:Nat) (c:Int) (p:Int×Int),aB1 w s n c=some p→0≤p.1∧0≤p.2∧∃x m,w.classes[p.1.toNat]?=some x∧x.methods[p.2.toNat]?=some m∧m.name=s
 |0,c,p,h=>by cases h
 |n+1,c,p,h=>by
  rw [aB1] at h
  by_cases h0:0≤c
  ·rw [if_pos h0] at h
   cases hx:w.classes[c.toNat]? with
   |none=>rw [hx] at h; cases h
   |some x =>
    rw [hx] at h
    simp only at h
    cases hi:ixN s x.methods with
    |none=>rw [hi] at h; exact b62 w s n _ p h
    |some i =>
     rw [hi] at h
     cases h
     obtain ⟨m,h1,h2⟩:=a98 hi
     exact ⟨h0,Int.natCast_nonneg _,x,m,hx,h1,h2⟩
  ·rw [if_neg h0] at h; cases h
theorem a96 {w:Wd} {s:ByteArray} {c:Int} (h:0≤(D6 w s c).2):∃x m,q9 w.classes (D6 w s c).1=some x∧q9 x.methods (D6 w s c).2=some m∧m.name=s:=by
 unfold D6 at h ⊢
 cases hf:aB1 w s (w.classes.length+1) c with
 |none=>rw [hf] at h; exact absurd h (by decide)
 |some p =>
  obtain ⟨h0,h1,x,m,hx,hm,hn⟩:=b62 w s _ c p hf
  exact ⟨x,m,by rw [Option.getD_some,aP6 h0,hx],by rw [Option.getD_some,aP6 h1,hm],hn⟩
end Go.Proofs.Ytahmeibkdhbngaa
namespace Go.Proofs.Ytahmeibkdhbngaa
open Go.RowKit
set_option linter.unusedVariables false
def sends (i:Ins):Bool:=decide (i.op=14) || decide (i.op=13)
end Go.Proofs.Ytahmeibkdhbngaa
namespace Go.Proofs.Ytahmeibkdhbngaa
open Go.RowKit
set_option linter.unusedVariables false
theorem aU9 {α:Type} {b:Bool} {x y:Option α} (hx:b=true→∃r,x=some r) (hy:b=false→∃r,y=some r):∃r,(bif b then x else y)=some r:=by
 cases b
 ·exact hy rfl
 ·exact hx rfl
theorem bQ1 {α β:Type} {x:Option α} {f:α→Option β} (hx:∃a,x=some a) (hf:∀a,x=some a→∃r,f a=some r):∃r,x.bind f=some r:=by
 obtain ⟨a,rfl⟩:=hx
 exact hf a rfl
def nmB (u:UInt8):Bool:=!decide ((u.toNat:Int) < 33) && !decide (126 < (u.toNat:Int))
def aI1 (s:ByteArray):Bool:=s.data.toList.all nmB && (decide (0 < s.size) && decide (s.size≤12))
theorem cS4 (s:ByteArray) (k:Nat):byO s (k:Int)=s.data.toList[k]?:=by
 unfold byO
 rw [decide_eq_true (Int.natCast_nonneg k)]
 show s[k]?=_
 by_cases h:k < s.size
 ·rw [getElem?_pos s k h,List.getElem?_eq_getElem (by simpa using h)]
  rfl
 ·rw [getElem?_neg s k h,List.getElem?_eq_none (by simpa using h)]
theorem bF0 (N:Nat) (s:ByteArray):∀(n k:Nat),n+k=s.size→aE6 N s n k=some (if (s.data.toList.drop k).all nmB=true then .next () else .ret false)
 |0,k,h=>by
  rw [List.drop_eq_nil_of_le (by rw [show s.data.toList.length=s.size from rfl]; omega)]
  rfl
 |n+1,k,h=>by
  have hk:k < s.data.toList.length:=by rw [show s.data.toList.length=s.size from rfl]; omega
  rw [aE6,List.drop_eq_getElem_cons hk,cS4,List.getElem?_eq_getElem hk,bF0 N s n (k+1) (by omega)]
  simp only [Option.bind_some,List.all_cons]
  generalize s.data.toList[k]=u
  generalize s.data.toList.drop (k+1)=b
  by_cases h1:(u.toNat:Int) < 33
  ·have e:nmB u=false:=by simp [nmB,h1]
   simp only [h1,e,decide_true,cond_true,Option.bind_some,Bool.false_and]; rfl
  ·by_cases h2:126 < (u.toNat:Int)
   ·have e:nmB u=false:=by simp only [nmB,h1,h2,decide_true,decide_false,Bool.not_true,Bool.and_false]
    simp only [h1,h2,e,decide_true,decide_false,cond_true,cond_false,Option.bind_some,Bool.false_and]; rfl
   ·have e:nmB u=true:=by simp only [nmB,h1,h2,decide_false,Bool.not_false,Bool.and_true]
    simp only [h1,h2,e,decide_false,cond_false,Option.bind_some,Bool.true_and]
theorem aB5 (N:Nat) (s:ByteArray):aI4 N s=some (aI1 s):=by
 unfold aI4 aI1
 have e:((s.size:Int) - ((0:Nat):Int)).toNat=s.size:=by omega
 rw [e,bF0 N s s.size 0 (by omega),List.drop_zero]
 cases h:s.data.toList.all nmB
 ·simp
 ·by_cases h1:0 < s.size
  ·by_cases h2:s.size≤12
   ·have h1':(0:Int) < (s.size:Int):=by omega
    have h2':(s.size:Int)≤12:=by omega
    simp [h1,h2,h2']
   ·have h2':¬(s.size:Int)≤12:=by omega
    have h1':(0:Int) < (s.size:Int):=by omega
    simp [h2,h2']
  ·have h1':¬(0:Int) < (s.size:Int):=by omega
   simp [h1]
theorem a19 (N:Nat) (w:Wd) (c:Int) (m:Me) (i:Ins) (hN:1048578≤N) (hs:w.classes.length≤1048576):∃r,M9 N w c m i=some r:=by
 unfold M9
 simp only [aM1 N w c hN hs,aB5]
 repeat (first|exact ⟨_,rfl⟩|refine aU9 (fun _=>?_) (fun _=>?_)|refine bQ1 ?_ (fun a _=>?_)|split)
theorem bU0 (N:Nat) (w:Wd) (c:Int) (m:Me) (i:Ins) (h:M9 N w c m i=some 0) (ho:i.op=14):0≤i.a∧i.a≤4:=by
 unfold M9 at h
 simp only [ho,aB5,show ((14:Int)=1)=False by decide,show ((14:Int)=2)=False by decide,show ((14:Int)=3)=False by decide,show ((14:Int)=4)=False by decide,show ((14:Int)=5)=False by decide,show ((14:Int)=6)=False by decide,show ((14:Int)=7)=False by decide,show ((14:Int)=8)=False by decide,show ((14:Int)=9)=False by decide,show ((14:Int)=10)=False by decide,show ((14:Int)=11)=False by decide,show ((14:Int)=12)=False by decide,show ((14:Int)=13)=False by decide,show ((14:Int)=17)=False by decide,decide_true,decide_false,cond_true,cond_false,Option.bind_some] at h
 by_cases h1:i.a < 0
 ·simp [h1] at h
 ·by_cases h2:4 < i.a
  ·simp [h1,h2] at h
  ·omega
def b04 (m:Me):Prop:=∀i∈m.code,i.op=14→0≤i.a∧i.a≤4
def T9 (i:Ins) (p:Int):Int×Int×List Int :=
 if i.op=9∨i.op=11∨i.op=12 then (1,-1,[wr (p+1)]) else if i.op=10 then (1,1,[wr (p+1)])
 else if i.op=14 then (wr (i.a+1),-i.a,[wr (p+1)]) else if i.op=15 then (0,0,[i.a])
 else if i.op=16 then (1,-1,[wr (p+1),i.a]) else if i.op=17 then (1,-1,[]) else (0,1,[wr (p+1)])
theorem cS0 (i:Ins) (p:Int):(T9 i p).2.2.length≤2:=by
 unfold T9
 (repeat' split)<;>simp
theorem cE1 (N:Nat) (i:Ins) (p:Int) (h:i.op=14→0≤i.a∧i.a≤4):aW7 N i p=some (T9 i p):=by
 unfold aW7 T9
 by_cases h1:i.op=9
 ·simp [h1]
 by_cases h2:i.op=11
 ·simp [h2]
 by_cases h3:i.op=12
 ·simp [h3]
 by_cases h4:i.op=10
 ·simp [h4]
 by_cases h5:i.op=14
 ·have:=h h5
  have e:decide (F8 (-i.a))=true:=decide_eq_true (by unfold F8; omega)
  simp only [h5,e,decide_true,cond_true,show ((14:Int)=9)=False by decide,show ((14:Int)=11)=False by decide,show ((14:Int)=12)=False by decide,show ((14:Int)=10)=False by decide,decide_false,cond_false,Option.bind_some,or_self,if_false,if_true]
 by_cases h6:i.op=15
 ·simp [h6]
 by_cases h7:i.op=16
 ·simp [h7]
 by_cases h8:i.op=17
 ·simp [h8]
 simp [h1,h2,h3,h4,h5,h6,h7,h8]
theorem bZ0 {i:Ins} {p:Int} {x:Int} (h0:0≤x) (h12:x≤12) (hn:¬x < (T9 i p).1) (hm:¬12 < wr (x+(T9 i p).2.1)) (hi:i.op=14→0≤i.a∧i.a≤4) :
  0≤wr (x+(T9 i p).2.1)∧wr (x+(T9 i p).2.1)≤12∧wr (x+(T9 i p).2.1)=x+(T9 i p).2.1:=by
 unfold T9 at hn hm ⊢
 split at hn
 ·rename_i h1
  simp only [h1,if_true] at hm ⊢
  rw [H9 (by unfold F8; omega)]; omega
 ·rename_i h1
  simp only [h1,if_false] at hm ⊢
  split at hn
  ·rename_i h2
   simp only [h2,if_true] at hm ⊢
   rw [H9 (by unfold F8; omega)] at hm ⊢; omega
  ·rename_i h2
   simp only [h2,if_false] at hm ⊢
   split at hn
   ·rename_i h3
    have hi:=hi h3
    simp only [h3,if_true] at hm ⊢
    simp only at hn
    rw [H9 (by unfold F8; omega)] at hn hm ⊢; omega
   ·rename_i h3
    simp only [h3,if_false] at hm ⊢
    split at hn
    ·rename_i h4
     simp only [h4,if_true] at hm ⊢
     rw [H9 (by unfold F8; omega)] at hm ⊢; omega
    ·rename_i h4
     simp only [h4,if_false] at hm ⊢
     split at hn
     ·rename_i h5
      simp only [h5,if_true] at hm ⊢
      rw [H9 (by unfold F8; omega)] at hm ⊢; omega
     ·rename_i h5
      simp only [h5,if_false] at hm ⊢
      split at hn
      ·rename_i h6
       simp only [h6,if_true] at hm ⊢
       rw [H9 (by unfold F8; omega)] at hm ⊢; omega
      ·rename_i h6
       simp only [h6,if_false] at hm ⊢
       rw [H9 (by unfold F8; omega)] at hm ⊢; omega
theorem a11 (N:Nat):∀(n k:Nat) (v:List Int),n+k=v.length→U7 N n k v=some (v.take k++List.replicate n (-1))
 |0,k,v,h=>by rw [U7,List.take_of_length_le (by omega)]; simp
 |n+1,k,v,h=>by
  have hk:k < v.length:=by omega
  rw [U7,I5,List.getElem?_eq_getElem hk]
  simp only [Option.bind_some,Int.toNat_natCast]
  rw [a11 N n (k+1) _ (by simp; omega)]
  congr 1
  rw [List.take_add_one,List.take_set_of_le (Nat.le_refl _),List.getElem?_set_self hk,List.replicate_succ]
  simp
theorem a10 (N:Nat) (x:Int) (r:Int×Int×List Int):∀(l:List Int) (k:Nat) (a b:List Int),l=r.2.2.drop k→a.length+l.length≤17592186044416→b.length+l.length≤17592186044416 →
  U6 N x r l k a b=some (a++l,b++List.replicate l.length (wr (x+r.2.1)))
 |[],k,a,b,_,_,_=>by simp [U6]
 |y::l,k,a,b,h,ha,hb=>by
  obtain ⟨h1,h2,_⟩:=D8 h
  simp only [List.length_cons] at ha hb
  rw [U6]
  have e1:Nat.ble ((a.length+[y].length)*8) 140737488355328=true:=F4 (by simp; omega)
  have e2:Nat.ble ((b.length+[wr (x+r.2.1)].length)*8) 140737488355328=true:=F4 (by simp; omega)
  simp only [I5,h1,Option.bind_some,e1,e2,cond_true]
  rw [a10 N x r l (k+1) _ _ h2 (by simp; omega) (by simp; omega)]
  simp [List.replicate_succ]
def bK8 (h:List Int):Nat:=h.countP fun x=>decide (x < 0)
theorem cF9 {h:List Int} {i:Nat} {x y:Int} (hi:h[i]?=some x) (hx:x < 0) (hy:0≤y):bK8 (h.set i y)+1=bK8 h:=by
 induction h generalizing i with
 |nil=>simp at hi
 |cons a h ih =>
  cases i with
  |zero =>
   simp only [List.getElem?_cons_zero,Option.some.injEq] at hi
   subst hi
   have:¬y < 0:=by omega
   simp [bK8,hx,this]
  |succ i =>
   have:=ih (i:=i) (by simpa using hi)
   simp only [bK8,List.set_cons_succ,List.countP_cons] at this ⊢
   omega
def hgt (m:Me):Nat→List Int→List (Int×Int)→Option (C9 (List Int×P5) (List Int))
 |0,_,_=>none
 |_+1,h,[]=>some (.next h)
 |n+1,h,(p,x)::r =>
  if (m.code.length:Int)≤p∨p < 0 then some (.ret ([],⟨9,m.code.length⟩)) else
  match h[p.toNat]?,m.code[p.toNat]? with
  |some y,some i =>
   if 0≤y then (if y=x then hgt m n h r else some (.ret ([],⟨8,p⟩)))
   else if x < (T9 i p).1∨(i.op=17∧x≠1) then some (.ret ([],⟨8,p⟩))
   else if 12 < wr (x+(T9 i p).2.1) then some (.ret ([],⟨4,p⟩))
   else hgt m n (h.set p.toNat x) (r++(T9 i p).2.2.map fun q=>(q,wr (x+(T9 i p).2.1)))
  |_,_=>none
def hOk (l:List (Int×Int)):Prop:=∀q∈l,0≤q.2∧q.2≤12
theorem b48 (m:Me) (hm:b04 m):∀(n:Nat) (h:List Int) (l:List (Int×Int)),h.length=m.code.length→hOk l→l.length+3*bK8 h < n→∃r,hgt m n h l=some r
 |0,h,l,_,_,hn=>by omega
 |n+1,h,[],_,_,_=>⟨_,rfl⟩
 |n+1,h,(p,x)::r,hh,hl,hn=>by
  rw [hgt]
  simp only [List.length_cons] at hn
  have hx:=hl (p,x) (by simp)
  have hr:hOk r:=fun q hq=>hl q (by simp [hq])
  by_cases h1:(m.code.length:Int)≤p∨p < 0
  ·rw [if_pos h1]; exact ⟨_,rfl⟩
  rw [if_neg h1]
  have hp:p.toNat < m.code.length:=by omega
  have e1:h[p.toNat]?=some (h[p.toNat]'(by omega)):=List.getElem?_eq_getElem (by omega)
  have e2:m.code[p.toNat]?=some m.code[p.toNat]:=List.getElem?_eq_getElem hp
  generalize h[p.toNat]'(by omega)=y at e1
  have hi:=hm _ (List.getElem_mem hp)
  generalize m.code[p.toNat]=i at e2 hi
  rw [e1,e2]
  simp only
  by_cases h2:0≤y
  ·rw [if_pos h2]
   by_cases h3:y=x
   ·rw [if_pos h3]; exact b48 m hm n h r hh hr (by omega)
   ·rw [if_neg h3]; exact ⟨_,rfl⟩
  rw [if_neg h2]
  by_cases h3:x < (T9 i p).1∨(i.op=17∧x≠1)
  ·rw [if_pos h3]; exact ⟨_,rfl⟩
  rw [if_neg h3]
  by_cases h4:12 < wr (x+(T9 i p).2.1)
  ·rw [if_pos h4]; exact ⟨_,rfl⟩
  rw [if_neg h4]
  have hb:=bZ0 hx.1 hx.2 (fun h=>h3 (Or.inl h)) h4 hi
  have hu:=cF9 (y:=x) e1 (by omega) hx.1
  have hl2:=cS0 i p
  refine b48 m hm n _ _ (by simpa using hh) (fun q hq=>?_) (by simp; omega)
  rcases List.mem_append.1 hq with hq|hq
  ·exact hr q hq
  ·obtain ⟨z,_,rfl⟩:=List.mem_map.1 hq
   exact ⟨hb.1,hb.2.1⟩
theorem aP9 (N:Nat) (m:Me) (hm:b04 m) (hc:m.code.length≤1048576):∀(n:Nat) (h:List Int) (ats hs:List Int) (k:Nat),ats.length=hs.length→k≤ats.length→ats.length+2*bK8 h≤4194304→h.length=m.code.length →
  hOk ((ats.drop k).zip (hs.drop k))→U8 N m n h ats hs (k:Int)=hgt m n h ((ats.drop k).zip (hs.drop k))
 |0,_,_,_,_,_,_,_,_,_=>rfl
 |n+1,h,ats,hs,k,hl,hk,hb,hh,ho=>by
  rw [U8]
  by_cases hlt:k < ats.length
  ·have hlt':(k:Int) < (ats.length:Int):=by omega
   have hlt2:k < hs.length:=by omega
   have ea:ats[k]?=some ats[k]:=List.getElem?_eq_getElem hlt
   have eh:hs[k]?=some hs[k]:=List.getElem?_eq_getElem hlt2
   have ed:(ats.drop k).zip (hs.drop k)=(ats[k],hs[k])::(ats.drop (k+1)).zip (hs.drop (k+1)):=by
    rw [List.drop_eq_getElem_cons hlt,List.drop_eq_getElem_cons hlt2]; rfl
   have hx:=ho (ats[k],hs[k]) (by rw [ed]; simp)
   have hr:hOk ((ats.drop (k+1)).zip (hs.drop (k+1))):=fun q hq=>ho q (by rw [ed]; simp [hq])
   have wk:wr ((k:Int)+1)=((k+1:Nat):Int):=by rw [H9 (by unfold F8; omega)]; omega
   rw [ed,hgt]
   generalize hp:ats[k]=p at ea hx
   generalize hxx:hs[k]=x at eh hx
   simp only [hlt',decide_true,cond_true,I5,ea,eh,Option.bind_some,wk]
   by_cases h1:(m.code.length:Int)≤p
   ·simp only [h1,decide_true,cond_true,Option.bind_some,true_or,if_true]
   by_cases h1':p < 0
   ·simp only [h1,h1',decide_true,decide_false,cond_true,cond_false,Option.bind_some,or_true,if_true]
   simp only [h1,h1',decide_false,cond_false,Option.bind_some,or_self,if_false]
   have hpl:p.toNat < m.code.length:=by omega
   have hp0:0≤p:=by omega
   have e1:h[p.toNat]?=some (h[p.toNat]'(by omega)):=List.getElem?_eq_getElem (by omega)
   have e2:m.code[p.toNat]?=some m.code[p.toNat]:=List.getElem?_eq_getElem hpl
   generalize h[p.toNat]'(by omega)=y at e1
   have hi:=hm _ (List.getElem_mem hpl)
   generalize m.code[p.toNat]=i at e2 hi
   have n1:q9 h p=some y:=by rw [aP6 hp0,e1]
   have n2:q9 m.code p=some i:=by rw [aP6 hp0,e2]
   simp only [n1,n2,e1,e2,Option.bind_some,cE1 N i p hi]
   by_cases h2:0≤y
   ·simp only [h2,decide_true,cond_true,if_true]
    by_cases h3:y=x
    ·simp only [h3,decide_true,Bool.not_true,cond_false,Option.bind_some,if_true]
     exact aP9 N m hm hc n h ats hs (k+1) hl (by omega) hb hh hr
    ·simp only [h3,decide_false,Bool.not_false,cond_true,Option.bind_some,if_false]
   simp only [h2,decide_false,cond_false,if_false]
   by_cases h3:x < (T9 i p).1
   ·simp only [h3,decide_true,cond_true,Option.bind_some,true_or,if_true]
   by_cases h4:i.op=17∧x≠1
   ·simp only [h3,h4.1,h4.2,decide_true,decide_false,cond_true,cond_false,Option.bind_some,Bool.not_false,or_true,if_true,ne_eq,not_false_eq_true,and_self]
   have hq:((bif decide (i.op=(17:Int)) then some ((!decide (x=(1:Int)))) else some (false)):Option Bool)=some false:=by
    by_cases h5:i.op=17
    ·by_cases h6:x=1
     ·simp [h6]
     ·exact absurd ⟨h5,h6⟩ h4
    ·simp [h5]
   simp only [h3,h4,hq,decide_false,cond_false,Option.bind_some,or_self,if_false]
   by_cases h5:12 < wr (x+(T9 i p).2.1)
   ·simp only [h5,decide_true,cond_true,Option.bind_some,if_true]
   simp only [h5,decide_false,cond_false,if_false]
   have hb2:=bZ0 hx.1 hx.2 h3 h5 hi
   have hu:=cF9 (y:=x) e1 (by omega) hx.1
   have hl2:=cS0 i p
   rw [a10 N x (T9 i p) (T9 i p).2.2 0 ats hs rfl (by omega) (by omega)]
   simp only [Option.bind_some]
   have ez:((ats++(T9 i p).2.2).drop (k+1)).zip ((hs++List.replicate (T9 i p).2.2.length (wr (x+(T9 i p).2.1))).drop (k+1)) =
     (ats.drop (k+1)).zip (hs.drop (k+1))++(T9 i p).2.2.map fun q=>(q,wr (x+(T9 i p).2.1)):=by
    rw [List.drop_append_of_le_length (by omega),List.drop_append_of_le_length (by omega),List.zip_append (by simp; omega)]
    congr 1
    generalize (T9 i p).2.2=L
    induction L with
    |nil=>rfl
    |cons a L ih=>simp [List.replicate_succ,ih]
   rw [aP9 N m hm hc n _ _ _ (k+1) (by simp; omega) (by simp; omega) (by simp; omega) (by simpa using hh) (by
    rw [ez]
    intro q hq
    rcases List.mem_append.1 hq with hq|hq
    ·exact hr q hq
    ·obtain ⟨z,_,rfl⟩:=List.mem_map.1 hq
     exact ⟨hb2.1,hb2.2.1⟩),ez]
  ·have hlt':¬(k:Int) < (ats.length:Int):=by omega
   have ed:(ats.drop k).zip (hs.drop k)=[]:=by rw [List.drop_eq_nil_of_le (by omega)]; rfl
   rw [ed,hgt]
   simp only [hlt',decide_false,cond_false]
def c97 (o:C9 (List Int×P5) (List Int)):List Int×P5:=match o with|.ret r=>r|.next h=>(h,⟨0,0⟩)
theorem cF6 (n:Nat):bK8 (List.replicate n (-1))=n:=by
 induction n with
 |zero=>rfl
 |succ n ih=>simp only [bK8,List.replicate_succ,List.countP_cons] at ih ⊢; rw [ih]; rfl
theorem bF2 (N:Nat) (m:Me) (hm:b04 m) (hc:m.code.length≤1048576):aI6 N m=(hgt m N (List.replicate m.code.length (-1)) [(0,0)]).map c97:=by
 unfold aI6
 have e0:(decide (0≤(m.code.length:Int)) && decide ((m.code.length:Int)≤140737488355328) && decide ((m.code.length:Int)*8≤140737488355328))=true:=by
  simp only [Bool.and_eq_true,decide_eq_true_eq]; omega
 have e1:(((List.replicate (m.code.length:Int).toNat (0:Int)).length:Int) - ((0:Nat):Int)).toNat=m.code.length:=by simp
 rw [e0,e1,a11 N _ 0 _ (by simp)]
 simp only [cond_true,Option.bind_some,List.take_zero,List.nil_append]
 have h:=aP9 N m hm hc N (List.replicate m.code.length (-1)) [0] [0] 0 rfl (by simp) (by rw [cF6]; simp; omega) (by simp) (by
  intro q hq
  simp only [List.drop_zero,List.zip_cons_cons,List.zip_nil_right,List.mem_cons,List.not_mem_nil,or_false] at hq
  subst hq; decide)
 have h':U8 N m N (List.replicate m.code.length (-1)) [(0:Int)] [(0:Int)] (0:Int)=hgt m N (List.replicate m.code.length (-1)) [(0,0)]:=h
 rw [h']
 cases hgt m N (List.replicate m.code.length (-1)) [(0,0)] with
 |none=>rfl
 |some o=>cases o<;>rfl
theorem bU3 (N:Nat) (m:Me) (hN:4194304≤N) (hm:b04 m) (hc:m.code.length≤1048576):∃r,aI6 N m=some r:=by
 rw [bF2 N m hm hc]
 obtain ⟨o,ho⟩:=b48 m hm N (List.replicate m.code.length (-1)) [(0,0)] (by simp) (by
  intro q hq
  simp only [List.mem_cons,List.not_mem_nil,or_false] at hq
  subst hq; decide) (by rw [cF6]; simp; omega)
 rw [ho]
 exact ⟨_,rfl⟩
end Go.Proofs.Ytahmeibkdhbngaa
namespace Go.Proofs.Ytahmeibkdhbngaa
open Go.RowKit
set_option linter.unusedVariables false
theorem aO9 (N:Nat) (w:Wd) (c:Int) (m:Me) (hN:1048578≤N) (hs:w.classes.length≤1048576):∀(l:List Ins) (k:Nat),∃o,N7 N w c m l k=some o∧(o=.next ()→∀i∈l,M9 N w c m i=some 0)
 |[],k=>⟨_,rfl,fun _ i hi=>by cases hi⟩
 |x::l,k=>by
  obtain ⟨r,hr⟩:=a19 N w c m x hN hs
  rw [N7,hr]
  simp only [Option.bind_some]
  by_cases h:r=0
  ·subst h
   simp only [decide_true,Bool.not_true,cond_false]
   obtain ⟨o,h1,h2⟩:=aO9 N w c m hN hs l (k+1)
   refine ⟨o,h1,fun e i hi=>?_⟩
   rcases List.mem_cons.1 hi with rfl|hi
   ·exact hr
   ·exact h2 e i hi
  ·simp only [h,decide_false,Bool.not_false,cond_true]
   exact ⟨_,rfl,fun e=>by cases e⟩
theorem b22 (N:Nat) (w:Wd) (c:Int) (m:Me) (hN:4194304≤N) (hs:w.classes.length≤1048576) (hc:m.code.length≤1048576):∃f,Y2 N w c m=some f:=by
 unfold Y2
 simp only [aB5,Option.bind_some]
 refine bQ1 ?_ fun a _=>?_
 ·repeat (first|exact ⟨_,rfl⟩|refine aU9 (fun _=>?_) (fun _=>?_))
 refine aU9 (fun _=>⟨_,rfl⟩) fun _=>?_
 refine aU9 (fun _=>⟨_,rfl⟩) fun _=>?_
 refine bQ1 ?_ fun a _=>?_
 ·repeat (first|exact ⟨_,rfl⟩|refine aU9 (fun _=>?_) (fun _=>?_))
 refine aU9 (fun _=>⟨_,rfl⟩) fun _=>?_
 refine aU9 (fun _=>⟨_,rfl⟩) fun _=>?_
 refine bQ1 ?_ fun a _=>?_
 ·repeat (first|exact ⟨_,rfl⟩|refine aU9 (fun _=>?_) (fun _=>?_))
 refine aU9 (fun _=>⟨_,rfl⟩) fun _=>?_
 obtain ⟨o,h1,h2⟩:=aO9 N w c m (by omega) hs m.code 0
 rw [h1]
 simp only [Option.bind_some]
 cases o with
 |ret r=>exact ⟨_,rfl⟩
 |next u =>
  obtain ⟨r,hr⟩:=bU3 N m hN (fun i hi ho=>bU0 N w c m i (h2 rfl i hi) ho) hc
  simp only [hr,Option.bind_some]
  exact ⟨_,rfl⟩
def Good (x:Option (C9 Int Unit)) (P:Prop):Prop:=∃o,x=some o∧(∀r,o=.ret r→r≠0)∧(o=.next ()→P)
theorem Good.ret {r:Int} {P:Prop} (h:r≠0):Good (some (.ret r)) P:=⟨.ret r,rfl,(fun r e=>by cases e; exact h),fun e=>by cases e⟩
theorem Good.next {P:Prop} (h:P):Good (some (.next ())) P:=⟨.next (),rfl,(fun r e=>by cases e),fun _=>h⟩
theorem Good.bind {x:Option (C9 Int Unit)} {P Q:Prop} {y:Option (C9 Int Unit)} (h:Good x P) (hy:P→Good y Q):Good (x.bind fun o=>match o with|.ret r=>some (.ret r)|.next ()=>y) Q:=by
 obtain ⟨o,rfl,h1,h2⟩:=h
 cases o with
 |ret r=>exact Good.ret (h1 r rfl)
 |next u=>exact hy (h2 rfl)
theorem Good.imp {x:Option (C9 Int Unit)} {P Q:Prop} (h:Good x P) (hq:P→Q):Good x Q:=by
 obtain ⟨o,h0,h1,h2⟩:=h
 exact ⟨o,h0,h1,fun e=>hq (h2 e)⟩
theorem bT6 (N:Nat) (x:Cl):∀(l:List Cl) (k:Nat),Good (aA0 N x l k) (∀d∈l,d.name≠x.name)
 |[],k=>Good.next fun d hd=>by cases hd
 |d::l,k=>by
  rw [aA0]
  by_cases h:d.name=x.name
  ·simp only [h,decide_true,cond_true]; exact Good.ret (by decide)
  ·simp only [h,decide_false,cond_false]
   exact (bT6 N x l (k+1)).imp fun hl e he=>by
    rcases List.mem_cons.1 he with rfl|he
    ·exact h
    ·exact hl e he
def b98 (w:Wd) (k:Nat) (c:Cl):Prop:=aI1 c.name=true∧(∀d∈w.classes.take k,d.name≠c.name) ∧
 (k < 4→∃f,a05.classes[k]?=some f∧c.name=f.name∧c.super=f.super∧c.slots=0) ∧
 (4≤k→0≤c.super∧c.super < k∧(0 < c.super→4≤c.super))∧0≤c.slots∧c.slots≤6
theorem bS3 (N:Nat) (w:Wd):∀(l:List Cl) (k:Nat),l=w.classes.drop k→Good (W9 N w a05 l k) (∀j c,k≤j→w.classes[j]?=some c→b98 w j c)
 |[],k,h=>Good.next fun j c hj hc=>by
   have h1:=(List.getElem?_eq_some_iff.1 hc).1
   have h2:=List.drop_eq_nil_iff.1 h.symm
   omega
 |c::l,k,h=>by
  obtain ⟨hc,hl,hlt⟩:=D8 h
  have hlt:=of_decide_eq_true hlt
  rw [W9,aB5]
  simp only [Option.bind_some]
  cases hn:aI1 c.name with
  |false=>simp only [Bool.not_false,cond_true,Option.bind_some]; exact Good.ret (by decide)
  |true =>
   simp only [Bool.not_true,cond_false]
   have hg:(decide (0≤(k:Int)) && decide ((k:Int)≤(w.classes.length:Int)))=true:=by simp only [Bool.and_eq_true,decide_eq_true_eq]; omega
   have step:∀(P:Prop) (y:Option (C9 Int Unit)),((∀d∈w.classes.take k,d.name≠c.name)→Good y P) →
     Good ((bif (decide (0≤(k:Int)) && decide ((k:Int)≤(w.classes.length:Int))) then ((aA0 N c (w.classes.take (k:Int).toNat) 0).bind fun o=>match o with|.ret r=>some (.ret r)|.next ()=>y) else none)) P:=by
    intro P y hy
    rw [hg]
    exact (bT6 N c _ 0).bind fun hd=>hy (by simpa using hd)
   have rest:∀(P:Prop),b98 w k c→Good (W9 N w a05 l (k+1)) (∀j c,k≤j→w.classes[j]?=some c→b98 w j c):=fun _ hk =>
    (bS3 N w l (k+1) hl).imp fun ih j d hj hd=>by
     rcases Nat.eq_or_lt_of_le hj with rfl|hj
     ·rw [hc] at hd; cases hd; exact hk
     ·exact ih j d hj hd
   by_cases h4:k < 4
   ·have h4':(k:Int) < 4:=by omega
    obtain ⟨f,hf⟩:∃f,a05.classes[k]?=some f:=⟨_,List.getElem?_eq_getElem (by simpa [a05] using h4)⟩
    simp only [h4',decide_true,cond_true,I5,hf,Option.bind_some]
    by_cases he:c.name=f.name
    ·simp only [he,decide_true,Bool.not_true,cond_false]
     refine step _ _ fun hd=>?_
     by_cases h5:c.super=f.super
     ·simp only [h5,decide_true,Bool.not_true,cond_false,Option.bind_some]
      by_cases h6:c.slots < 0
      ·simp only [h6,decide_true,cond_true,Option.bind_some]; exact Good.ret (by decide)
      ·by_cases h7:0 < c.slots
       ·simp only [h6,h7,decide_true,decide_false,cond_true,cond_false,Option.bind_some]; exact Good.ret (by decide)
       ·simp only [h6,h7,decide_false,cond_false,Option.bind_some]
        exact rest True ⟨hn,hd,fun _=>⟨f,hf,he,h5,by omega⟩,fun h=>by omega,by omega,by omega⟩
     ·simp only [h5,decide_false,Bool.not_false,cond_true,Option.bind_some]; exact Good.ret (by decide)
    ·simp only [he,decide_false,Bool.not_false,cond_true]; exact Good.ret (by decide)
   ·have h4':¬(k:Int) < 4:=by omega
    simp only [h4',decide_false,cond_false,Option.bind_some]
    refine step _ _ fun hd=>?_
    by_cases h5:c.super < 0
    ·simp only [h5,decide_true,cond_true,Option.bind_some]; exact Good.ret (by decide)
    by_cases h6:(k:Int)≤c.super
    ·simp only [h5,h6,decide_true,decide_false,cond_true,cond_false,Option.bind_some]; exact Good.ret (by decide)
    have tail:(0 < c.super→4≤c.super)→Good (((bif decide (c.slots < (0:Int)) then some (true) else some (decide ((6:Int) < c.slots))):Option Bool).bind fun v63=>(bif v63 then some (.ret (3:Int)) else W9 N w a05 l (k+1))) (∀j c,k≤j→w.classes[j]?=some c→b98 w j c):=by
     intro hq
     by_cases h7:c.slots < 0
     ·simp only [h7,decide_true,cond_true,Option.bind_some]; exact Good.ret (by decide)
     ·by_cases h8:6 < c.slots
      ·simp only [h7,h8,decide_true,decide_false,cond_true,cond_false,Option.bind_some]; exact Good.ret (by decide)
      ·simp only [h7,h8,decide_false,cond_false,Option.bind_some]
       exact rest True ⟨hn,hd,fun h=>by omega,fun _=>⟨by omega,by omega,hq⟩,by omega,by omega⟩
    by_cases h7:0 < c.super
    ·by_cases h8:c.super < 4
     ·simp only [h5,h6,h7,h8,decide_true,decide_false,cond_true,cond_false,Option.bind_some]; exact Good.ret (by decide)
     ·simp only [h5,h6,h7,h8,decide_true,decide_false,cond_true,cond_false,Option.bind_some]
      exact tail fun _=>by omega
    ·simp only [h5,h6,h7,decide_false,cond_false,Option.bind_some]
     exact tail fun h=>absurd h h7
def cZ2 (k:Nat) (m:Me):Prop:=k=3∧∃p∈aS2,p.name=m.name∧p.prim=m.prim∧m.args=1∧m.temps=0∧m.code=[]
theorem bT2 (N:Nat) (k:Nat) (m:Me):∀(l:List Me) (j:Nat) (b:Bool),(∀p∈l,p∈aS2)→(b=true→cZ2 k m)→∃b',Z9 N k m l j b=some b'∧(b'=true→cZ2 k m)
 |[],j,b,_,hb=>⟨b,rfl,hb⟩
 |p::l,j,b,hl,hb=>by
  rw [Z9]
  have go:=bT2 N k m l (j+1)
  have hl':∀p∈l,p∈aS2:=fun q hq=>hl q (by simp [hq])
  cases b with
  |true=>simp only [cond_true,Option.bind_some]; exact go true hl' (fun _=>hb rfl)
  |false =>
   have gf:=go false hl' (fun h=>by cases h)
   simp only [cond_false]
   by_cases h1:(k:Int)=3
   ·by_cases h2:p.name=m.name
    ·by_cases h3:p.prim=m.prim
     ·by_cases h4:m.args=1
      ·by_cases h5:m.temps=0
       ·by_cases h6:m.code=[]
        ·simp only [h1,h2,h3,h4,h5,h6,decide_true,cond_true,Option.bind_some]
         exact go _ hl' fun _=>⟨by omega,p,hl p (by simp),h2,h3,h4,h5,h6⟩
        ·have h6':¬(m.code.length:Int)=0:=fun e=>h6 (List.eq_nil_of_length_eq_zero (by omega))
         simp only [h1,h2,h3,h4,h5,h6',decide_true,decide_false,cond_true,Option.bind_some]; exact gf
       ·simp only [h1,h2,h3,h4,h5,decide_true,decide_false,cond_true,cond_false,Option.bind_some]; exact gf
      ·simp only [h1,h2,h3,h4,decide_true,decide_false,cond_true,cond_false,Option.bind_some]; exact gf
     ·simp only [h1,h2,h3,decide_true,decide_false,cond_true,cond_false,Option.bind_some]; exact gf
    ·simp only [h1,h2,decide_true,decide_false,cond_true,cond_false,Option.bind_some]; exact gf
   ·simp only [h1,decide_false,cond_false,Option.bind_some]; exact gf
def cA3 (N:Nat) (w:Wd) (k:Nat) (m:Me):Prop:=cZ2 k m∨∃f,Y2 N w (k:Int) m=some f∧f.err=0
theorem bS5 (N:Nat) (w:Wd) (k:Nat) (c:Cl) (hN:4194304≤N) (hs:aA5 w) (hc:c∈w.classes):∀(l:List Me) (j:Nat),l=c.methods.drop j →
  Good (V9 N w a05 k c l j) (∀i m,j≤i→c.methods[i]?=some m→cA3 N w k m∧∀p,0 < i→c.methods[i - 1]?=some p→ltS p.name m.name=true)
 |[],j,h=>Good.next fun i m hj hm=>by
   have h1:=(List.getElem?_eq_some_iff.1 hm).1
   have h2:=List.drop_eq_nil_iff.1 h.symm
   omega
 |m::l,j,h=>by
  obtain ⟨hm,hl,hlt⟩:=D8 h
  have hlt:=of_decide_eq_true hlt
  have hml:=(hs.2.2.1 c hc).1
  rw [V9]
  have h3:q9 a05.classes 3=some ⟨⟨#[73,110,116]⟩,0,0,aS2⟩:=rfl
  have hcl:=(hs.2.2.1 c hc).2 m (List.mem_of_getElem? hm)
  obtain ⟨b,hb1,hb2⟩:=bT2 N k m aS2 0 false (fun p hp=>hp) (fun h=>by cases h)
  obtain ⟨f,hf⟩:=b22 N w (k:Int) m hN hs.1 hcl
  have tail:(∀p,0 < j→c.methods[j - 1]?=some p→ltS p.name m.name=true)→Good ((q9 a05.classes (3:Int)).bind fun x100=>((Z9 N k m x100.methods 0 false).bind fun v106=>((Y2 N w (k:Int) m).bind fun r125=>(((bif (!v106) then some ((!decide (r125.err=(0:Int)))) else some (false)):Option Bool).bind fun v127=>(bif v127 then some (.ret r125.err) else V9 N w a05 k c l (j+1))))))
    (∀i m,j≤i→c.methods[i]?=some m→cA3 N w k m∧∀p,0 < i→c.methods[i - 1]?=some p→ltS p.name m.name=true):=by
   intro hp
   have rest:cA3 N w k m→Good (V9 N w a05 k c l (j+1)) (∀i m,j≤i→c.methods[i]?=some m→cA3 N w k m∧∀p,0 < i→c.methods[i - 1]?=some p→ltS p.name m.name=true):=fun hk =>
    (bS5 N w k c hN hs hc l (j+1) hl).imp fun ih i d hj hd=>by
     rcases Nat.eq_or_lt_of_le hj with rfl|hj
     ·rw [hm] at hd; cases hd; exact ⟨hk,hp⟩
     ·exact ih i d hj hd
   rw [h3]
   simp only [Option.bind_some,hb1,hf]
   cases b with
   |true=>simp only [Bool.not_true,cond_false,Option.bind_some]; exact rest (Or.inl (hb2 rfl))
   |false =>
    simp only [Bool.not_false,cond_true,Option.bind_some]
    by_cases he:f.err=0
    ·simp only [he,decide_true,Bool.not_true,cond_false]; exact rest (Or.inr ⟨f,hf,he⟩)
    ·simp only [he,decide_false,Bool.not_false,cond_true]; exact Good.ret he
  by_cases h0:0 < j
  ·have h0':(0:Int) < (j:Int):=by omega
   have wk:wr ((j:Int) - 1)=((j - 1:Nat):Int):=by rw [H9 (by unfold F8; omega)]; omega
   obtain ⟨p,hp⟩:∃p,c.methods[j - 1]?=some p:=⟨_,List.getElem?_eq_getElem (by omega)⟩
   simp only [h0',decide_true,cond_true,wk,I5,hp,Option.bind_some]
   cases hq:ltS p.name m.name with
   |true=>simp only [Bool.not_true,cond_false]; exact tail fun p' _ hp'=>by rw [hp] at hp'; cases hp'; exact hq
   |false=>simp only [Bool.not_false,cond_true]; exact Good.ret (by decide)
  ·have h0':¬(0:Int) < (j:Int):=by omega
   simp only [h0',decide_false,cond_false,Option.bind_some]
   exact tail fun p hp=>absurd hp h0
theorem dI6 {ms:List Me} (h:∀i m p,0 < i→ms[i]?=some m→ms[i - 1]?=some p→ltS p.name m.name=true):bX5 ms:=by
 have key:∀(d i:Nat) (a b:Me),ms[i]?=some a→ms[i+d+1]?=some b→ltS a.name b.name=true:=by
  intro d
  induction d with
  |zero=>intro i a b ha hb; exact h (i+1) b a (by omega) hb (by simpa using ha)
  |succ d ih =>
   intro i a b ha hb
   have hlt:=(List.getElem?_eq_some_iff.1 hb).1
   obtain ⟨x,hx⟩:∃x,ms[i+d+1]?=some x:=⟨_,List.getElem?_eq_getElem (by omega)⟩
   exact lt_trans (ih i a x ha hx) (h (i+(d+1)+1) b x (by omega) hb (by rw [show i+(d+1)+1 - 1=i+d+1 by omega]; exact hx))
 refine List.pairwise_iff_getElem.2 fun i j hi hj hij=>?_
 refine key (j - i - 1) i _ _ (List.getElem?_eq_getElem hi) ?_
 rw [show i+(j - i - 1)+1=j by omega]
 exact List.getElem?_eq_getElem hj
theorem bS8 (N:Nat) (w:Wd) (hN:4194304≤N) (hs:aA5 w):∀(l:List Cl) (k:Nat),l=w.classes.drop k →
  Good (aC7 N w a05 l k) (∀j c,k≤j→w.classes[j]?=some c→H6 w (j:Int)≤6∧c.methods.length≤8∧bX5 c.methods∧∀m∈c.methods,cA3 N w j m)
 |[],k,h=>Good.next fun j c hj hc=>by
   have h1:=(List.getElem?_eq_some_iff.1 hc).1
   have h2:=List.drop_eq_nil_iff.1 h.symm
   omega
 |c::l,k,h=>by
  obtain ⟨hc,hl,hlt⟩:=D8 h
  rw [aC7,aM1 N w _ (by omega) hs.1]
  simp only [Option.bind_some]
  by_cases h1:6 < H6 w (k:Int)
  ·simp only [h1,decide_true,cond_true]; exact Good.ret (by decide)
  by_cases h2:(8:Int) < (c.methods.length:Int)
  ·simp only [h1,h2,decide_true,decide_false,cond_true,cond_false]; exact Good.ret (by decide)
  simp only [h1,h2,decide_false,cond_false]
  refine (bS5 N w k c hN hs (List.mem_of_getElem? hc) c.methods 0 rfl).bind fun hm=>?_
  refine (bS8 N w hN hs l (k+1) hl).imp fun ih j d hj hd=>?_
  rcases Nat.eq_or_lt_of_le hj with rfl|hj
  ·rw [hc] at hd; cases hd
   refine ⟨by omega,by omega,dI6 fun i m p hi hmi hpi=>(hm i m (by omega) hmi).2 p hi hpi,fun m hmm=>?_⟩
   obtain ⟨i,hi⟩:=List.mem_iff_getElem?.1 hmm
   exact (hm i m (by omega) hi).1
  ·exact ih j d hj hd
theorem bS2 (N:Nat) (w:Wd):∀(l:List V) (k:Nat),Good (aA1 N w l k) (∀v∈l,Z0 v (w.heap.length:Int)=0)
 |[],k=>Good.next fun v hv=>by cases hv
 |v::l,k=>by
  rw [aA1,a08]
  simp only [Option.bind_some]
  by_cases h:Z0 v (w.heap.length:Int)=0
  ·simp only [h,decide_true,Bool.not_true,cond_false]
   exact (bS2 N w l (k+1)).imp fun ih u hu=>by
    rcases List.mem_cons.1 hu with rfl|hu
    ·exact h
    ·exact ih u hu
  ·simp only [h,decide_false,Bool.not_false,cond_true]; exact Good.ret h
def dD8 (w:Wd) (o:Ob):Prop:=0≤o.cls∧(0 < o.cls→4≤o.cls)∧o.cls < w.classes.length∧(o.slots.length:Int)=H6 w o.cls∧∀v∈o.slots,Z0 v (w.heap.length:Int)=0
theorem bT8 (N:Nat) (w:Wd) (hN:4194304≤N) (hs:aA5 w):∀(l:List Ob) (k:Nat),Good (Z7 N w l k) (∀o∈l,dD8 w o)
 |[],k=>Good.next fun o ho=>by cases ho
 |o::l,k=>by
  rw [Z7]
  have rest:(0≤o.cls∧(0 < o.cls→4≤o.cls)∧o.cls < w.classes.length∧(o.slots.length:Int)=H6 w o.cls)→Good ((aA1 N w o.slots 0).bind fun o=>match o with|.ret r=>some (.ret r)|.next ()=>Z7 N w l (k+1)) (∀x∈o::l,dD8 w x):=fun h =>
   (bS2 N w o.slots 0).bind fun hv=>(bT8 N w hN hs l (k+1)).imp fun ih x hx=>by
    rcases List.mem_cons.1 hx with rfl|hx
    ·exact ⟨h.1,h.2.1,h.2.2.1,h.2.2.2,hv⟩
    ·exact ih x hx
  by_cases h1:o.cls < 0
  ·simp only [h1,decide_true,cond_true,Option.bind_some]; exact Good.ret (by decide)
  have hsl:=aM1 N w o.cls (by omega) hs.1
  by_cases h2:0 < o.cls
  ·by_cases h3:o.cls < 4
   ·simp only [h1,h2,h3,decide_true,decide_false,cond_true,cond_false,Option.bind_some]; exact Good.ret (by decide)
   ·by_cases h4:(w.classes.length:Int)≤o.cls
    ·simp only [h1,h2,h3,h4,decide_true,decide_false,cond_true,cond_false,Option.bind_some]; exact Good.ret (by decide)
    ·by_cases h5:(o.slots.length:Int)=H6 w o.cls
     ·simp only [h1,h2,h3,h4,hsl,h5,decide_true,decide_false,cond_true,cond_false,Option.bind_some,Bool.not_true]
      exact rest ⟨by omega,fun _=>by omega,by omega,h5⟩
     ·simp only [h1,h2,h3,h4,hsl,h5,decide_true,decide_false,cond_true,cond_false,Option.bind_some,Bool.not_false]; exact Good.ret (by decide)
  ·by_cases h4:(w.classes.length:Int)≤o.cls
   ·simp only [h1,h2,h4,decide_true,decide_false,cond_true,cond_false,Option.bind_some]; exact Good.ret (by decide)
   ·by_cases h5:(o.slots.length:Int)=H6 w o.cls
    ·simp only [h1,h2,h4,hsl,h5,decide_true,decide_false,cond_false,Option.bind_some,Bool.not_true]
     exact rest ⟨by omega,fun h=>absurd h h2,by omega,h5⟩
    ·simp only [h1,h2,h4,hsl,h5,decide_false,cond_true,cond_false,Option.bind_some,Bool.not_false]; exact Good.ret (by decide)
structure aJ8 (N:Nat) (w:Wd):Prop where
 many:4≤w.classes.length∧w.classes.length≤12∧w.heap.length≤60
 epoch:0≤w.epoch∧w.epoch≤1073741824
 cls:∀(j:Nat) c,w.classes[j]?=some c→b98 w j c
 meth:∀(j:Nat) c,w.classes[j]?=some c→H6 w (j:Int)≤6∧c.methods.length≤8∧bX5 c.methods∧∀m∈c.methods,cA3 N w j m
 obj:∀o∈w.heap,dD8 w o
theorem Good.end_ {x:Option (C9 Int Unit)} {P:Prop} {y:Option Int} {Q:Prop} (h:Good x P) (hy:P→∃r,y=some r∧(r=0→Q)):∃r,(x.bind fun o=>match o with|.ret r=>some r|.next ()=>y)=some r∧(r=0→Q):=by
 obtain ⟨o,rfl,h1,h2⟩:=h
 cases o with
 |ret r=>exact ⟨r,rfl,fun e=>absurd e (h1 r rfl)⟩
 |next u=>exact hy (h2 rfl)
theorem cY0 (N:Nat) (w:Wd) (hN:4194304≤N) (hs:aA5 w):∃r,aT2 N w=some r∧(r=0→aJ8 N w):=by
 unfold aT2 bR5
 simp only [Option.bind_some]
 by_cases h1:(w.classes.length:Int) < 4
 ·exact ⟨5,by simp [h1],fun h=>by cases h⟩
 by_cases h2:(12:Int) < (w.classes.length:Int)
 ·exact ⟨5,by simp [h1,h2],fun h=>by cases h⟩
 by_cases h3:(60:Int) < (w.heap.length:Int)
 ·exact ⟨5,by simp [h1,h2,h3],fun h=>by cases h⟩
 by_cases h4:w.epoch < 0
 ·exact ⟨3,by simp [h1,h2,h3,h4],fun h=>by cases h⟩
 by_cases h5:1073741824 < w.epoch
 ·exact ⟨3,by simp [h1,h2,h3,h4,h5],fun h=>by cases h⟩
 simp only [h1,h2,h3,h4,h5,decide_false,cond_false,Option.bind_some]
 refine (bS3 N w w.classes 0 rfl).end_ fun c1=>?_
 refine (bS8 N w hN hs w.classes 0 rfl).end_ fun c3=>?_
 refine (bT8 N w hN hs w.heap 0).end_ fun c6=>?_
 exact ⟨0,rfl,fun _=>⟨by omega,by omega,fun j c hc=>c1 j c (by omega) hc,fun j c hc=>c3 j c (by omega) hc,c6⟩⟩
theorem aJ8.rise {N:Nat} {w:Wd} (h:aJ8 N w):aU5 w:=fun c hc=>by
 obtain ⟨i,hi⟩:=List.mem_iff_getElem?.1 hc
 exact (h.meth i c hi).2.2.1
end Go.Proofs.Ytahmeibkdhbngaa
namespace Go.Proofs.Ytahmeibkdhbngaa
open Go.RowKit
set_option linter.unusedVariables false
theorem dB6 {w:Wd} (h:cD9 w≤1048576):aA5 w:=by
 unfold cD9 at h
 have h1:=aU4 (bk:=bQ5) (fun a=>dB4 a) w.classes
 have h2:=aU4 (bk:=bQ8) (fun a=>dA2 a) w.heap
 refine ⟨by omega,by omega,fun c hc=>?_,fun o ho=>?_⟩
 ·have h3:=bN4 (bk:=bQ5) hc
  have e3:bQ5 c=bkS c.name+bkI c.super+bkI c.slots+(bkL bM6) c.methods+1:=rfl
  have h4:=aU4 (bk:=bM6) (fun a=>c84 a) c.methods
  refine ⟨by omega,fun m hm=>?_⟩
  have h5:=bN4 (bk:=bM6) hm
  have e5:bM6 m=bkS m.name+bkI m.args+bkI m.temps+bkI m.prim+(bkL bL5) m.code+1:=rfl
  have h6:=aU4 (bk:=bL5) (fun a=>c36 a) m.code
  omega
 ·have h3:=bN4 (bk:=bQ8) ho
  have e3:bQ8 o=bkI o.cls+(bkL bkV) o.slots+1:=rfl
  have h4:=aU4 (bk:=bkV) (fun a=>dH0 a) o.slots
  omega
end Go.Proofs.Ytahmeibkdhbngaa
namespace Go.Proofs.Ytahmeibkdhbngaa
open Go.RowKit
set_option linter.unusedVariables false
def aH7 (c:Int):List Ln→List Ln×Bool
 |[]=>([],false)
 |x::l=>if x.cls=c then (⟨x.cls,wr (x.found+1)⟩::l,true) else (x::(aH7 c l).1,(aH7 c l).2)
def bP7 (c:Int) (l:List Ln):List Ln:=if (aH7 c l).2=true then (aH7 c l).1 else (aH7 c l).1++[⟨c,1⟩]
def aF2 (s:St) (c:Int):List Tl→List Tl×Bool
 |[]=>([],false)
 |x::l=>if x.site=s then (⟨x.site,bP7 c x.classes⟩::l,true) else (x::(aF2 s c l).1,(aF2 s c l).2)
def bG0 (s:St) (c:Int) (l:List Tl):List Tl:=if (aF2 s c l).2=true then (aF2 s c l).1 else (aF2 s c l).1++[⟨s,[⟨c,1⟩]⟩]
theorem bY2 (c:Int):∀l,(aH7 c l).1.length=l.length
 |[]=>rfl
 |x::l=>by
  unfold aH7
  split
  ·rfl
  ·simp [bY2 c l]
theorem c66 (c:Int) (l:List Ln):(bP7 c l).length≤l.length+1:=by
 unfold bP7
 have:=bY2 c l
 split<;>simp<;>omega
theorem bY0 (s:St) (c:Int):∀l,(aF2 s c l).1.length=l.length
 |[]=>rfl
 |x::l=>by
  unfold aF2
  split
  ·rfl
  ·simp [bY0 s c l]
theorem bE3 (N:Nat) (c:Int):∀(l:List Ln) (k:Nat) (acc:List Ln),acc.length+l.length≤1099511627776→O6 N c l k acc true=some (acc++l,true)
 |[],k,acc,_=>by simp [O6]
 |x::l,k,acc,h=>by
  simp only [List.length_cons] at h
  have e:∀y:Ln,Nat.ble ((acc.length+[y].length)*16) 140737488355328=true:=fun y=>F4 (by simp; omega)
  rw [O6]
  by_cases hc:x.cls=c
  ·simp only [hc,decide_true,cond_true,Bool.not_true,cond_false,Option.bind_some,e]
   rw [bE3 N c l (k+1) _ (by simp; omega)]; simp
  ·simp only [hc,decide_false,cond_false,Option.bind_some,e,cond_true]
   rw [bE3 N c l (k+1) _ (by simp; omega)]; simp
theorem bO9 (N:Nat) (c:Int):∀(l:List Ln) (k:Nat) (acc:List Ln),acc.length+l.length≤1099511627776→O6 N c l k acc false=some (acc++(aH7 c l).1,(aH7 c l).2)
 |[],k,acc,_=>by simp [O6,aH7]
 |x::l,k,acc,h=>by
  simp only [List.length_cons] at h
  have e:∀y:Ln,Nat.ble ((acc.length+[y].length)*16) 140737488355328=true:=fun y=>F4 (by simp; omega)
  rw [O6,aH7]
  by_cases hc:x.cls=c
  ·simp only [hc,decide_true,cond_true,Bool.not_false,Option.bind_some,e,if_true]
   rw [bE3 N c l (k+1) _ (by simp; omega)]; simp
  ·simp only [hc,decide_false,cond_false,Option.bind_some,e,cond_true,if_false]
   rw [bO9 N c l (k+1) _ (by simp; omega)]; simp
theorem aX5 (N:Nat) (s:St) (c:Int):∀(l:List Tl) (k:Nat) (acc:List Tl),acc.length+l.length≤1099511627776→O7 N s c l k acc true=some (acc++l,true)
 |[],k,acc,_=>by simp [O7]
 |x::l,k,acc,h=>by
  simp only [List.length_cons] at h
  have e:∀y:Tl,Nat.ble ((acc.length+[y].length)*56) 140737488355328=true:=fun y=>F4 (by simp; omega)
  rw [O7]
  by_cases hc:x.site=s
  ·simp only [hc,aA3,decide_true,cond_true,Bool.not_true,cond_false,Option.bind_some,e]
   rw [aX5 N s c l (k+1) _ (by simp; omega)]; simp
  ·simp only [hc,aA3,decide_false,cond_false,Option.bind_some,e,cond_true]
   rw [aX5 N s c l (k+1) _ (by simp; omega)]; simp
theorem bP3 (N:Nat) (s:St) (c:Int):∀(l:List Tl) (k:Nat) (acc:List Tl),(∀t∈l,t.classes.length≤1099511627775)→acc.length+l.length≤1099511627776→O7 N s c l k acc false=some (acc++(aF2 s c l).1,(aF2 s c l).2)
 |[],k,acc,_,_=>by simp [O7,aF2]
 |x::l,k,acc,hl,h=>by
  simp only [List.length_cons] at h
  have hx:=hl x (by simp)
  have e:∀y:Tl,Nat.ble ((acc.length+[y].length)*56) 140737488355328=true:=fun y=>F4 (by simp; omega)
  rw [O7,aF2]
  by_cases hc:x.site=s
  ·have e2:Nat.ble (((aH7 c x.classes).1.length+[(⟨c,(1:Int)⟩:Ln)].length)*16) 140737488355328=true:=F4 (by rw [bY2]; simp; omega)
   simp only [hc,aA3,decide_true,cond_true,Bool.not_false,Option.bind_some,if_true,bO9 N c x.classes 0 [] (by simp; omega),List.nil_append,e2]
   unfold bP7
   cases hb:(aH7 c x.classes).2 with
   |true =>
    simp only [Bool.not_true,cond_false,Option.bind_some,e,cond_true,if_true]
    rw [aX5 N s c l (k+1) _ (by simp; omega)]; simp
   |false =>
    simp only [Bool.not_false,cond_true,Option.bind_some,e,if_false,Bool.false_eq_true]
    rw [aX5 N s c l (k+1) _ (by simp; omega)]; simp
  ·simp only [hc,aA3,decide_false,cond_false,Option.bind_some,e,cond_true,if_false]
   rw [bP3 N s c l (k+1) _ (fun t ht=>hl t (by simp [ht])) (by simp; omega)]; simp
theorem b76 (N:Nat) (l:List Tl) (s:St) (c:Int) (hl:∀t∈l,t.classes.length≤1099511627775) (h:l.length≤1099511627775):aT8 N l s c=some (bG0 s c l):=by
 unfold aT8 bG0
 have e2:Nat.ble (((aF2 s c l).1.length+[(⟨s,[(⟨c,(1:Int)⟩:Ln)]⟩:Tl)].length)*56) 140737488355328=true:=F4 (by rw [bY0]; simp; omega)
 rw [bP3 N s c l 0 [] hl (by simp; omega)]
 simp only [Option.bind_some,List.nil_append,e2]
 cases (aF2 s c l).2<;>simp
theorem cR9 (c:Int) (l:List Ln):aX7 c l=bP7 c l:=by
 unfold aX7 bP7 ixd
 have key:∀l:List Ln,(match l.findIdx? (fun x=>decide (x.cls=c)) with|some k=>(aH7 c l).2=true∧l.modify k (fun x=>⟨x.cls,wr (x.found+1)⟩)=(aH7 c l).1|none=>(aH7 c l).2=false∧(aH7 c l).1=l):=by
  intro l
  induction l with
  |nil=>exact ⟨rfl,rfl⟩
  |cons x l ih =>
   rw [List.findIdx?_cons]
   by_cases hc:x.cls=c
   ·simp [hc,aH7]
   ·simp only [hc,decide_false,Bool.false_eq_true,if_false,aH7]
    cases hf:l.findIdx? (fun x=>decide (x.cls=c)) with
    |none=>rw [hf] at ih; exact ⟨ih.1,by rw [ih.2]⟩
    |some k=>rw [hf] at ih; exact ⟨ih.1,by simp only [List.modify_succ_cons]; rw [ih.2]⟩
 have:=key l
 cases hf:l.findIdx? (fun x=>decide (x.cls=c)) with
 |some k=>rw [hf] at this; simp only [this.1,if_true]; exact this.2
 |none =>
  rw [hf] at this
  have w1:wr ((0:Int)+1)=1:=by decide
  simp only [this.1,this.2,if_false,Bool.false_eq_true]
  have hm:∀(l:List Ln) (y:Ln) (f:Ln→Ln),(l++[y]).modify l.length f=l++[f y]:=by
   intro l y f
   induction l with
   |nil=>rfl
   |cons a l ih=>simp only [List.cons_append,List.length_cons,List.modify_succ_cons,ih]
  rw [hm,w1]
theorem dG5 (s:St) (c:Int) (l:List Tl):cR0 s c l=bG0 s c l:=by
 unfold cR0 bG0 ixd
 have key:∀l:List Tl,(match l.findIdx? (fun x=>decide (x.site=s)) with|some k=>(aF2 s c l).2=true∧l.modify k (fun x=>⟨x.site,aX7 c x.classes⟩)=(aF2 s c l).1|none=>(aF2 s c l).2=false∧(aF2 s c l).1=l):=by
  intro l
  induction l with
  |nil=>exact ⟨rfl,rfl⟩
  |cons x l ih =>
   rw [List.findIdx?_cons]
   by_cases hc:x.site=s
   ·simp [hc,aF2,cR9]
   ·simp only [hc,decide_false,Bool.false_eq_true,if_false,aF2]
    cases hf:l.findIdx? (fun x=>decide (x.site=s)) with
    |none=>rw [hf] at ih; exact ⟨ih.1,by rw [ih.2]⟩
    |some k=>rw [hf] at ih; exact ⟨ih.1,by simp only [List.modify_succ_cons]; rw [ih.2]⟩
 have:=key l
 cases hf:l.findIdx? (fun x=>decide (x.site=s)) with
 |some k=>rw [hf] at this; simp only [this.1,if_true]; exact this.2
 |none =>
  rw [hf] at this
  simp only [this.1,this.2,if_false,Bool.false_eq_true]
  have hm:∀(l:List Tl) (y:Tl) (f:Tl→Tl),(l++[y]).modify l.length f=l++[f y]:=by
   intro l y f
   induction l with
   |nil=>rfl
   |cons a l ih=>simp only [List.cons_append,List.length_cons,List.modify_succ_cons,ih]
  rw [hm,cR9]
  rfl
theorem cN4 (N:Nat) (l:List Tl) (s:St) (c:Int) (hl:∀t∈l,t.classes.length≤1099511627776) (h:l.length≤1099511627776):bB8 N l s c=some (bG0 s c l):=by
 unfold bB8
 have e:(Nat.ble ((l.length+1)*56) 140737488355328 && l.all fun t=>Nat.ble ((t.classes.length+1)*16) 140737488355328)=true:=by
  rw [Bool.and_eq_true,List.all_eq_true]
  exact ⟨F4 (by omega),fun t ht=>F4 (by have:=hl t ht; omega)⟩
 rw [e,dG5]
 rfl
theorem bO2 (N:Nat) (b:List Tl):∀(l:List Tl) (k:Nat),l.length=(b.drop k).length→Q8 N b l k=some (if l=b.drop k then .next () else .ret false)
 |[],k,h=>by rw [aS6 h]; rfl
 |x::l,k,h=>by
  obtain ⟨y,hy,hd,hl⟩:=aT6 h
  rw [hd,Q8]
  simp only [Option.bind_some,Option.bind_none,cond_true,cond_false,Bool.cond_decide,aX2,aA3,aR4,aM3,Bool.not_true,Bool.not_false,I5,hy,bO2 N b l (k+1) hl,bY7]
  obtain ⟨x1,x2⟩:=x
  obtain ⟨y1,y2⟩:=y
  by_cases e1:x1=y1
  ·by_cases e2:x2=y2<;>simp [e1,e2]
  ·simp [e1]
theorem cC7 (N:Nat) (a b:List Tl):aF7 N a b=some (decide (a=b)):=by
 unfold aF7
 by_cases h:a.length=b.length
 ·rw [bO2 N b a 0 (by simpa using h)]
  by_cases e:a=b<;>simp [h,e]
 ·have:a≠b:=fun e=>h (by rw [e])
  have h':¬((a.length:Int)=b.length):=by omega
  simp [this,h']
theorem bV8 (N:Nat) {l:List Ln} (h:l.length≤1099511627776):O8 N l=some l:=by
 unfold O8
 rw [F4 (by omega)]
 rfl
theorem bK9 (N:Nat):∀(l:List Tl) (k:Nat) (acc:List Tl),(∀t∈l,t.classes.length≤1099511627776)→acc.length+l.length≤1099511627776→aF9 N l k acc=some (acc++l)
 |[],k,acc,_,_=>by simp [aF9]
 |x::l,k,acc,h,hl=>by
  rw [aF9,bV8 N (h x (by simp))]
  simp only [Option.bind_some]
  rw [F4 (by simp at hl ⊢; omega)]
  simp only [cond_true]
  rw [bK9 N l (k+1) _ (fun o ho=>h o (by simp [ho])) (by simp at hl ⊢; omega)]
  simp
theorem cN7 (N:Nat) {l:List Tl} (h:∀t∈l,t.classes.length≤1099511627776) (hl:l.length≤1099511627776):bC5 N l=some l:=by
 unfold bC5
 rw [bK9 N l 0 [] h (by simpa using hl)]
 rfl
end Go.Proofs.Ytahmeibkdhbngaa
namespace Go.Proofs.Ytahmeibkdhbngaa
open Go.RowKit
set_option linter.unusedVariables false
def aX4 (c:Int):List Ln→Int
 |[]=>-1
 |y::l=>if y.cls=c then y.found else aX4 c l
def aC1 (s:St) (e c:Int):List Ce→Int
 |[]=>-1
 |x::l=>if x.site=s then (if x.epoch=e then aX4 c x.lines else -1) else aC1 s e c l
theorem c47 (N:Nat) (s:St):∀(l:List Ce) (k:Nat),D9 N (fun x=>aD6 N x s) l k=some (match l.findIdx? (fun t=>decide (t.site=s)) with|some i=>.ret ((k+i:Nat):Int)|none=>.next ())
 |[],k=>rfl
 |x::l,k=>by
  rw [D9,aX8,c47 N s l (k+1)]
  unfold aD6
  rw [aA3]
  by_cases e:x.site=s
  ·simp [e]
  ·cases l.findIdx? (fun t=>decide (t.site=s))<;>simp [e]; omega
theorem cD7 (N:Nat) (l:List Ce) (s:St):aM6 N l s=some (ixf (fun t=>decide (t.site=s)) l):=by
 unfold aM6 K7 ixf
 rw [c47]
 cases l.findIdx? (fun t=>decide (t.site=s))<;>simp
theorem bK1 (N:Nat) (c:Int):∀(l:List Ln) (k:Nat),∃o,aI9 N c l k=some o∧(match o with|.ret r=>r|.next ()=>-1)=aX4 c l
 |[],k=>⟨.next (),rfl,rfl⟩
 |y::l,k=>by
  rw [aI9,aX4]
  by_cases h:y.cls=c
  ·exact ⟨.ret y.found,by simp [h],by simp [h]⟩
  ·obtain ⟨o,h1,h2⟩:=bK1 N c l (k+1)
   exact ⟨o,by simp [h,h1],by rw [if_neg h]; exact h2⟩
theorem cP2 (s:St) (e c:Int):∀l:List Ce,aC1 s e c l=match l.findIdx? (fun t=>decide (t.site=s)) with
   |some i=>(match l[i]? with|some x=>(if x.epoch=e then aX4 c x.lines else -1)|none=>-1)|none=>-1
 |[]=>rfl
 |x::l=>by
  rw [aC1,aX8]
  by_cases h:x.site=s
  ·simp [h]
  ·simp only [h,decide_false,Bool.false_eq_true,if_false]
   rw [cP2 s e c l]
   cases l.findIdx? (fun t=>decide (t.site=s))<;>simp
theorem cO6 (N:Nat) (l:List Ce) (s:St) (e c:Int):bB6 N l s e c=some (aC1 s e c l):=by
 unfold bB6
 rw [cD7,cP2]
 simp only [Option.bind_some]
 rcases bO7 (fun t:Ce=>decide (t.site=s)) l with ⟨k,x,e1,e2,e3,e4⟩|⟨e1,e2⟩
 ·rw [e1,e4]
  have h0:¬((k:Int) < 0):=by omega
  simp only [h0,decide_false,cond_false,I5,e2,Option.bind_some]
  by_cases he:x.epoch=e
  ·obtain ⟨o,h1,h2⟩:=bK1 N c x.lines 0
   simp only [he,decide_true,Bool.not_true,cond_false,h1,Option.bind_some,if_true,←h2]
   cases o<;>rfl
  ·simp [he]
 ·rw [e1,e2]
  simp
def cO4 (l:List Ce):Prop:=l.length≤1099511627776∧∀x∈l,x.lines.length≤1099511627776
def aV9 (s:St) (e c f:Int):List Ce→List Ce
 |[]=>[aW0 e c f ⟨s,e,false,[]⟩]
 |x::l=>if x.site=s then aW0 e c f x::l else x::aV9 s e c f l
theorem cN3 (N:Nat) (l:List Ce) (s:St) (e c f:Int) (h:cO4 l):bB4 N l s e c f=some (aV9 s e c f l):=by
 unfold bB4
 have hg:(Nat.ble ((l.length+1)*72) 140737488355328 && l.all fun t=>Nat.ble ((t.lines.length+1)*16) 140737488355328)=true:=by
  rw [Bool.and_eq_true,List.all_eq_true]
  exact ⟨F4 (by have:=h.1; omega),fun t ht=>F4 (by have:=h.2 t ht; omega)⟩
 rw [hg]
 simp only [cond_true]
 congr 1
 clear hg h
 unfold ixd
 induction l with
 |nil=>rfl
 |cons x l ih =>
  rw [aX8,aV9]
  by_cases hs:x.site=s
  ·simp [hs]
  ·simp only [hs,decide_false,Bool.false_eq_true,if_false]
   rw [←ih]
   cases l.findIdx? (fun t=>decide (t.site=s)) with
   |none=>simp
   |some i=>simp
theorem bU1 (N:Nat) {l:List Ln} (h:l.length≤1099511627776):O8 N l=some l:=by
 unfold O8
 rw [F4 (by omega)]
 rfl
theorem bJ9 (N:Nat):∀(l:List Ce) (k:Nat) (acc:List Ce),(∀t∈l,t.lines.length≤1099511627776)→acc.length+l.length≤1099511627776→aF6 N l k acc=some (acc++l)
 |[],k,acc,_,_=>by simp [aF6]
 |x::l,k,acc,h,hl=>by
  rw [aF6,bU1 N (h x (by simp))]
  simp only [Option.bind_some]
  rw [F4 (by simp at hl ⊢; omega)]
  simp only [cond_true]
  rw [bJ9 N l (k+1) _ (fun o ho=>h o (by simp [ho])) (by simp at hl ⊢; omega)]
  simp
theorem bV5 (N:Nat) {l:List Ce} (h:cO4 l):aT1 N l=some l:=by
 unfold aT1
 rw [bJ9 N l 0 [] h.2 (by simpa using h.1)]
 rfl
def aS8 (w:Wd) (s:St) (c:Int) (name:ByteArray) (l:List Ce):List Ce×Int×Int×Bool :=
 if 0≤aC1 s w.epoch c l∧aC1 s w.epoch c l < w.classes.length then (l,(D6 w name (aC1 s w.epoch c l)).1,(D6 w name (aC1 s w.epoch c l)).2,true)
 else if (D6 w name c).2 < 0 then (l,(D6 w name c).1,(D6 w name c).2,false)
 else (aV9 s w.epoch c (D6 w name c).1 l,(D6 w name c).1,(D6 w name c).2,false)
theorem cI1 (N:Nat) (l:List Ce) (w:Wd) (s:St) (c:Int) (name:ByteArray) (hN:1048578≤N) (hw:aU5 w) (hs:aA5 w) (hl:cO4 l):a15 N l w s c name=some (aS8 w s c name l):=by
 unfold a15 aS8
 rw [cO6]
 simp only [Option.bind_some,bS9 N w _ name hN hw hs,bV5 N hl,cN3 N l s _ _ _ hl]
 by_cases h0:0≤aC1 s w.epoch c l
 ·by_cases h1:aC1 s w.epoch c l < w.classes.length
  ·simp [h0,h1]
  ·by_cases h2:(D6 w name c).2 < 0<;>simp [h0,h1,h2]
 ·by_cases h2:(D6 w name c).2 < 0<;>simp [h0,h2]
theorem b26 {w:Wd} {s:ByteArray}:∀{n:Nat} {c:Int} {p:Int×Int},aB1 w s n c=some p→∀m,aB1 w s (m+1) p.1=some p
 |0,c,p,h,m=>by cases h
 |n+1,c,p,h,m=>by
  rw [aB1] at h
  by_cases h0:0≤c
  ·rw [if_pos h0] at h
   cases hx:w.classes[c.toNat]? with
   |none=>rw [hx] at h; cases h
   |some x =>
    rw [hx] at h
    simp only at h
    cases hi:ixN s x.methods with
    |none=>rw [hi] at h; exact b26 h m
    |some i =>
     rw [hi] at h
     cases h
     rw [aB1,if_pos h0,hx]
     simp only [hi]
  ·rw [if_neg h0] at h; cases h
theorem cR5 {w:Wd} {s:ByteArray} {c:Int} (h:0≤(D6 w s c).2):D6 w s (D6 w s c).1=D6 w s c:=by
 unfold D6 at h ⊢
 cases hf:aB1 w s (w.classes.length+1) c with
 |none=>rw [hf] at h; exact absurd h (by decide)
 |some p =>
  rw [Option.getD_some,b26 hf (w.classes.length),Option.getD_some]
end Go.Proofs.Ytahmeibkdhbngaa
namespace Go.Proofs.Ytahmeibkdhbngaa
open Go.RowKit
set_option linter.unusedVariables false
theorem bJ4 (N:Nat) (e c:Int) (x:Ce):∀(l:List Ln) (k:Nat),∃o,aG9 N e c x l k=some o∧(match o with|.ret r=>r|.next ()=>-1)=if x.epoch=e then aX4 c l else -1
 |[],k=>⟨.next (),rfl,by simp [aX4]⟩
 |y::l,k=>by
  rw [aG9,aX4]
  obtain ⟨o,h1,h2⟩:=bJ4 N e c x l (k+1)
  by_cases he:x.epoch=e
  ·by_cases hc:y.cls=c
   ·exact ⟨.ret y.found,by simp [he,hc],by simp [he,hc]⟩
   ·exact ⟨o,by simp [he,hc,h1],by rw [h2]; simp [he,hc]⟩
  ·exact ⟨o,by simp [he,h1],by rw [h2]; simp [he]⟩
theorem bG6 (N:Nat) (s:St) (e c:Int):∀(l:List Ce) (k:Nat),∃o,aH2 N s e c l k=some o∧(match o with|.ret r=>r|.next ()=>-1)=aC1 s e c l
 |[],k=>⟨.next (),rfl,rfl⟩
 |x::l,k=>by
  rw [aH2,aC1,aA3]
  by_cases hs:x.site=s
  ·obtain ⟨o,h1,h2⟩:=bJ4 N e c x x.lines 0
   simp only [hs,decide_true,cond_true,h1,Option.bind_some,if_true]
   cases o with
   |ret r=>exact ⟨.ret r,rfl,h2⟩
   |next u=>exact ⟨.ret (-1),rfl,h2⟩
  ·obtain ⟨o,h1,h2⟩:=bG6 N s e c l (k+1)
   exact ⟨o,by simp only [hs,decide_false,cond_false]; exact h1,by simp only [hs,if_false]; exact h2⟩
theorem cJ5 (N:Nat) (l:List Ce) (s:St) (e c:Int):aZ6 N l s e c=some (aC1 s e c l):=by
 unfold aZ6
 obtain ⟨o,h1,h2⟩:=bG6 N s e c l 0
 rw [h1,←h2]
 cases o<;>rfl
theorem cS1 {α:Type} (p:α→Bool) (l:List α):(0≤ixf p l)↔l.any p=true:=by
 rcases bO7 p l with ⟨k,x,e1,e2,e3,_⟩|⟨e1,e2⟩
 ·rw [e1,List.any_eq_true]
  exact ⟨fun _=>⟨x,List.mem_of_getElem? e2,e3⟩,fun _=>by omega⟩
 ·rw [e1,List.any_eq_true]
  rw [List.findIdx?_eq_none_iff] at e2
  refine ⟨fun h=>by omega,fun ⟨x,hx,hp⟩=>?_⟩
  rw [e2 x hx] at hp; cases hp
theorem aT0 (N:Nat) (c:Int):∀(l:List Ln) (k:Nat) (b:Bool),aA2 N c l k b=some (b || l.any fun y=>decide (y.cls=c))
 |[],k,b=>by simp [aA2]
 |y::l,k,b=>by
  rw [aA2]
  cases b with
  |true=>simp [aT0 N c l (k+1)]
  |false=>simp [aT0 N c l (k+1)]
theorem bK0 (N:Nat) (x:Ce) (s:St) (e c f:Int) (out:List Ce) (b:Bool) (hs:x.site=s) (hx:x.lines.length≤1099511627775) (ho:out.length≤1099511627776):aN9 N x e s c f out b=some (out++[aW0 e c f x],true):=by
 have hfr:(if x.epoch=e then x else (⟨s,e,false,[]⟩:Ce))=aB0 e x:=by unfold aB0; rw [hs]
 have hle:(aB0 e x).lines.length≤1099511627775:=by
  unfold aB0; split
  ·exact hx
  ·simp
 have hv:(((bif (!decide (x.epoch=e)) then some ((⟨s,e,false,([]:List Ln)⟩:Ce)) else some (x)):Option Ce))=some (aB0 e x):=by
  rw [←hfr]
  by_cases he:x.epoch=e<;>simp [he]
 unfold aN9
 rw [hv]
 unfold aW0
 generalize aB0 e x=v at hle
 simp only [Option.bind_some,aT0]
 have hb:∀q:Ce,Nat.ble ((out.length+[q].length)*72) 140737488355328=true:=fun q=>F4 (by simp; omega)
 have e1:Nat.ble ((([]:List Ln).length+v.lines.length)*16) 140737488355328=true:=F4 (by simp; omega)
 have e2:Nat.ble (((([]:List Ln)++v.lines).length+[(⟨c,f⟩:Ln)].length)*16) 140737488355328=true:=F4 (by simp; omega)
 by_cases hh:(v.many || v.lines.any fun y=>decide (y.cls=c))=true
 ·have hl:O1 c f v=v:=by
   unfold O1
   rw [if_pos]
   rw [Bool.or_eq_true] at hh
   exact hh.imp (fun h=>h) fun h=>(cS1 _ _).2 h
  rw [hh,hl]
  simp only [Bool.not_true,cond_false,Option.bind_some,hb,cond_true]
 ·have hf:(v.many || v.lines.any fun y=>decide (y.cls=c))=false:=by simpa using hh
  have hn:¬(v.many=true∨0≤ixf (fun t:Ln=>decide (t.cls=c)) v.lines):=by
   rintro (h|h)
   ·exact hh (by rw [h]; rfl)
   ·exact hh (by rw [(cS1 _ _).1 h]; simp)
  rw [hf]
  unfold O1
  rw [if_neg hn]
  by_cases h3:(3:Int)≤(v.lines.length:Int)
  ·simp only [h3,decide_true,cond_true,Bool.not_false,Option.bind_some,hb,if_true]
  ·simp only [List.nil_append] at e2
   simp only [h3,decide_false,cond_true,cond_false,Bool.not_false,Option.bind_some,e1,e2,hb,if_false,List.nil_append]
theorem aT7 (N:Nat) (s:St) (e c f:Int):∀(l:List Ce) (k:Nat) (acc:List Ce),acc.length+l.length≤1099511627776→U3 N s e c f l k acc true=some (acc++l,true)
 |[],k,acc,_=>by simp [U3]
 |x::l,k,acc,h=>by
  simp only [List.length_cons] at h
  have hb:Nat.ble ((acc.length+[x].length)*72) 140737488355328=true:=F4 (by simp; omega)
  rw [U3,aA3]
  by_cases hs:x.site=s
  ·simp only [hs,decide_true,cond_true,Bool.not_true,cond_false,Option.bind_some,hb]
   rw [aT7 N s e c f l (k+1) _ (by simp; omega)]; simp
  ·simp only [hs,decide_false,cond_false,Option.bind_some,hb,cond_true]
   rw [aT7 N s e c f l (k+1) _ (by simp; omega)]; simp
theorem a81 (N:Nat) (s:St) (e c f:Int):∀(l:List Ce) (k:Nat) (acc:List Ce),(∀x∈l,x.lines.length≤1099511627775)→acc.length+l.length≤1099511627776 →
  ∃r b,U3 N s e c f l k acc false=some (acc++r,b)∧aV9 s e c f l=(if b=true then r else r++[aW0 e c f ⟨s,e,false,[]⟩])∧r.length=l.length
 |[],k,acc,_,_=>⟨[],false,by simp [U3],rfl,rfl⟩
 |x::l,k,acc,hl,h=>by
  simp only [List.length_cons] at h
  have hb:Nat.ble ((acc.length+[x].length)*72) 140737488355328=true:=F4 (by simp; omega)
  rw [U3,aA3,aV9]
  by_cases hs:x.site=s
  ·simp only [hs,decide_true,cond_true,Bool.not_false,Option.bind_some,bK0 N x s e c f acc false hs (hl x (by simp)) (by omega),if_true]
   refine ⟨aW0 e c f x::l,true,?_,by simp,by simp⟩
   rw [aT7 N s e c f l (k+1) _ (by simp; omega)]; simp
  ·obtain ⟨r,b,h1,h2,h3⟩:=a81 N s e c f l (k+1) (acc++[x]) (fun y hy=>hl y (by simp [hy])) (by simp; omega)
   simp only [hs,decide_false,cond_false,Option.bind_some,hb,cond_true,if_false]
   refine ⟨x::r,b,by rw [h1]; simp,?_,by simp [h3]⟩
   rw [h2]
   cases b<;>simp
theorem cI0 (N:Nat) (l:List Ce) (s:St) (e c f:Int) (hl:∀x∈l,x.lines.length≤1099511627775) (h:l.length≤1099511627776):aV0 N l s e c f=some (aV9 s e c f l):=by
 unfold aV0
 obtain ⟨r,b,h1,h2,h3⟩:=a81 N s e c f l 0 [] hl (by simpa using h)
 rw [h1,h2]
 simp only [Option.bind_some,List.nil_append]
 cases b with
 |true=>simp
 |false =>
  rw [bK0 N ⟨s,e,false,[]⟩ s e c f r false rfl (by simp) (by omega)]
  simp
theorem bY9 (N:Nat) (b:List Ce):∀(l:List Ce) (k:Nat),l.length=(b.drop k).length→V8 N b l k=some (if l=b.drop k then .next () else .ret false)
 |[],k,h=>by rw [aS6 h]; rfl
 |x::l,k,h=>by
  obtain ⟨y,hy,hd,hl⟩:=aT6 h
  rw [hd,V8]
  simp only [Option.bind_some,Option.bind_none,cond_true,cond_false,Bool.cond_decide,aX2,aA3,aR4,aM3,Bool.not_true,Bool.not_false,I5,hy,bY9 N b l (k+1) hl,bY7]
  obtain ⟨x1,x2,x3,x4⟩:=x
  obtain ⟨y1,y2,y3,y4⟩:=y
  by_cases e1:x1=y1
  ·by_cases e2:x2=y2
   ·by_cases e3:x3=y3
    ·by_cases e4:x4=y4<;>simp [e1,e2,e3,e4]
    ·simp [e1,e2,e3]
   ·simp [e1,e2]
  ·simp [e1]
theorem cL0 (N:Nat) (a b:List Ce):aJ0 N a b=some (decide (a=b)):=by
 unfold aJ0
 by_cases h:a.length=b.length
 ·rw [bY9 N b a 0 (by simpa using h)]
  by_cases e:a=b<;>simp [h,e]
 ·have:a≠b:=fun e=>h (by rw [e])
  have h':¬((a.length:Int)=b.length):=by omega
  simp [this,h']
end Go.Proofs.Ytahmeibkdhbngaa
