import Derived.Test.YtahmeibkdhbngaaMir
import Derived.Test.YtahmeibkdhbngaaOk
/- Plain laws of the mirrors: the same, own copies. No program in sight. -/
namespace Go.Proofs.Ytahmeibkdhbngaa
open Go.RowKit
set_option linter.unusedVariables false
theorem bD8 (a b:V):aF5 (eV a) (eV b)=decide (a=b):=eqV a b
theorem aV5 (a b:St):aF5 (Z7 a) (Z7 b)=decide (a=b):=c62 a b
theorem aZ4 (a b:Ln):aF5 (N8 a) (N8 b)=decide (a=b):=dI7 a b
theorem aU5 (a b:Ins):aF5 (aK6 a) (aK6 b)=decide (a=b):=dH2 a b
theorem bG2 {α:Type} {l:List α} {k n:Nat} (h:n+1=(l.drop k).length):∃y,l[k]?=some y∧l.drop k=y::l.drop (k+1)∧n=(l.drop (k+1)).length:=by
 rw [List.length_drop] at h
 have hk:k < l.length:=by omega
 refine ⟨l[k],List.getElem?_eq_getElem hk,List.drop_eq_getElem_cons hk,by rw [List.length_drop]; omega⟩
theorem bF0 {α:Type} {l:List α} {k:Nat} (h:0=(l.drop k).length):l.drop k=[]:=List.eq_nil_of_length_eq_zero h.symm
theorem bY5 (N:Nat) (b:List Ins):∀(l:List Ins) (k:Nat),l.length=(b.drop k).length→V6 N b l k=some (if l=b.drop k then .next () else .ret false)
 |[],k,h=>by rw [bF0 h]; rfl
 |x::l,k,h=>by
  obtain ⟨y,hy,hd,hl⟩:=bG2 h
  rw [hd,V6]
  simp only [Option.bind_some,Option.bind_none,cond_true,cond_false,Bool.cond_decide,bD8,aV5,aZ4,aU5,Bool.not_true,Bool.not_false,J3,hy,bY5 N b l (k+1) hl]
  by_cases e:x=y<;>simp [e]
theorem cN5 (N:Nat) (a b:List Ins):aJ7 N a b=some (decide (a=b)):=by
 unfold aJ7
 by_cases h:a.length=b.length
 ·rw [bY5 N b a 0 (by simpa using h)]
  by_cases e:a=b<;>simp [h,e]
 ·have:a≠b:=fun e=>h (by rw [e])
  have h':¬((a.length:Int)=b.length):=by omega
  simp [this,h']
theorem bT3 (N:Nat) (b:Wd) (i:Nat) (o:Ob) (ho:b.heap[i]?=some o):∀(l:List V) (k:Nat),l.length=(o.slots.drop k).length→U7 N b i l k=some (if l=o.slots.drop k then .next () else .ret false)
 |[],k,h=>by rw [bF0 h]; rfl
 |x::l,k,h=>by
  obtain ⟨y,hy,hd,hl⟩:=bG2 h
  rw [hd,U7]
  simp only [Option.bind_some,Option.bind_none,cond_true,cond_false,Bool.cond_decide,bD8,aV5,aZ4,aU5,Bool.not_true,Bool.not_false,J3,hy,ho,bT3 N b i o ho l (k+1) hl]
  by_cases e:x=y<;>simp [e]
theorem bV1 (N:Nat) (b:Wd):∀(l:List Ob) (k:Nat),l.length=(b.heap.drop k).length→U6 N b l k=some (if l=b.heap.drop k then .next () else .ret false)
 |[],k,h=>by rw [bF0 h]; rfl
 |x::l,k,h=>by
  obtain ⟨y,hy,hd,hl⟩:=bG2 h
  rw [hd,U6]
  simp only [Option.bind_some,Option.bind_none,cond_true,cond_false,Bool.cond_decide,bD8,aV5,aZ4,aU5,Bool.not_true,Bool.not_false,J3,hy,bV1 N b l (k+1) hl]
  obtain ⟨xc,xs⟩:=x
  obtain ⟨yc,ys⟩:=y
  by_cases e1:xc=yc
  ·by_cases e2:xs.length=ys.length
   ·have:=bT3 N b k ⟨yc,ys⟩ hy xs 0 (by simpa using e2)
    simp only [List.drop_zero] at this
    by_cases e3:xs=ys
    ·subst e3; simp [e1,this]
    ·simp [e1,e2,e3,this]
   ·have e3:xs≠ys:=fun e=>e2 (by rw [e])
    have e2':¬((xs.length:Int)=ys.length):=by omega
    simp [e1,e2',e3]
  ·simp [e1]
theorem bS7 (N:Nat) (c:Cl):∀(l:List Me) (k:Nat),l.length=(c.methods.drop k).length→U2 N c l k=some (if l=c.methods.drop k then .next () else .ret false)
 |[],k,h=>by rw [bF0 h]; rfl
 |x::l,k,h=>by
  obtain ⟨y,hy,hd,hl⟩:=bG2 h
  rw [hd,U2]
  simp only [Option.bind_some,Option.bind_none,cond_true,cond_false,Bool.cond_decide,bD8,aV5,aZ4,aU5,Bool.not_true,Bool.not_false,J3,hy,bS7 N c l (k+1) hl,cN5]
  obtain ⟨x1,x2,x3,x4,x5⟩:=x
  obtain ⟨y1,y2,y3,y4,y5⟩:=y
  by_cases e1:x1=y1
  ·by_cases e2:x2=y2
   ·by_cases e3:x3=y3
    ·by_cases e4:x4=y4
     ·by_cases e5:x5=y5<;>simp [e1,e2,e3,e4,e5]
     ·simp [e1,e2,e3,e4]
    ·simp [e1,e2,e3]
   ·simp [e1,e2]
  ·simp [e1]
theorem bU1 (N:Nat) (b:Wd):∀(l:List Cl) (k:Nat),l.length=(b.classes.drop k).length→U4 N b l k=some (if l=b.classes.drop k then .next () else .ret false)
 |[],k,h=>by rw [bF0 h]; rfl
 |x::l,k,h=>by
  obtain ⟨y,hy,hd,hl⟩:=bG2 h
  rw [hd,U4]
  simp only [Option.bind_some,Option.bind_none,cond_true,cond_false,Bool.cond_decide,bD8,aV5,aZ4,aU5,Bool.not_true,Bool.not_false,J3,hy,bU1 N b l (k+1) hl]
  obtain ⟨x1,x2,x3,x4⟩:=x
  obtain ⟨y1,y2,y3,y4⟩:=y
  by_cases e1:x1=y1
  ·by_cases e2:x2=y2
   ·by_cases e3:x3=y3
    ·by_cases e4:x4.length=y4.length
     ·have:=bS7 N ⟨y1,y2,y3,y4⟩ x4 0 (by simpa using e4)
      simp only [List.drop_zero] at this
      by_cases e5:x4=y4
      ·subst e5; simp [e1,e2,e3,this]
      ·simp [e1,e2,e3,e4,e5,this]
     ·have e5:x4≠y4:=fun e=>e4 (by rw [e])
      have e4':¬((x4.length:Int)=y4.length):=by omega
      simp [e1,e2,e3,e4',e5]
    ·simp [e1,e2,e3]
   ·simp [e1,e2]
  ·simp [e1]
theorem cK1 (N:Nat) (a b:Wd):aH2 N a b=some (decide (a=b)):=by
 unfold aH2
 obtain ⟨a1,a2,a3⟩:=a
 obtain ⟨b1,b2,b3⟩:=b
 by_cases e3:a3=b3
 ·by_cases h1:a1.length=b1.length
  ·by_cases h2:a2.length=b2.length
   ·have r1:=bU1 N ⟨b1,b2,b3⟩ a1 0 (by simpa using h1)
    have r2:=bV1 N ⟨b1,b2,b3⟩ a2 0 (by simpa using h2)
    simp only [List.drop_zero] at r1 r2
    by_cases e1:a1=b1
    ·subst e1
     by_cases e2:a2=b2
     ·subst e2; simp [e3,r1,r2]
     ·simp [e2,e3,h2,r1,r2]
    ·simp [e1,e3,h1,h2,r1]
   ·have e2:a2≠b2:=fun e=>h2 (by rw [e])
    have h2':¬((a2.length:Int)=b2.length):=by omega
    simp [e2,e3,h1,h2']
  ·have e1:a1≠b1:=fun e=>h1 (by rw [e])
   have h1':¬((a1.length:Int)=b1.length):=by omega
   simp [e1,e3,h1']
 ·simp [e3]
end Go.Proofs.Ytahmeibkdhbngaa
namespace Go.Proofs.Ytahmeibkdhbngaa
open Go.RowKit
set_option linter.unusedVariables false
theorem H7 {a b:Nat} (h:a≤b):Nat.ble a b=true:=by rw [Nat.ble_eq]; exact h
theorem b05 {α:Type} {l:List α} {i:Int} (h:¬(i < l.length)):l[i.toNat]?=none:=List.getElem?_eq_none (by omega)
theorem aO0 {α:Type} {l:List α} {i:Int} (h:0≤i):q9 l i=l[i.toNat]?:=by
 unfold q9; rw [decide_eq_true h]; rfl
theorem Z4 {α:Type} {l:List α} {i:Int} (h:0≤i) (h2:i < l.length):∃x,l[i.toNat]?=some x∧q9 l i=some x:=by
 have hl:i.toNat < l.length:=by omega
 exact ⟨l[i.toNat],List.getElem?_eq_getElem hl,by rw [aO0 h,List.getElem?_eq_getElem hl]⟩
def Y1 (v:V) (n:Int):Int :=
 if v.k=0∨v.k=1∨v.k=2 then (if v.n=0 then 0 else 2)
 else if v.k=3 then (if v.n < -1073741824∨1073741824 < v.n then 3 else 0)
 else if v.k=4 then (if v.n < 0∨n≤v.n then 6 else 0) else 1
theorem b68 (N:Nat) (v:V) (n:Int):aT6 N v n=some (Y1 v n):=by
 unfold aT6 Y1
 by_cases h0:v.k=0
 ·by_cases h:v.n=0<;>simp [h0,h]
 by_cases h1:v.k=1
 ·by_cases h:v.n=0<;>simp [h1,h]
 by_cases h2:v.k=2
 ·by_cases h:v.n=0<;>simp [h2,h]
 by_cases h3:v.k=3
 ·by_cases h:v.n < -1073741824<;>by_cases h':1073741824 < v.n<;>simp [h3,h,h']
 by_cases h4:v.k=4
 ·by_cases h:v.n < 0<;>by_cases h':n≤v.n<;>simp [h4,h,h']
 simp [h0,h1,h2,h3,h4]
theorem aX0 (N:Nat) (v:V) (n:Int):aI1 N v n=some (Y1 v n):=by
 unfold aI1 Y1
 by_cases h0:v.k=0
 ·by_cases h:v.n=0<;>simp [h0,h]
 by_cases h1:v.k=1
 ·by_cases h:v.n=0<;>simp [h1,h]
 by_cases h2:v.k=2
 ·by_cases h:v.n=0<;>simp [h2,h]
 by_cases h3:v.k=3
 ·by_cases h:v.n < -1073741824<;>by_cases h':1073741824 < v.n<;>simp [h3,h,h']
 by_cases h4:v.k=4
 ·by_cases h:v.n < 0<;>by_cases h':n≤v.n<;>simp [h4,h,h']
 by_cases h5:v.k < 0
 ·simp [h0,h1,h2,h3,h4,h5]
 ·have h6:4 < v.k:=by omega
  simp [h0,h1,h2,h3,h4,h5,h6]
def G7 (h:List Ob) (v:V):Int :=
 if v.k=0 then 1 else if v.k=1∨v.k=2 then 2 else if v.k=3 then 3
 else if v.k=4∧0≤v.n then (match h[v.n.toNat]? with|some o=>o.cls|none=>0) else 0
theorem aY6 (N:Nat) (h:List Ob) (v:V):aK3 N h v=some (G7 h v):=by
 unfold aK3 G7
 by_cases h0:v.k=0
 ·simp [h0]
 by_cases h1:v.k=1
 ·simp [h1]
 by_cases h2:v.k=2
 ·simp [h2]
 by_cases h3:v.k=3
 ·simp [h3]
 by_cases h4:v.k=4
 ·by_cases h5:0≤v.n
  ·by_cases h6:v.n < h.length
   ·obtain ⟨x,hx,hy⟩:=Z4 h5 h6
    simp [h4,h5,h6,hy]
    exact (congrArg Ob.cls (List.getElem?_eq_some_iff.1 hx).2).symm
   ·simp [h4,h5,h6]
  ·simp [h4,h5]
 ·simp [h0,h1,h2,h3,h4]
theorem bG7 (N:Nat) (h:List Ob) (v:V):aL4 N h v=some (G7 h v):=by
 unfold aL4 G7
 by_cases h0:v.k=0
 ·simp [h0,q9]
 by_cases h1:v.k=1
 ·simp [h1,q9]
 by_cases h2:v.k=2
 ·simp [h2,q9]
 by_cases h3:v.k=3
 ·simp [h3,q9]
 by_cases h4:v.k=4
 ·by_cases h5:0≤v.n
  ·by_cases h6:v.n < h.length
   ·obtain ⟨x,hx,hy⟩:=Z4 h5 h6
    simp [h4,h5,h6,hy]
    exact (congrArg Ob.cls (List.getElem?_eq_some_iff.1 hx).2).symm
   ·simp [h4,h5,h6]
  ·simp [h4,h5]
 ·by_cases h5:v.k < 0
  ·simp [h0,h1,h2,h3,h4,h5]
  ·have h6:3 < v.k:=by omega
   simp [h0,h1,h2,h3,h4,h5,h6]
def bB8 (h:List Ob) (v:V) (n:Int):V :=
 if v.k=4∧0≤v.n∧0≤n then (match h[v.n.toNat]? with|some o=>o.slots.getD n.toNat ⟨0,0⟩|none=>⟨0,0⟩) else ⟨0,0⟩
theorem bQ1 (N:Nat) (h:List Ob) (v:V) (n:Int):aR5 N h v n=some (bB8 h v n):=by
 unfold aR5 bB8
 by_cases h4:v.k=4
 ·by_cases h5:0≤v.n
  ·have h5':¬v.n < 0:=by omega
   by_cases h6:v.n < h.length
   ·have h6':¬((h.length:Int)≤v.n):=by omega
    obtain ⟨x,hx,hy⟩:=Z4 h5 h6
    by_cases h7:0≤n
    ·have h7':¬n < 0:=by omega
     by_cases h8:n < x.slots.length
     ·have h8':¬((x.slots.length:Int)≤n):=by omega
      obtain ⟨y,hy1,hy2⟩:=Z4 h7 h8
      simp [h4,h5,h5',h6',h7,h7',hx,hy,h8',hy1,hy2,List.getD_eq_getElem?_getD]
     ·have h8':((x.slots.length:Int)≤n):=by omega
      simp [h4,h5,h5',h6',h7,h7',hx,hy,h8',List.getD_eq_getElem?_getD]
    ·have h7':n < 0:=by omega
     simp [h4,h5,h5',h6',h7,h7']
   ·have h6':((h.length:Int)≤v.n):=by omega
    simp [h4,h5,h5',h6']
  ·have h5':v.n < 0:=by omega
   simp [h4,h5,h5']
 ·simp [h4]
theorem aS9 (N:Nat) (n:Int):∀(l:List V) (k:Nat),aA1 N n l k=some (if (k:Int)≤n then (match l[(n - k).toNat]? with|some x=>.ret x|none=>.next ()) else .next ())
 |[],k=>by simp [aA1]
 |x::l,k=>by
  rw [aA1,aS9 N n l (k+1)]
  by_cases e:(k:Int)=n
  ·subst e; simp
  ·by_cases h:(k:Int)≤n
   ·have h1:((k+1:Nat):Int)≤n:=by omega
    have h2:(n - (k:Int)).toNat=(n - ((k+1:Nat):Int)).toNat+1:=by omega
    rw [if_pos h1,if_pos h,h2]
    simp [e]
   ·have h1:¬((k+1:Nat):Int)≤n:=by omega
    rw [if_neg h1,if_neg h]
    simp [e]
theorem b98 (N:Nat) (h:List Ob) (v:V) (n:Int):aT9 N h v n=some (bB8 h v n):=by
 unfold aT9 bB8
 by_cases h4:v.k=4
 ·by_cases h5:0≤v.n
  ·by_cases h6:v.n < h.length
   ·obtain ⟨x,hx,hy⟩:=Z4 h5 h6
    by_cases h7:0≤n
    ·simp only [h4,h5,h6,hx,hy,Option.bind_some,Option.bind_none,cond_true,cond_false,Bool.cond_decide,bD8,aV5,aZ4,aU5,Bool.not_true,Bool.not_false,J3,decide_true,aS9]
     have:(n - ((0:Nat):Int)).toNat=n.toNat:=by omega
     rw [this]
     cases hq:x.slots[n.toNat]?<;>simp [h7,hq,List.getD_eq_getElem?_getD]
    ·simp [h4,h5,h6,hy,aS9,h7]
   ·simp [h4,h5,h6]
  ·simp [h4,h5]
 ·simp [h4]
theorem bA6 (N:Nat) (b:Bool):aR2 N b=some (if b=true then ⟨2,0⟩ else ⟨1,0⟩):=by cases b<;>rfl
theorem a05 (N:Nat) (b:Bool):aK1 N b=some (if b=true then ⟨2,0⟩ else ⟨1,0⟩):=by cases b<;>rfl
theorem aS8 (N:Nat) {l:List V} (h:l.length≤1048576):aG8 N l=some l:=by
 unfold aG8
 rw [H7 (by omega)]
 rfl
theorem bI8 (N:Nat):∀(l:List Ob) (k:Nat) (acc:List Ob),(∀o∈l,o.slots.length≤1048576)→acc.length+l.length≤1048576→aD8 N l k acc=some (acc++l)
 |[],k,acc,_,_=>by simp [aD8]
 |x::l,k,acc,h,hl=>by
  rw [aD8,aS8 N (h x (by simp))]
  simp only [Option.bind_some]
  rw [H7 (by simp at hl ⊢; omega)]
  simp only [cond_true]
  rw [bI8 N l (k+1) _ (fun o ho=>h o (by simp [ho])) (by simp at hl ⊢; omega)]
  simp
theorem bT9 (N:Nat) {l:List Ob} (h:∀o∈l,o.slots.length≤1048576) (hl:l.length≤1048576):aV7 N l=some l:=by
 unfold aV7
 rw [bI8 N l 0 [] h (by simpa using hl)]
 rfl
theorem cM4 (N:Nat) {l:List Ob} (c s:Int) (h:∀o∈l,o.slots.length≤1048576) (hl:l.length≤1048575) (h0:0≤s) (h1:s≤1000) :
  a95 N l c s=some (if 60≤l.length then ([],⟨0,0⟩,15) else (l++[⟨c,List.replicate s.toNat ⟨0,0⟩⟩],⟨4,(l.length:Int)⟩,0)):=by
 unfold a95
 have hm:max s 0=s:=by omega
 by_cases h6:60≤l.length
 ·have h6':(60:Int)≤l.length:=by omega
  simp [h6,h6']
 ·have h6':¬(60:Int)≤l.length:=by omega
  rw [bT9 N h (by omega),hm]
  have e1:(decide (0≤s) && decide (s≤140737488355328) && decide (s*16≤140737488355328))=true:=by
   simp only [Bool.and_eq_true,decide_eq_true_eq]; omega
  rw [e1]
  simp only [Option.bind_some,cond_true]
  rw [H7 (by simp; omega)]
  simp [h6,h6']
def bB0 (n:Int):V:=⟨3,n.tmod 1073741825⟩
def Z0 (p:Int) (a b:V):V×Int :=
 if a.k≠3∨b.k≠3 then (⟨0,0⟩,12)
 else if p=1 then (bB0 (a.n+b.n),0) else if p=2 then (bB0 (a.n - b.n),0) else if p=3 then (bB0 (a.n*b.n),0)
 else if p=4 then (if a.n < b.n then ⟨2,0⟩ else ⟨1,0⟩,0) else if p=5 then (if a.n=b.n then ⟨2,0⟩ else ⟨1,0⟩,0) else (⟨0,0⟩,1)
theorem dB5 (n:Int):F5 (n.tmod 1073741825):=by
 have h1:=Int.tmod_lt_of_pos n (show (0:Int) < 1073741825 by omega)
 have h2:-1073741825 < n.tmod 1073741825:=by
  rcases Int.le_total 0 n with h|h
  ·have:=Int.tmod_nonneg (1073741825:Int) h; omega
  ·have:=Int.tmod_lt_of_pos (-n) (show (0:Int) < 1073741825 by omega)
   rw [Int.neg_tmod] at this
   omega
 exact ⟨by omega,by omega⟩
theorem b51 (N:Nat) (n:Int):aI0 N n=some (bB0 n):=by
 unfold aI0 bB0
 have:=dB5 n
 simp [this]
def aJ6 (n:Int):Prop:=-1073741824≤n∧n≤1073741824
theorem cP8 {a b:Int} (ha:aJ6 a) (hb:aJ6 b):-1152921504606846976≤a*b∧a*b≤1152921504606846976:=by
 have h:(a*b).natAbs≤1073741824*1073741824:=by
  rw [Int.natAbs_mul]
  exact Nat.mul_le_mul (by have:=ha.1; have:=ha.2; omega) (by have:=hb.1; have:=hb.2; omega)
 omega
theorem cE8 (N:Nat) (p:Int) (a b:V) (ha:a.k=3→aJ6 a.n) (hb:b.k=3→aJ6 b.n):aW8 N p a b=some (Z0 p a b):=by
 unfold aW8 Z0
 by_cases h1:a.k=3
 ·by_cases h2:b.k=3
  ·have ha:=ha h1
   have hb:=hb h2
   have hm:=cP8 ha hb
   have w1:wr (a.n+b.n)=a.n+b.n:=H5 (by unfold F5; unfold aJ6 at ha hb; omega)
   have w2:wr (a.n - b.n)=a.n - b.n:=H5 (by unfold F5; unfold aJ6 at ha hb; omega)
   have w3:wr (a.n*b.n)=a.n*b.n:=H5 (by unfold F5; omega)
   simp only [h1,h2,w1,w2,w3,b51,bA6,Option.bind_some,Option.bind_none,cond_true,cond_false,Bool.cond_decide,bD8,aV5,aZ4,aU5,Bool.not_true,Bool.not_false,J3,decide_true,decide_eq_true_eq,ne_eq,not_true_eq_false,or_self,if_false]
   by_cases e1:p=1
   ·simp [e1]
   by_cases e2:p=2
   ·simp [e2]
   by_cases e3:p=3
   ·simp [e3]
   by_cases e4:p=4
   ·simp [e4]
   by_cases e5:p=5
   ·simp [e5]
   simp [e1,e2,e3,e4,e5]
  ·simp [h1,h2]
 ·simp [h1]
theorem cU3 {n:Int} (h:0≤n) (hb:n≤1152921504606846976):wr (n - wr (n.tdiv 1073741825*1073741825))=n.tmod 1073741825∧F5 (n.tdiv 1073741825):=by
 have e:=Int.mul_tdiv_add_tmod n 1073741825
 have h1:=Int.tmod_nonneg (1073741825:Int) h
 have h2:=Int.tmod_lt_of_pos n (show (0:Int) < 1073741825 by omega)
 have w1:wr (n.tdiv 1073741825*1073741825)=n.tdiv 1073741825*1073741825:=H5 (by unfold F5; omega)
 have w2:wr (n - n.tdiv 1073741825*1073741825)=n - n.tdiv 1073741825*1073741825:=H5 (by unfold F5; omega)
 rw [w1,w2]
 exact ⟨by omega,by unfold F5; omega⟩
theorem cU8 {n:Int} (h:n < 0) (hb:-1152921504606846976≤n):wr (n+wr ((-n).tdiv 1073741825*1073741825))=n.tmod 1073741825∧F5 ((-n).tdiv 1073741825)∧F5 (-n):=by
 have e:=Int.mul_tdiv_add_tmod (-n) 1073741825
 have h1:=Int.tmod_nonneg (1073741825:Int) (show (0:Int)≤-n by omega)
 have h2:=Int.tmod_lt_of_pos (-n) (show (0:Int) < 1073741825 by omega)
 have w1:wr ((-n).tdiv 1073741825*1073741825)=(-n).tdiv 1073741825*1073741825:=H5 (by unfold F5; omega)
 have w2:wr (n+(-n).tdiv 1073741825*1073741825)=n+(-n).tdiv 1073741825*1073741825:=H5 (by unfold F5; omega)
 have e3:(-n).tmod 1073741825=-(n.tmod 1073741825):=Int.neg_tmod ..
 rw [w1,w2]
 exact ⟨by omega,by unfold F5; omega,by unfold F5; omega⟩
theorem b99 (N:Nat) (p:Int) (a b:V) (ha:a.k=3→aJ6 a.n) (hb:b.k=3→aJ6 b.n):aT4 N p a b=some (Z0 p a b):=by
 unfold aT4
 by_cases h1:a.k=3
 ·by_cases h2:b.k=3
  ·have ha:=ha h1
   have hb:=hb h2
   have hm:=cP8 ha hb
   have w1:wr (a.n+b.n)=a.n+b.n:=H5 (by unfold F5; unfold aJ6 at ha hb; omega)
   have w2:wr (a.n - b.n)=a.n - b.n:=H5 (by unfold F5; unfold aJ6 at ha hb; omega)
   have w3:wr (a.n*b.n)=a.n*b.n:=H5 (by unfold F5; omega)
   have fin:∀n:Int,-1152921504606846976≤n→n≤1152921504606846976→(bif decide ((0:Int)≤n) then (bif (decide ((1073741825:Int)≠0) && decide (F5 (n.tdiv (1073741825:Int)))) then some ((⟨(3:Int),(wr (n - (wr ((n.tdiv (1073741825:Int))*(1073741825:Int)))))⟩:V),(0:Int)) else none) else (bif decide (F5 (-n)) then (bif (decide ((1073741825:Int)≠0) && decide (F5 ((-n).tdiv (1073741825:Int)))) then some ((⟨(3:Int),(wr (n+(wr (((-n).tdiv (1073741825:Int))*(1073741825:Int)))))⟩:V),(0:Int)) else none) else none))=some (bB0 n,0):=by
    intro n l1 l2
    by_cases hn:0≤n
    ·obtain ⟨r1,r2⟩:=cU3 hn l2
     have d2:=decide_eq_true r2
     have d0:decide ((1073741825:Int)≠0)=true:=by decide
     simp only [hn,r1,d2,d0,bB0,decide_true,cond_true,Bool.and_true]
    ·obtain ⟨r1,r2,r3⟩:=cU8 (show n < 0 by omega) l1
     have d2:=decide_eq_true r2
     have d3:=decide_eq_true r3
     have d0:decide ((1073741825:Int)≠0)=true:=by decide
     simp only [hn,r1,d2,d3,d0,bB0,decide_false,cond_true,cond_false,Bool.and_true]
   unfold aJ6 at ha hb
   by_cases e1:p=1
   ·have hp:Z0 p a b=(bB0 (a.n+b.n),0):=by simp [Z0,h1,h2,e1]
    rw [hp]
    simp only [h1,h2,w1,e1,decide_true,Bool.not_true,cond_true,cond_false,Option.bind_some]
    exact fin _ (by omega) (by omega)
   by_cases e2:p=2
   ·have hp:Z0 p a b=(bB0 (a.n - b.n),0):=by simp [Z0,h1,h2,e2]
    rw [hp]
    simp only [h1,h2,w2,e2,decide_true,Bool.not_true,cond_true,cond_false,Option.bind_some]
    exact fin _ (by omega) (by omega)
   by_cases e3:p=3
   ·have hp:Z0 p a b=(bB0 (a.n*b.n),0):=by simp [Z0,h1,h2,e3]
    rw [hp]
    simp only [h1,h2,w3,e3,decide_true,Bool.not_true,cond_true,cond_false,Option.bind_some]
    exact fin _ hm.1 hm.2
   unfold Z0
   simp only [h1,h2,a05,e1,e2,e3,decide_true,decide_false,Bool.not_true,cond_false,Option.bind_some]
   by_cases e4:p=4
   ·simp [e4]
   by_cases e5:p=5
   ·simp [e5]
   simp [e4,e5]
  ·simp [Z0,h1,h2]
 ·simp [Z0,h1]
end Go.Proofs.Ytahmeibkdhbngaa
namespace Go.Proofs.Ytahmeibkdhbngaa
open Go.RowKit
set_option linter.unusedVariables false
theorem cU5 : ∀a:List UInt8,Op.bytesLess a a=false
 |[]=>rfl
 |a::x=>by simp [Op.bytesLess,cU5 x]
theorem cL5 : ∀a b c:List UInt8,Op.bytesLess a b=true→Op.bytesLess b c=true→Op.bytesLess a c=true
 |_,[],_,h,_=>by simp [Op.bytesLess] at h
 |_,_::_,[],_,h=>by simp [Op.bytesLess] at h
 |[],_::_,_::_,_,_=>rfl
 |a::x,b::y,c::z,h,h'=>by
  simp only [Op.bytesLess,Bool.or_eq_true,Bool.and_eq_true,decide_eq_true_eq,beq_iff_eq] at h h' ⊢
  rcases h with h|⟨rfl,h⟩
  ·rcases h' with h'|⟨rfl,_⟩
   ·exact Or.inl (UInt8.lt_trans h h')
   ·exact Or.inl h
  ·rcases h' with h'|⟨rfl,h'⟩
   ·exact Or.inl h'
   ·exact Or.inr ⟨rfl,cL5 x y z h h'⟩
theorem cC8 (b:ByteArray):b.toList=b.data.toList:=by
 have:∀(n i:Nat) (r:List UInt8),n=b.size - i→ByteArray.toList.loop b i r=r.reverse++b.data.toList.drop i:=by
  intro n
  induction n with
  |zero =>
   intro i r h
   unfold ByteArray.toList.loop
   rw [if_neg (by omega)]
   have:b.data.toList.length≤i:=by simpa using (show b.size≤i by omega)
   rw [List.drop_eq_nil_of_le this]; simp
  |succ n ih =>
   intro i r h
   have hi:i < b.size:=by omega
   have hi':i < b.data.toList.length:=by simpa using hi
   unfold ByteArray.toList.loop
   rw [if_pos hi,ih (i+1) _ (by omega),List.drop_eq_getElem_cons hi']
   have e:b.get! i=b.data.toList[i]:=by
    show b.data[i]! = _
    rw [getElem!_pos b.data i hi,Array.getElem_toList]
   simp [e]
 have:=this b.size 0 [] (by omega)
 simpa [ByteArray.toList] using this
theorem toList_inj {a b:ByteArray} (h:a.toList=b.toList):a=b:=by
 rw [cC8,cC8] at h
 cases a; cases b
 congr
 exact Array.toList_inj.1 h
theorem bV2 (a:ByteArray):ltS a a=false:=cU5 _
theorem lt_trans {a b c:ByteArray} (h:ltS a b=true) (h':ltS b c=true):ltS a c=true:=cL5 _ _ _ h h'
def bU3 (ms:List Me):Prop:=ms.Pairwise fun a b=>ltS a.name b.name=true
def ixN (s:ByteArray):List Me→Option Nat
 |[]=>none
 |m::r=>if m.name=s then some 0 else (ixN s r).map (·+1)
theorem a01 {s:ByteArray}:∀{ms:List Me} {i:Nat},ixN s ms=some i→∃m,ms[i]?=some m∧m.name=s
 |m::r,i,h=>by
  unfold ixN at h
  by_cases e:m.name=s
  ·rw [if_pos e] at h; cases h; exact ⟨m,rfl,e⟩
  ·rw [if_neg e] at h
   cases hr:ixN s r with
   |none=>rw [hr] at h; cases h
   |some j=>rw [hr] at h; cases h; obtain ⟨m',h1,h2⟩:=a01 hr; exact ⟨m',h1,h2⟩
theorem cM8 {s:ByteArray}:∀{ms:List Me},ixN s ms=none→∀m∈ms,m.name≠s
 |[],_=>fun m hm=>by cases hm
 |m::r,h=>by
  unfold ixN at h
  by_cases e:m.name=s
  ·rw [if_pos e] at h; cases h
  ·rw [if_neg e] at h
   cases hr:ixN s r with
   |some j=>rw [hr] at h; cases h
   |none =>
    intro x hx
    rcases List.mem_cons.1 hx with rfl|hx
    ·exact e
    ·exact cM8 hr x hx
theorem bD1 {ms:List Me} (h:bU3 ms) {i j:Nat} {a b:Me} (hi:ms[i]?=some a) (hj:ms[j]?=some b) (hij:i < j):ltS a.name b.name=true:=by
 obtain ⟨hi1,rfl⟩:=List.getElem?_eq_some_iff.1 hi
 obtain ⟨hj1,rfl⟩:=List.getElem?_eq_some_iff.1 hj
 exact List.pairwise_iff_getElem.1 h i j hi1 hj1 hij
theorem cP4 {ms:List Me} (h:bU3 ms) {i:Nat} {m:Me} (hm:ms[i]?=some m):ixN m.name ms=some i:=by
 cases hx:ixN m.name ms with
 |none=>exact absurd rfl (cM8 hx m (List.mem_of_getElem? hm))
 |some j =>
  obtain ⟨m',h1,h2⟩:=a01 hx
  rcases Nat.lt_trichotomy i j with hij|hij|hij
  ·have:=bD1 h hm h1 hij; rw [h2,bV2] at this; cases this
  ·rw [hij]
  ·have:=bD1 h h1 hm hij; rw [h2,bV2] at this; cases this
theorem bK5 (N:Nat) (m:Me) (s:ByteArray):aD5 N m s=some (if ltS m.name s=true then -1 else if m.name=s then 0 else 1):=by
 unfold aD5 aJ8 cmp_isNaN_string
 cases h:ltS m.name s
 ·by_cases e:m.name=s<;>simp [e]
 ·simp
theorem bN6 (N:Nat) (ms:List Me) (s:ByteArray) (hl:ms.length≤1048576) (hr:bU3 ms):∀(n:Nat) (a b:Nat),a≤b→b≤ms.length→b - a < n →
  (∀i m,i < a→ms[i]?=some m→ltS m.name s=true)→(∀i m,b≤i→ms[i]?=some m→ltS m.name s=false) →
  ∃v:Nat,y8 N ms s (fun x0_ x1_=>aD5 N x0_ x1_) n (a:Int) (b:Int)=some (v:Int)∧v≤ms.length ∧
   (∀i m,i < v→ms[i]?=some m→ltS m.name s=true)∧(∀i m,v≤i→ms[i]?=some m→ltS m.name s=false)
 |0,a,b,_,_,h,_,_=>by omega
 |n+1,a,b,hab,hb,hn,ha,hbb=>by
  rw [y8]
  by_cases hlt:a < b
  ·have hlt':(a:Int) < (b:Int):=by omega
   have w1:wr ((a:Int)+(b:Int))=((a+b:Nat):Int):=by rw [H5 (by unfold F5; omega)]; omega
   have w2:((a+b:Nat):Int) / 2=(((a+b) / 2:Nat):Int):=by omega
   have w3:decide (F5 ((((a+b) / 2:Nat):Int)))=true:=decide_eq_true (by unfold F5; omega)
   have w4:wr ((((a+b) / 2:Nat):Int)+1)=(((a+b) / 2+1:Nat):Int):=by rw [H5 (by unfold F5; omega)]; omega
   have hmid:(a+b) / 2 < ms.length:=by omega
   obtain ⟨x,hx⟩:∃x,ms[(a+b) / 2]?=some x:=⟨_,List.getElem?_eq_getElem hmid⟩
   have w5:(0:Int)≤((a+b:Nat):Int):=by omega
   have ho:=bK5 N x s
   simp only [w1,w2,w3,w4,w5,hlt',J3,hx,ho,decide_true,cond_true,Option.bind_some]
   cases hc:ltS x.name s with
   |true =>
    simp only [if_true,show ((-1:Int) < 0)=True by simp,decide_true,cond_true,Option.bind_some]
    refine bN6 N ms s hl hr n _ b (by omega) hb (by omega) (fun i m hi hm=>?_) hbb
    rcases Nat.lt_or_ge i ((a+b) / 2) with h|h
    ·exact lt_trans (bD1 hr hm hx h) hc
    ·have e:i=(a+b) / 2:=by omega
     subst e; rw [hx] at hm; cases hm; exact hc
   |false =>
    have hd:∀i m,(a+b) / 2≤i→ms[i]?=some m→ltS m.name s=false:=by
     intro i m hi hm
     rcases Nat.lt_or_ge ((a+b) / 2) i with h|h
     ·cases hq:ltS m.name s with
      |false=>rfl
      |true=>have:=lt_trans (bD1 hr hx hm h) hq; rw [hc] at this; cases this
     ·have e:i=(a+b) / 2:=by omega
      subst e; rw [hx] at hm; cases hm; exact hc
    have hz:decide ((if false=true then (-1:Int) else if x.name=s then 0 else 1) < 0)=false:=by
     by_cases e:x.name=s<;>simp [e]
    rw [hz]
    simp only [cond_false,Option.bind_some]
    exact bN6 N ms s hl hr n a _ (by omega) (by omega) (by omega) ha hd
  ·have hlt':¬(a:Int) < (b:Int):=by omega
   simp only [hlt',decide_false,cond_false]
   have e:a=b:=by omega
   subst e
   exact ⟨a,rfl,hb,ha,hbb⟩
theorem bsearch_eq (N:Nat) (ms:List Me) (s:ByteArray) (hN:1048577≤N) (hl:ms.length≤1048576) (hr:bU3 ms) :
  ∃v:Int,G5 N ms s (fun x0_ x1_=>aD5 N x0_ x1_)=some (v,(ixN s ms).isSome)∧∀i,ixN s ms=some i→v=i:=by
 obtain ⟨v,hv,hle,h1,h2⟩:=bN6 N ms s hl hr N 0 ms.length (by omega) (by omega) (by omega) (fun i m h=>absurd h (by omega)) (fun i m h hm=>by
  have:=(List.getElem?_eq_some_iff.1 hm).1; omega)
 refine ⟨(v:Int),?_,?_⟩
 ·unfold G5
  have hv':y8 N ms s (fun x0_ x1_=>aD5 N x0_ x1_) N (0:Int) (ms.length:Int)=some (v:Int):=hv
  rw [hv']
  simp only [Option.bind_some]
  by_cases hlt:v < ms.length
  ·have hlt':(v:Int) < (ms.length:Int):=by omega
   obtain ⟨x,hx⟩:∃x,ms[v]?=some x:=⟨_,List.getElem?_eq_getElem hlt⟩
   have hf:=h2 v x (Nat.le_refl _) hx
   simp only [hlt',decide_true,cond_true,J3,hx,Option.bind_some,bK5,hf]
   by_cases e:x.name=s
   ·have:=cP4 hr hx
    rw [e] at this
    simp [e,this]
   ·cases hi:ixN s ms with
    |none=>simp [e]
    |some i =>
     obtain ⟨m',hm1,hm2⟩:=a01 hi
     rcases Nat.lt_trichotomy i v with h|h|h
     ·have:=h1 i m' h hm1; rw [hm2,bV2] at this; cases this
     ·subst h; rw [hx] at hm1; cases hm1; exact absurd hm2 e
     ·have:=bD1 hr hx hm1 h
      rw [hm2] at this; rw [hf] at this; cases this
  ·have hlt':¬(v:Int) < (ms.length:Int):=by omega
   simp only [hlt',decide_false,cond_false,Option.bind_some]
   cases hi:ixN s ms with
   |none=>rfl
   |some i =>
    obtain ⟨m',hm1,hm2⟩:=a01 hi
    have:=(List.getElem?_eq_some_iff.1 hm1).1
    have:=h1 i m' (by omega) hm1
    rw [hm2,bV2] at this; cases this
 ·intro i hi
  obtain ⟨m',hm1,hm2⟩:=a01 hi
  have hlen:=(List.getElem?_eq_some_iff.1 hm1).1
  rcases Nat.lt_trichotomy i v with h|h|h
  ·have:=h1 i m' h hm1; rw [hm2,bV2] at this; cases this
  ·rw [h]
  ·obtain ⟨x,hx⟩:∃x,ms[v]?=some x:=⟨ms[v]'(by omega),List.getElem?_eq_getElem (by omega)⟩
   have:=bD1 hr hx hm1 h
   rw [hm2] at this
   rw [h2 v x (Nat.le_refl _) hx] at this; cases this
def aA7 (w:Wd) (s:ByteArray):Nat→Int→Option (Int×Int)
 |0,_=>none
 |n+1,c=>if 0≤c then (match w.classes[c.toNat]? with
  |some x=>(match ixN s x.methods with|some i=>some (c,(i:Int))|none=>aA7 w s n x.super)
  |none=>none) else none
def F3 (w:Wd) (s:ByteArray) (c:Int):Int×Int:=(aA7 w s (w.classes.length+1) c).getD (-1,-1)
def aY1 (w:Wd):Prop:=∀x∈w.classes,bU3 x.methods
def V7 (w:Wd):Prop:=w.classes.length≤1048576∧w.heap.length≤1048576∧(∀x∈w.classes,x.methods.length≤1048576∧∀m∈x.methods,m.code.length≤1048576)∧∀o∈w.heap,o.slots.length≤1048576
def bV7 {σ:Type} (o:Option (Int×Int)) (s:σ):D5 (Int×Int) σ:=match o with|some p=>.ret p|none=>.next s
theorem bE3 (N:Nat) (w:Wd) (s:ByteArray) (hN:1048577≤N) (hw:aY1 w) (hs:V7 w):∀(n:Nat) (k:Nat) (c:Int),k≤w.classes.length+1→w.classes.length+1 - k < n →
  aC0 N w s n c (k:Int)=some (bV7 (aA7 w s (w.classes.length+1 - k) c) ())
 |0,k,c,_,h=>by omega
 |n+1,k,c,hk,hn=>by
  rw [aC0]
  by_cases h0:0≤c
  ·by_cases h1:c < w.classes.length
   ·obtain ⟨x,hx,hnth⟩:=Z4 h0 h1
    by_cases h2:k≤w.classes.length
    ·have h2':(k:Int)≤(w.classes.length:Int):=by omega
     have hxm:=List.mem_of_getElem? hx
     obtain ⟨v,hv,hvi⟩:=bsearch_eq N x.methods s hN (hs.2.2.1 x hxm).1 (hw x hxm)
     have e:w.classes.length+1 - k=(w.classes.length+1 - (k+1))+1:=by omega
     have wk:wr ((k:Int)+1)=((k+1:Nat):Int):=by rw [H5 (by have:=hs.1; unfold F5; omega)]; omega
     rw [e,aA7]
     simp only [h0,h1,h2',decide_true,cond_true,Option.bind_some,hnth,hv,hx,if_true,wk]
     cases hi:ixN s x.methods with
     |some i=>have:=hvi i hi; subst this; rfl
     |none =>
      simp only [Option.isSome_none,cond_false]
      exact bE3 N w s hN hw hs n (k+1) x.super (by omega) (by omega)
    ·have h2':¬(k:Int)≤(w.classes.length:Int):=by omega
     have e:w.classes.length+1 - k=0:=by omega
     simp only [h0,h1,h2',decide_true,decide_false,cond_true,cond_false,Option.bind_some,e]
     rfl
   ·have:aA7 w s (w.classes.length+1 - k) c=none:=by
     cases w.classes.length+1 - k with
     |zero=>rfl
     |succ n=>rw [aA7,if_pos h0,b05 h1]
    simp only [h0,h1,decide_true,decide_false,cond_true,cond_false,Option.bind_some,this]
    rfl
  ·have:aA7 w s (w.classes.length+1 - k) c=none:=by
    cases w.classes.length+1 - k with
    |zero=>rfl
    |succ n=>rw [aA7,if_neg h0]
   simp only [h0,decide_false,cond_false,Option.bind_some,this]
   rfl
theorem bQ4 (N:Nat) (w:Wd) (c:Int) (s:ByteArray) (hN:1048578≤N) (hw:aY1 w) (hs:V7 w):aJ1 N w c s=some (F3 w s c):=by
 unfold aJ1 F3
 have h:=bE3 N w s (by omega) hw hs N 0 c (by omega) (by have:=hs.1; omega)
 have h':aC0 N w s N c (0:Int)=some (bV7 (aA7 w s (w.classes.length+1) c) ()):=h
 rw [h']
 cases aA7 w s (w.classes.length+1) c<;>rfl
def aC6 (w:Wd):Nat→Int→List Int
 |0,_=>[]
 |n+1,c=>if 0≤c then (match w.classes[c.toNat]? with|some x=>c::aC6 w n x.super|none=>[]) else []
theorem bZ1 (w:Wd):∀(n:Nat) (c:Int),(aC6 w n c).length≤n
 |0,_=>Nat.le_refl _
 |n+1,c=>by
  rw [aC6]
  split
  ·split
   ·have:=bZ1 w n; simp only [List.length_cons]; exact Nat.succ_le_succ (this _)
   ·simp
  ·simp
theorem cN8 (w:Wd):∀(n:Nat) (c:Int),∀k∈aC6 w n c,0≤k∧k < w.classes.length
 |0,_,k,h=>by cases h
 |n+1,c,k,h=>by
  rw [aC6] at h
  split at h
  ·split at h
   ·rename_i h0 _ x hx
    rcases List.mem_cons.1 h with rfl|h
    ·exact ⟨h0,by have:=(List.getElem?_eq_some_iff.1 hx).1; omega⟩
    ·exact cN8 w n _ k h
   ·cases h
  ·cases h
theorem bD3 (N:Nat) (w:Wd) (hs:w.classes.length≤1048576):∀(n:Nat) (c:Int) (acc:List Int),acc.length≤w.classes.length+1→w.classes.length+1 - acc.length < n →
  aF3 N w n c acc=some (acc++aC6 w (w.classes.length+1 - acc.length) c)
 |0,c,acc,_,h=>by omega
 |n+1,c,acc,hk,hn=>by
  rw [aF3]
  by_cases h0:0≤c
  ·by_cases h1:c < w.classes.length
   ·obtain ⟨x,hx,hnth⟩:=Z4 h0 h1
    by_cases h2:acc.length≤w.classes.length
    ·have h2':(acc.length:Int)≤(w.classes.length:Int):=by omega
     have e:w.classes.length+1 - acc.length=(w.classes.length+1 - (acc++[c]).length)+1:=by simp; omega
     have hb:Nat.ble ((acc.length+[c].length)*8) 140737488355328=true:=H7 (by simp; omega)
     rw [e,aC6]
     simp only [h0,h1,h2',decide_true,cond_true,Option.bind_some,hnth,hx,if_true,hb]
     rw [bD3 N w hs n x.super (acc++[c]) (by simp; omega) (by simp; omega)]
     simp
    ·have h2':¬(acc.length:Int)≤(w.classes.length:Int):=by omega
     have e:w.classes.length+1 - acc.length=0:=by omega
     simp [h0,h1,h2',e,aC6]
   ·have:aC6 w (w.classes.length+1 - acc.length) c=[]:=by
     cases w.classes.length+1 - acc.length with
     |zero=>rfl
     |succ n=>rw [aC6,if_pos h0,b05 h1]
    simp [h0,h1,this]
  ·have:aC6 w (w.classes.length+1 - acc.length) c=[]:=by
    cases w.classes.length+1 - acc.length with
    |zero=>rfl
    |succ n=>rw [aC6,if_neg h0]
   simp [h0,this]
theorem bP4 (N:Nat) (w:Wd) (c:Int) (hN:1048578≤N) (hs:w.classes.length≤1048576):aS1 N w c=some (aC6 w (w.classes.length+1) c):=by
 unfold aS1
 rw [bD3 N w hs N c [] (by simp) (by simp; omega)]
 rfl
def G8 (w:Wd) (c:Int):Int:=(aC6 w (w.classes.length+1) c).foldl (fun n k=>match w.classes[k.toNat]? with|some x=>wr (n+x.slots)|none=>n) 0
theorem a97 (N:Nat) (w:Wd) (L:List Int) (hL:∀k∈L,0≤k∧k < w.classes.length):∀(l:List Int) (k:Nat) (n:Int),l=L.drop k →
  aB0 N w L l k n=some (l.foldl (fun n k=>match w.classes[k.toNat]? with|some x=>wr (n+x.slots)|none=>n) n)
 |[],k,n,_=>rfl
 |c::l,k,n,h=>by
  obtain ⟨h1,h2,_⟩:=F9 h
  obtain ⟨c0,c1⟩:=hL c (List.mem_of_getElem? h1)
  obtain ⟨x,hx,hnth⟩:=Z4 c0 c1
  rw [aB0]
  simp only [J3,h1,Option.bind_some,hnth,List.foldl_cons,hx]
  exact a97 N w L hL l (k+1) _ h2
theorem aK0 (N:Nat) (w:Wd) (c:Int) (hN:1048578≤N) (hs:w.classes.length≤1048576):W9 N w c=some (G8 w c):=by
 unfold W9 G8
 rw [bP4 N w c hN hs]
 simp only [Option.bind_some]
 rw [a97 N w _ (cN8 w _ c) (aC6 w (w.classes.length+1) c) 0 0 rfl]
 rfl
theorem bB6 (N:Nat) (s:ByteArray) (c:Int):∀(ms:List Me) (k:Nat),aC5 N s c ms k=some (bV7 ((ixN s ms).map fun i=>(c,((k+i:Nat):Int))) ())
 |[],k=>rfl
 |m::r,k=>by
  rw [aC5,ixN]
  by_cases e:m.name=s
  ·simp [e,bV7]
  ·simp only [e,decide_false,cond_false,if_false]
   rw [bB6 N s c r (k+1)]
   cases ixN s r with
   |none=>rfl
   |some i=>simp [bV7]; omega
theorem cD9 (w:Wd) (s:ByteArray) (N:Nat) (L:List Int):∀(n:Nat) (c:Int) (k:Nat),aC6 w n c=L.drop k →
  aD1 N w s L (aC6 w n c) k=some (bV7 (aA7 w s n c) ())
 |0,c,k,_=>rfl
 |n+1,c,k,h=>by
  rw [aA7]
  rw [aC6] at h ⊢
  by_cases h0:0≤c
  ·rw [if_pos h0] at h ⊢
   rw [if_pos h0]
   cases hx:w.classes[c.toNat]? with
   |none=>rfl
   |some x =>
    rw [hx] at h
    simp only at h ⊢
    obtain ⟨h1,h2,_⟩:=F9 h
    have hnth:q9 w.classes c=some x:=by rw [aO0 h0,hx]
    rw [aD1]
    simp only [J3,h1,Option.bind_some,hnth,bB6]
    cases hi:ixN s x.methods with
    |some i=>simp [bV7]
    |none =>
     simp only [Option.map_none,bV7]
     exact cD9 w s N L n x.super (k+1) h2
  ·rw [if_neg h0] at h ⊢
   rw [if_neg h0]
   rfl
theorem bK8 (N:Nat) (w:Wd) (c:Int) (s:ByteArray) (hN:1048578≤N) (hs:w.classes.length≤1048576):aK8 N w c s=some (F3 w s c):=by
 unfold aK8 F3
 rw [bP4 N w c hN hs]
 simp only [Option.bind_some]
 rw [cD9 w s N _ _ c 0 rfl]
 cases aA7 w s (w.classes.length+1) c<;>rfl
theorem cI8 (w:Wd) (s:ByteArray):∀(n:Nat) (c:Int) (p:Int×Int),aA7 w s n c=some p→0≤p.1∧0≤p.2∧∃x m,w.classes[p.1.toNat]?=some x∧x.methods[p.2.toNat]?=some m∧m.name=s
 |0,c,p,h=>by cases h
 |n+1,c,p,h=>by
  rw [aA7] at h
  by_cases h0:0≤c
  ·rw [if_pos h0] at h
   cases hx:w.classes[c.toNat]? with
   |none=>rw [hx] at h; cases h
   |some x =>
    rw [hx] at h
    simp only at h
    cases hi:ixN s x.methods with
    |none=>rw [hi] at h; exact cI8 w s n _ p h
    |some i =>
     rw [hi] at h
     cases h
     obtain ⟨m,h1,h2⟩:=a01 hi
     exact ⟨h0,Int.natCast_nonneg _,x,m,hx,h1,h2⟩
  ·rw [if_neg h0] at h; cases h
theorem bE0 {w:Wd} {s:ByteArray} {c:Int} (h:0≤(F3 w s c).2):∃x m,q9 w.classes (F3 w s c).1=some x∧q9 x.methods (F3 w s c).2=some m∧m.name=s:=by
 unfold F3 at h ⊢
 cases hf:aA7 w s (w.classes.length+1) c with
 |none=>rw [hf] at h; exact absurd h (by decide)
 |some p =>
  obtain ⟨h0,h1,x,m,hx,hm,hn⟩:=cI8 w s _ c p hf
  exact ⟨x,m,by rw [Option.getD_some,aO0 h0,hx],by rw [Option.getD_some,aO0 h1,hm],hn⟩
end Go.Proofs.Ytahmeibkdhbngaa
namespace Go.Proofs.Ytahmeibkdhbngaa
open Go.RowKit
set_option linter.unusedVariables false
def sends (i:Ins):Bool:=decide (i.op=14) || decide (i.op=13)
end Go.Proofs.Ytahmeibkdhbngaa
namespace Go.Proofs.Ytahmeibkdhbngaa
open Go.RowKit
set_option linter.unusedVariables false
theorem aR7 {α:Type} {b:Bool} {x y:Option α} (hx:b=true→∃r,x=some r) (hy:b=false→∃r,y=some r):∃r,(bif b then x else y)=some r:=by
 cases b
 ·exact hy rfl
 ·exact hx rfl
theorem bO0 {α β:Type} {x:Option α} {f:α→Option β} (hx:∃a,x=some a) (hf:∀a,x=some a→∃r,f a=some r):∃r,x.bind f=some r:=by
 obtain ⟨a,rfl⟩:=hx
 exact hf a rfl
def nmB (u:UInt8):Bool:=!decide ((u.toNat:Int) < 33) && !decide (126 < (u.toNat:Int))
def aG5 (s:ByteArray):Bool:=s.data.toList.all nmB && (decide (0 < s.size) && decide (s.size≤12))
theorem cN6 (s:ByteArray) (k:Nat):byO s (k:Int)=s.data.toList[k]?:=by
 unfold byO
 rw [decide_eq_true (Int.natCast_nonneg k)]
 show s[k]?=_
 by_cases h:k < s.size
 ·rw [getElem?_pos s k h,List.getElem?_eq_getElem (by simpa using h)]
  rfl
 ·rw [getElem?_neg s k h,List.getElem?_eq_none (by simpa using h)]
theorem bB4 (N:Nat) (s:ByteArray):∀(n k:Nat),n+k=s.size→aC9 N s n k=some (if (s.data.toList.drop k).all nmB=true then .next () else .ret false)
 |0,k,h=>by
  rw [List.drop_eq_nil_of_le (by rw [show s.data.toList.length=s.size from rfl]; omega)]
  rfl
 |n+1,k,h=>by
  have hk:k < s.data.toList.length:=by rw [show s.data.toList.length=s.size from rfl]; omega
  rw [aC9,List.drop_eq_getElem_cons hk,cN6,List.getElem?_eq_getElem hk,bB4 N s n (k+1) (by omega)]
  simp only [Option.bind_some,List.all_cons]
  generalize s.data.toList[k]=u
  generalize s.data.toList.drop (k+1)=b
  by_cases h1:(u.toNat:Int) < 33
  ·have e:nmB u=false:=by simp [nmB,h1]
   simp only [h1,e,decide_true,cond_true,Option.bind_some,Bool.false_and]; rfl
  ·by_cases h2:126 < (u.toNat:Int)
   ·have e:nmB u=false:=by simp only [nmB,h1,h2,decide_true,decide_false,Bool.not_true,Bool.and_false]
    simp only [h1,h2,e,decide_true,decide_false,cond_true,cond_false,Option.bind_some,Bool.false_and]; rfl
   ·have e:nmB u=true:=by simp only [nmB,h1,h2,decide_false,Bool.not_false,Bool.and_true]
    simp only [h1,h2,e,decide_false,cond_false,Option.bind_some,Bool.true_and]
theorem aA4 (N:Nat) (s:ByteArray):aD4 N s=some (aG5 s):=by
 unfold aD4 aG5
 have e:((s.size:Int) - ((0:Nat):Int)).toNat=s.size:=by omega
 rw [e,bB4 N s s.size 0 (by omega),List.drop_zero]
 cases h:s.data.toList.all nmB
 ·simp
 ·by_cases h1:0 < s.size
  ·by_cases h2:s.size≤12
   ·have h1':(0:Int) < (s.size:Int):=by omega
    have h2':(s.size:Int)≤12:=by omega
    simp [h1,h2,h2']
   ·have h2':¬(s.size:Int)≤12:=by omega
    have h1':(0:Int) < (s.size:Int):=by omega
    simp [h2,h2']
  ·have h1':¬(0:Int) < (s.size:Int):=by omega
   simp [h1]
theorem aY3 (N:Nat) (w:Wd) (c:Int) (m:Me) (i:Ins) (hN:1048578≤N) (hs:w.classes.length≤1048576):∃r,M8 N w c m i=some r:=by
 unfold M8
 simp only [aK0 N w c hN hs,aA4]
 repeat (first|exact ⟨_,rfl⟩|refine aR7 (fun _=>?_) (fun _=>?_)|refine bO0 ?_ (fun a _=>?_)|split)
theorem bR6 (N:Nat) (w:Wd) (c:Int) (m:Me) (i:Ins) (h:M8 N w c m i=some 0) (ho:i.op=14):0≤i.a∧i.a≤4:=by
 unfold M8 at h
 simp only [ho,aA4,show ((14:Int)=1)=False by decide,show ((14:Int)=2)=False by decide,show ((14:Int)=3)=False by decide,show ((14:Int)=4)=False by decide,show ((14:Int)=5)=False by decide,show ((14:Int)=6)=False by decide,show ((14:Int)=7)=False by decide,show ((14:Int)=8)=False by decide,show ((14:Int)=9)=False by decide,show ((14:Int)=10)=False by decide,show ((14:Int)=11)=False by decide,show ((14:Int)=12)=False by decide,show ((14:Int)=13)=False by decide,show ((14:Int)=17)=False by decide,decide_true,decide_false,cond_true,cond_false,Option.bind_some] at h
 by_cases h1:i.a < 0
 ·simp [h1] at h
 ·by_cases h2:4 < i.a
  ·simp [h1,h2] at h
  ·omega
def bX0 (m:Me):Prop:=∀i∈m.code,i.op=14→0≤i.a∧i.a≤4
def P9 (i:Ins) (p:Int):Int×Int×List Int :=
 if i.op=9∨i.op=11∨i.op=12 then (1,-1,[wr (p+1)]) else if i.op=10 then (1,1,[wr (p+1)])
 else if i.op=14 then (wr (i.a+1),-i.a,[wr (p+1)]) else if i.op=15 then (0,0,[i.a])
 else if i.op=16 then (1,-1,[wr (p+1),i.a]) else if i.op=17 then (1,-1,[]) else (0,1,[wr (p+1)])
theorem cP5 (i:Ins) (p:Int):(P9 i p).2.2.length≤2:=by
 unfold P9
 (repeat' split)<;>simp
theorem b65 (N:Nat) (i:Ins) (p:Int) (h:i.op=14→0≤i.a∧i.a≤4):aU1 N i p=some (P9 i p):=by
 unfold aU1 P9
 by_cases h1:i.op=9
 ·simp [h1]
 by_cases h2:i.op=11
 ·simp [h2]
 by_cases h3:i.op=12
 ·simp [h3]
 by_cases h4:i.op=10
 ·simp [h4]
 by_cases h5:i.op=14
 ·have:=h h5
  have e:decide (F5 (-i.a))=true:=decide_eq_true (by unfold F5; omega)
  simp only [h5,e,decide_true,cond_true,show ((14:Int)=9)=False by decide,show ((14:Int)=11)=False by decide,show ((14:Int)=12)=False by decide,show ((14:Int)=10)=False by decide,decide_false,cond_false,Option.bind_some,or_self,if_false,if_true]
 by_cases h6:i.op=15
 ·simp [h6]
 by_cases h7:i.op=16
 ·simp [h7]
 by_cases h8:i.op=17
 ·simp [h8]
 simp [h1,h2,h3,h4,h5,h6,h7,h8]
theorem bU8 {i:Ins} {p:Int} {x:Int} (h0:0≤x) (h12:x≤12) (hn:¬x < (P9 i p).1) (hm:¬12 < wr (x+(P9 i p).2.1)) (hi:i.op=14→0≤i.a∧i.a≤4) :
  0≤wr (x+(P9 i p).2.1)∧wr (x+(P9 i p).2.1)≤12∧wr (x+(P9 i p).2.1)=x+(P9 i p).2.1:=by
 unfold P9 at hn hm ⊢
 split at hn
 ·rename_i h1
  simp only [h1,if_true] at hm ⊢
  rw [H5 (by unfold F5; omega)]; omega
 ·rename_i h1
  simp only [h1,if_false] at hm ⊢
  split at hn
  ·rename_i h2
   simp only [h2,if_true] at hm ⊢
   rw [H5 (by unfold F5; omega)] at hm ⊢; omega
  ·rename_i h2
   simp only [h2,if_false] at hm ⊢
   split at hn
   ·rename_i h3
    have hi:=hi h3
    simp only [h3,if_true] at hm ⊢
    simp only at hn
    rw [H5 (by unfold F5; omega)] at hn hm ⊢; omega
   ·rename_i h3
    simp only [h3,if_false] at hm ⊢
    split at hn
    ·rename_i h4
     simp only [h4,if_true] at hm ⊢
     rw [H5 (by unfold F5; omega)] at hm ⊢; omega
    ·rename_i h4
     simp only [h4,if_false] at hm ⊢
     split at hn
     ·rename_i h5
      simp only [h5,if_true] at hm ⊢
      rw [H5 (by unfold F5; omega)] at hm ⊢; omega
     ·rename_i h5
      simp only [h5,if_false] at hm ⊢
      split at hn
      ·rename_i h6
       simp only [h6,if_true] at hm ⊢
       rw [H5 (by unfold F5; omega)] at hm ⊢; omega
      ·rename_i h6
       simp only [h6,if_false] at hm ⊢
       rw [H5 (by unfold F5; omega)] at hm ⊢; omega
theorem aW4 (N:Nat):∀(n k:Nat) (v:List Int),n+k=v.length→U1 N n k v=some (v.take k++List.replicate n (-1))
 |0,k,v,h=>by rw [U1,List.take_of_length_le (by omega)]; simp
 |n+1,k,v,h=>by
  have hk:k < v.length:=by omega
  rw [U1,J3,List.getElem?_eq_getElem hk]
  simp only [Option.bind_some,Int.toNat_natCast]
  rw [aW4 N n (k+1) _ (by simp; omega)]
  congr 1
  rw [List.take_add_one,List.take_set_of_le (Nat.le_refl _),List.getElem?_set_self hk,List.replicate_succ]
  simp
theorem aX6 (N:Nat) (x:Int) (r:Int×Int×List Int):∀(l:List Int) (k:Nat) (a b:List Int),l=r.2.2.drop k→a.length+l.length≤17592186044416→b.length+l.length≤17592186044416 →
  U0 N x r l k a b=some (a++l,b++List.replicate l.length (wr (x+r.2.1)))
 |[],k,a,b,_,_,_=>by simp [U0]
 |y::l,k,a,b,h,ha,hb=>by
  obtain ⟨h1,h2,_⟩:=F9 h
  simp only [List.length_cons] at ha hb
  rw [U0]
  have e1:Nat.ble ((a.length+[y].length)*8) 140737488355328=true:=H7 (by simp; omega)
  have e2:Nat.ble ((b.length+[wr (x+r.2.1)].length)*8) 140737488355328=true:=H7 (by simp; omega)
  simp only [J3,h1,Option.bind_some,e1,e2,cond_true]
  rw [aX6 N x r l (k+1) _ _ h2 (by simp; omega) (by simp; omega)]
  simp [List.replicate_succ]
def bI1 (h:List Int):Nat:=h.countP fun x=>decide (x < 0)
theorem cD3 {h:List Int} {i:Nat} {x y:Int} (hi:h[i]?=some x) (hx:x < 0) (hy:0≤y):bI1 (h.set i y)+1=bI1 h:=by
 induction h generalizing i with
 |nil=>simp at hi
 |cons a h ih =>
  cases i with
  |zero =>
   simp only [List.getElem?_cons_zero,Option.some.injEq] at hi
   subst hi
   have:¬y < 0:=by omega
   simp [bI1,hx,this]
  |succ i =>
   have:=ih (i:=i) (by simpa using hi)
   simp only [bI1,List.set_cons_succ,List.countP_cons] at this ⊢
   omega
def hgt (m:Me):Nat→List Int→List (Int×Int)→Option (D5 (List Int×O5) (List Int))
 |0,_,_=>none
 |_+1,h,[]=>some (.next h)
 |n+1,h,(p,x)::r =>
  if (m.code.length:Int)≤p∨p < 0 then some (.ret ([],⟨9,m.code.length⟩)) else
  match h[p.toNat]?,m.code[p.toNat]? with
  |some y,some i =>
   if 0≤y then (if y=x then hgt m n h r else some (.ret ([],⟨8,p⟩)))
   else if x < (P9 i p).1∨(i.op=17∧x≠1) then some (.ret ([],⟨8,p⟩))
   else if 12 < wr (x+(P9 i p).2.1) then some (.ret ([],⟨4,p⟩))
   else hgt m n (h.set p.toNat x) (r++(P9 i p).2.2.map fun q=>(q,wr (x+(P9 i p).2.1)))
  |_,_=>none
def hOk (l:List (Int×Int)):Prop:=∀q∈l,0≤q.2∧q.2≤12
theorem b22 (m:Me) (hm:bX0 m):∀(n:Nat) (h:List Int) (l:List (Int×Int)),h.length=m.code.length→hOk l→l.length+3*bI1 h < n→∃r,hgt m n h l=some r
 |0,h,l,_,_,hn=>by omega
 |n+1,h,[],_,_,_=>⟨_,rfl⟩
 |n+1,h,(p,x)::r,hh,hl,hn=>by
  rw [hgt]
  simp only [List.length_cons] at hn
  have hx:=hl (p,x) (by simp)
  have hr:hOk r:=fun q hq=>hl q (by simp [hq])
  by_cases h1:(m.code.length:Int)≤p∨p < 0
  ·rw [if_pos h1]; exact ⟨_,rfl⟩
  rw [if_neg h1]
  have hp:p.toNat < m.code.length:=by omega
  have e1:h[p.toNat]?=some (h[p.toNat]'(by omega)):=List.getElem?_eq_getElem (by omega)
  have e2:m.code[p.toNat]?=some m.code[p.toNat]:=List.getElem?_eq_getElem hp
  generalize h[p.toNat]'(by omega)=y at e1
  have hi:=hm _ (List.getElem_mem hp)
  generalize m.code[p.toNat]=i at e2 hi
  rw [e1,e2]
  simp only
  by_cases h2:0≤y
  ·rw [if_pos h2]
   by_cases h3:y=x
   ·rw [if_pos h3]; exact b22 m hm n h r hh hr (by omega)
   ·rw [if_neg h3]; exact ⟨_,rfl⟩
  rw [if_neg h2]
  by_cases h3:x < (P9 i p).1∨(i.op=17∧x≠1)
  ·rw [if_pos h3]; exact ⟨_,rfl⟩
  rw [if_neg h3]
  by_cases h4:12 < wr (x+(P9 i p).2.1)
  ·rw [if_pos h4]; exact ⟨_,rfl⟩
  rw [if_neg h4]
  have hb:=bU8 hx.1 hx.2 (fun h=>h3 (Or.inl h)) h4 hi
  have hu:=cD3 (y:=x) e1 (by omega) hx.1
  have hl2:=cP5 i p
  refine b22 m hm n _ _ (by simpa using hh) (fun q hq=>?_) (by simp; omega)
  rcases List.mem_append.1 hq with hq|hq
  ·exact hr q hq
  ·obtain ⟨z,_,rfl⟩:=List.mem_map.1 hq
   exact ⟨hb.1,hb.2.1⟩
theorem aN7 (N:Nat) (m:Me) (hm:bX0 m) (hc:m.code.length≤1048576):∀(n:Nat) (h:List Int) (ats hs:List Int) (k:Nat),ats.length=hs.length→k≤ats.length→ats.length+2*bI1 h≤4194304→h.length=m.code.length →
  hOk ((ats.drop k).zip (hs.drop k))→T9 N m n h ats hs (k:Int)=hgt m n h ((ats.drop k).zip (hs.drop k))
 |0,_,_,_,_,_,_,_,_,_=>rfl
 |n+1,h,ats,hs,k,hl,hk,hb,hh,ho=>by
  rw [T9]
  by_cases hlt:k < ats.length
  ·have hlt':(k:Int) < (ats.length:Int):=by omega
   have hlt2:k < hs.length:=by omega
   have ea:ats[k]?=some ats[k]:=List.getElem?_eq_getElem hlt
   have eh:hs[k]?=some hs[k]:=List.getElem?_eq_getElem hlt2
   have ed:(ats.drop k).zip (hs.drop k)=(ats[k],hs[k])::(ats.drop (k+1)).zip (hs.drop (k+1)):=by
    rw [List.drop_eq_getElem_cons hlt,List.drop_eq_getElem_cons hlt2]; rfl
   have hx:=ho (ats[k],hs[k]) (by rw [ed]; simp)
   have hr:hOk ((ats.drop (k+1)).zip (hs.drop (k+1))):=fun q hq=>ho q (by rw [ed]; simp [hq])
   have wk:wr ((k:Int)+1)=((k+1:Nat):Int):=by rw [H5 (by unfold F5; omega)]; omega
   rw [ed,hgt]
   generalize hp:ats[k]=p at ea hx
   generalize hxx:hs[k]=x at eh hx
   simp only [hlt',decide_true,cond_true,J3,ea,eh,Option.bind_some,wk]
   by_cases h1:(m.code.length:Int)≤p
   ·simp only [h1,decide_true,cond_true,Option.bind_some,true_or,if_true]
   by_cases h1':p < 0
   ·simp only [h1,h1',decide_true,decide_false,cond_true,cond_false,Option.bind_some,or_true,if_true]
   simp only [h1,h1',decide_false,cond_false,Option.bind_some,or_self,if_false]
   have hpl:p.toNat < m.code.length:=by omega
   have hp0:0≤p:=by omega
   have e1:h[p.toNat]?=some (h[p.toNat]'(by omega)):=List.getElem?_eq_getElem (by omega)
   have e2:m.code[p.toNat]?=some m.code[p.toNat]:=List.getElem?_eq_getElem hpl
   generalize h[p.toNat]'(by omega)=y at e1
   have hi:=hm _ (List.getElem_mem hpl)
   generalize m.code[p.toNat]=i at e2 hi
   have n1:q9 h p=some y:=by rw [aO0 hp0,e1]
   have n2:q9 m.code p=some i:=by rw [aO0 hp0,e2]
   simp only [n1,n2,e1,e2,Option.bind_some,b65 N i p hi]
   by_cases h2:0≤y
   ·simp only [h2,decide_true,cond_true,if_true]
    by_cases h3:y=x
    ·simp only [h3,decide_true,Bool.not_true,cond_false,Option.bind_some,if_true]
     exact aN7 N m hm hc n h ats hs (k+1) hl (by omega) hb hh hr
    ·simp only [h3,decide_false,Bool.not_false,cond_true,Option.bind_some,if_false]
   simp only [h2,decide_false,cond_false,if_false]
   by_cases h3:x < (P9 i p).1
   ·simp only [h3,decide_true,cond_true,Option.bind_some,true_or,if_true]
   by_cases h4:i.op=17∧x≠1
   ·simp only [h3,h4.1,h4.2,decide_true,decide_false,cond_true,cond_false,Option.bind_some,Bool.not_false,or_true,if_true,ne_eq,not_false_eq_true,and_self]
   have hq:((bif decide (i.op=(17:Int)) then some ((!decide (x=(1:Int)))) else some (false)):Option Bool)=some false:=by
    by_cases h5:i.op=17
    ·by_cases h6:x=1
     ·simp [h6]
     ·exact absurd ⟨h5,h6⟩ h4
    ·simp [h5]
   simp only [h3,h4,hq,decide_false,cond_false,Option.bind_some,or_self,if_false]
   by_cases h5:12 < wr (x+(P9 i p).2.1)
   ·simp only [h5,decide_true,cond_true,Option.bind_some,if_true]
   simp only [h5,decide_false,cond_false,if_false]
   have hb2:=bU8 hx.1 hx.2 h3 h5 hi
   have hu:=cD3 (y:=x) e1 (by omega) hx.1
   have hl2:=cP5 i p
   rw [aX6 N x (P9 i p) (P9 i p).2.2 0 ats hs rfl (by omega) (by omega)]
   simp only [Option.bind_some]
   have ez:((ats++(P9 i p).2.2).drop (k+1)).zip ((hs++List.replicate (P9 i p).2.2.length (wr (x+(P9 i p).2.1))).drop (k+1)) =
     (ats.drop (k+1)).zip (hs.drop (k+1))++(P9 i p).2.2.map fun q=>(q,wr (x+(P9 i p).2.1)):=by
    rw [List.drop_append_of_le_length (by omega),List.drop_append_of_le_length (by omega),List.zip_append (by simp; omega)]
    congr 1
    generalize (P9 i p).2.2=L
    induction L with
    |nil=>rfl
    |cons a L ih=>simp [List.replicate_succ,ih]
   rw [aN7 N m hm hc n _ _ _ (k+1) (by simp; omega) (by simp; omega) (by simp; omega) (by simpa using hh) (by
    rw [ez]
    intro q hq
    rcases List.mem_append.1 hq with hq|hq
    ·exact hr q hq
    ·obtain ⟨z,_,rfl⟩:=List.mem_map.1 hq
     exact ⟨hb2.1,hb2.2.1⟩),ez]
  ·have hlt':¬(k:Int) < (ats.length:Int):=by omega
   have ed:(ats.drop k).zip (hs.drop k)=[]:=by rw [List.drop_eq_nil_of_le (by omega)]; rfl
   rw [ed,hgt]
   simp only [hlt',decide_false,cond_false]
def c57 (o:D5 (List Int×O5) (List Int)):List Int×O5:=match o with|.ret r=>r|.next h=>(h,⟨0,0⟩)
theorem cB5 (n:Nat):bI1 (List.replicate n (-1))=n:=by
 induction n with
 |zero=>rfl
 |succ n ih=>simp only [bI1,List.replicate_succ,List.countP_cons] at ih ⊢; rw [ih]; rfl
theorem bB3 (N:Nat) (m:Me) (hm:bX0 m) (hc:m.code.length≤1048576):aG9 N m=(hgt m N (List.replicate m.code.length (-1)) [(0,0)]).map c57:=by
 unfold aG9
 have e0:(decide (0≤(m.code.length:Int)) && decide ((m.code.length:Int)≤140737488355328) && decide ((m.code.length:Int)*8≤140737488355328))=true:=by
  simp only [Bool.and_eq_true,decide_eq_true_eq]; omega
 have e1:(((List.replicate (m.code.length:Int).toNat (0:Int)).length:Int) - ((0:Nat):Int)).toNat=m.code.length:=by simp
 rw [e0,e1,aW4 N _ 0 _ (by simp)]
 simp only [cond_true,Option.bind_some,List.take_zero,List.nil_append]
 have h:=aN7 N m hm hc N (List.replicate m.code.length (-1)) [0] [0] 0 rfl (by simp) (by rw [cB5]; simp; omega) (by simp) (by
  intro q hq
  simp only [List.drop_zero,List.zip_cons_cons,List.zip_nil_right,List.mem_cons,List.not_mem_nil,or_false] at hq
  subst hq; decide)
 have h':T9 N m N (List.replicate m.code.length (-1)) [(0:Int)] [(0:Int)] (0:Int)=hgt m N (List.replicate m.code.length (-1)) [(0,0)]:=h
 rw [h']
 cases hgt m N (List.replicate m.code.length (-1)) [(0,0)] with
 |none=>rfl
 |some o=>cases o<;>rfl
theorem bR5 (N:Nat) (m:Me) (hN:4194304≤N) (hm:bX0 m) (hc:m.code.length≤1048576):∃r,aG9 N m=some r:=by
 rw [bB3 N m hm hc]
 obtain ⟨o,ho⟩:=b22 m hm N (List.replicate m.code.length (-1)) [(0,0)] (by simp) (by
  intro q hq
  simp only [List.mem_cons,List.not_mem_nil,or_false] at hq
  subst hq; decide) (by rw [cB5]; simp; omega)
 rw [ho]
 exact ⟨_,rfl⟩
end Go.Proofs.Ytahmeibkdhbngaa
namespace Go.Proofs.Ytahmeibkdhbngaa
open Go.RowKit
set_option linter.unusedVariables false
theorem aM7 (N:Nat) (w:Wd) (c:Int) (m:Me) (hN:1048578≤N) (hs:w.classes.length≤1048576):∀(l:List Ins) (k:Nat),∃o,M9 N w c m l k=some o∧(o=.next ()→∀i∈l,M8 N w c m i=some 0)
 |[],k=>⟨_,rfl,fun _ i hi=>by cases hi⟩
 |x::l,k=>by
  obtain ⟨r,hr⟩:=aY3 N w c m x hN hs
  rw [M9,hr]
  simp only [Option.bind_some]
  by_cases h:r=0
  ·subst h
   simp only [decide_true,Bool.not_true,cond_false]
   obtain ⟨o,h1,h2⟩:=aM7 N w c m hN hs l (k+1)
   refine ⟨o,h1,fun e i hi=>?_⟩
   rcases List.mem_cons.1 hi with rfl|hi
   ·exact hr
   ·exact h2 e i hi
  ·simp only [h,decide_false,Bool.not_false,cond_true]
   exact ⟨_,rfl,fun e=>by cases e⟩
theorem bX1 (N:Nat) (w:Wd) (c:Int) (m:Me) (hN:4194304≤N) (hs:w.classes.length≤1048576) (hc:m.code.length≤1048576):∃f,V8 N w c m=some f:=by
 unfold V8
 simp only [aA4,Option.bind_some]
 refine bO0 ?_ fun a _=>?_
 ·repeat (first|exact ⟨_,rfl⟩|refine aR7 (fun _=>?_) (fun _=>?_))
 refine aR7 (fun _=>⟨_,rfl⟩) fun _=>?_
 refine aR7 (fun _=>⟨_,rfl⟩) fun _=>?_
 refine bO0 ?_ fun a _=>?_
 ·repeat (first|exact ⟨_,rfl⟩|refine aR7 (fun _=>?_) (fun _=>?_))
 refine aR7 (fun _=>⟨_,rfl⟩) fun _=>?_
 refine aR7 (fun _=>⟨_,rfl⟩) fun _=>?_
 refine bO0 ?_ fun a _=>?_
 ·repeat (first|exact ⟨_,rfl⟩|refine aR7 (fun _=>?_) (fun _=>?_))
 refine aR7 (fun _=>⟨_,rfl⟩) fun _=>?_
 obtain ⟨o,h1,h2⟩:=aM7 N w c m (by omega) hs m.code 0
 rw [h1]
 simp only [Option.bind_some]
 cases o with
 |ret r=>exact ⟨_,rfl⟩
 |next u =>
  obtain ⟨r,hr⟩:=bR5 N m hN (fun i hi ho=>bR6 N w c m i (h2 rfl i hi) ho) hc
  simp only [hr,Option.bind_some]
  exact ⟨_,rfl⟩
def Good (x:Option (D5 Int Unit)) (P:Prop):Prop:=∃o,x=some o∧(∀r,o=.ret r→r≠0)∧(o=.next ()→P)
theorem Good.ret {r:Int} {P:Prop} (h:r≠0):Good (some (.ret r)) P:=⟨.ret r,rfl,(fun r e=>by cases e; exact h),fun e=>by cases e⟩
theorem Good.next {P:Prop} (h:P):Good (some (.next ())) P:=⟨.next (),rfl,(fun r e=>by cases e),fun _=>h⟩
theorem Good.bind {x:Option (D5 Int Unit)} {P Q:Prop} {y:Option (D5 Int Unit)} (h:Good x P) (hy:P→Good y Q):Good (x.bind fun o=>match o with|.ret r=>some (.ret r)|.next ()=>y) Q:=by
 obtain ⟨o,rfl,h1,h2⟩:=h
 cases o with
 |ret r=>exact Good.ret (h1 r rfl)
 |next u=>exact hy (h2 rfl)
theorem Good.imp {x:Option (D5 Int Unit)} {P Q:Prop} (h:Good x P) (hq:P→Q):Good x Q:=by
 obtain ⟨o,h0,h1,h2⟩:=h
 exact ⟨o,h0,h1,fun e=>hq (h2 e)⟩
theorem bQ8 (N:Nat) (x:Cl):∀(l:List Cl) (k:Nat),Good (Y5 N x l k) (∀d∈l,d.name≠x.name)
 |[],k=>Good.next fun d hd=>by cases hd
 |d::l,k=>by
  rw [Y5]
  by_cases h:d.name=x.name
  ·simp only [h,decide_true,cond_true]; exact Good.ret (by decide)
  ·simp only [h,decide_false,cond_false]
   exact (bQ8 N x l (k+1)).imp fun hl e he=>by
    rcases List.mem_cons.1 he with rfl|he
    ·exact h
    ·exact hl e he
def b33 (w:Wd) (k:Nat) (c:Cl):Prop:=aG5 c.name=true∧(∀d∈w.classes.take k,d.name≠c.name) ∧
 (k < 4→∃f,aW0.classes[k]?=some f∧c.name=f.name∧c.super=f.super∧c.slots=0) ∧
 (4≤k→0≤c.super∧c.super < k∧(0 < c.super→4≤c.super))∧0≤c.slots∧c.slots≤6
theorem bP0 (N:Nat) (w:Wd):∀(l:List Cl) (k:Nat),l=w.classes.drop k→Good (V4 N w aW0 l k) (∀j c,k≤j→w.classes[j]?=some c→b33 w j c)
 |[],k,h=>Good.next fun j c hj hc=>by
   have h1:=(List.getElem?_eq_some_iff.1 hc).1
   have h2:=List.drop_eq_nil_iff.1 h.symm
   omega
 |c::l,k,h=>by
  obtain ⟨hc,hl,hlt⟩:=F9 h
  have hlt:=of_decide_eq_true hlt
  rw [V4,aA4]
  simp only [Option.bind_some]
  cases hn:aG5 c.name with
  |false=>simp only [Bool.not_false,cond_true,Option.bind_some]; exact Good.ret (by decide)
  |true =>
   simp only [Bool.not_true,cond_false]
   have hg:(decide (0≤(k:Int)) && decide ((k:Int)≤(w.classes.length:Int)))=true:=by simp only [Bool.and_eq_true,decide_eq_true_eq]; omega
   have step:∀(P:Prop) (y:Option (D5 Int Unit)),((∀d∈w.classes.take k,d.name≠c.name)→Good y P) →
     Good ((bif (decide (0≤(k:Int)) && decide ((k:Int)≤(w.classes.length:Int))) then ((Y5 N c (w.classes.take (k:Int).toNat) 0).bind fun o=>match o with|.ret r=>some (.ret r)|.next ()=>y) else none)) P:=by
    intro P y hy
    rw [hg]
    exact (bQ8 N c _ 0).bind fun hd=>hy (by simpa using hd)
   have rest:∀(P:Prop),b33 w k c→Good (V4 N w aW0 l (k+1)) (∀j c,k≤j→w.classes[j]?=some c→b33 w j c):=fun _ hk =>
    (bP0 N w l (k+1) hl).imp fun ih j d hj hd=>by
     rcases Nat.eq_or_lt_of_le hj with rfl|hj
     ·rw [hc] at hd; cases hd; exact hk
     ·exact ih j d hj hd
   by_cases h4:k < 4
   ·have h4':(k:Int) < 4:=by omega
    obtain ⟨f,hf⟩:∃f,aW0.classes[k]?=some f:=⟨_,List.getElem?_eq_getElem (by simpa [aW0] using h4)⟩
    simp only [h4',decide_true,cond_true,J3,hf,Option.bind_some]
    by_cases he:c.name=f.name
    ·simp only [he,decide_true,Bool.not_true,cond_false]
     refine step _ _ fun hd=>?_
     by_cases h5:c.super=f.super
     ·simp only [h5,decide_true,Bool.not_true,cond_false,Option.bind_some]
      by_cases h6:c.slots < 0
      ·simp only [h6,decide_true,cond_true,Option.bind_some]; exact Good.ret (by decide)
      ·by_cases h7:0 < c.slots
       ·simp only [h6,h7,decide_true,decide_false,cond_true,cond_false,Option.bind_some]; exact Good.ret (by decide)
       ·simp only [h6,h7,decide_false,cond_false,Option.bind_some]
        exact rest True ⟨hn,hd,fun _=>⟨f,hf,he,h5,by omega⟩,fun h=>by omega,by omega,by omega⟩
     ·simp only [h5,decide_false,Bool.not_false,cond_true,Option.bind_some]; exact Good.ret (by decide)
    ·simp only [he,decide_false,Bool.not_false,cond_true]; exact Good.ret (by decide)
   ·have h4':¬(k:Int) < 4:=by omega
    simp only [h4',decide_false,cond_false,Option.bind_some]
    refine step _ _ fun hd=>?_
    by_cases h5:c.super < 0
    ·simp only [h5,decide_true,cond_true,Option.bind_some]; exact Good.ret (by decide)
    by_cases h6:(k:Int)≤c.super
    ·simp only [h5,h6,decide_true,decide_false,cond_true,cond_false,Option.bind_some]; exact Good.ret (by decide)
    have tail:(0 < c.super→4≤c.super)→Good (((bif decide (c.slots < (0:Int)) then some (true) else some (decide ((6:Int) < c.slots))):Option Bool).bind fun v63=>(bif v63 then some (.ret (3:Int)) else V4 N w aW0 l (k+1))) (∀j c,k≤j→w.classes[j]?=some c→b33 w j c):=by
     intro hq
     by_cases h7:c.slots < 0
     ·simp only [h7,decide_true,cond_true,Option.bind_some]; exact Good.ret (by decide)
     ·by_cases h8:6 < c.slots
      ·simp only [h7,h8,decide_true,decide_false,cond_true,cond_false,Option.bind_some]; exact Good.ret (by decide)
      ·simp only [h7,h8,decide_false,cond_false,Option.bind_some]
       exact rest True ⟨hn,hd,fun h=>by omega,fun _=>⟨by omega,by omega,hq⟩,by omega,by omega⟩
    by_cases h7:0 < c.super
    ·by_cases h8:c.super < 4
     ·simp only [h5,h6,h7,h8,decide_true,decide_false,cond_true,cond_false,Option.bind_some]; exact Good.ret (by decide)
     ·simp only [h5,h6,h7,h8,decide_true,decide_false,cond_true,cond_false,Option.bind_some]
      exact tail fun _=>by omega
    ·simp only [h5,h6,h7,decide_false,cond_false,Option.bind_some]
     exact tail fun h=>absurd h h7
def cS4 (k:Nat) (m:Me):Prop:=k=3∧∃p∈aQ1,p.name=m.name∧p.prim=m.prim∧m.args=1∧m.temps=0∧m.code=[]
theorem bQ6 (N:Nat) (k:Nat) (m:Me):∀(l:List Me) (j:Nat) (b:Bool),(∀p∈l,p∈aQ1)→(b=true→cS4 k m)→∃b',Y7 N k m l j b=some b'∧(b'=true→cS4 k m)
 |[],j,b,_,hb=>⟨b,rfl,hb⟩
 |p::l,j,b,hl,hb=>by
  rw [Y7]
  have go:=bQ6 N k m l (j+1)
  have hl':∀p∈l,p∈aQ1:=fun q hq=>hl q (by simp [hq])
  cases b with
  |true=>simp only [cond_true,Option.bind_some]; exact go true hl' (fun _=>hb rfl)
  |false =>
   have gf:=go false hl' (fun h=>by cases h)
   simp only [cond_false]
   by_cases h1:(k:Int)=3
   ·by_cases h2:p.name=m.name
    ·by_cases h3:p.prim=m.prim
     ·by_cases h4:m.args=1
      ·by_cases h5:m.temps=0
       ·by_cases h6:m.code=[]
        ·simp only [h1,h2,h3,h4,h5,h6,decide_true,cond_true,Option.bind_some]
         exact go _ hl' fun _=>⟨by omega,p,hl p (by simp),h2,h3,h4,h5,h6⟩
        ·have h6':¬(m.code.length:Int)=0:=fun e=>h6 (List.eq_nil_of_length_eq_zero (by omega))
         simp only [h1,h2,h3,h4,h5,h6',decide_true,decide_false,cond_true,Option.bind_some]; exact gf
       ·simp only [h1,h2,h3,h4,h5,decide_true,decide_false,cond_true,cond_false,Option.bind_some]; exact gf
      ·simp only [h1,h2,h3,h4,decide_true,decide_false,cond_true,cond_false,Option.bind_some]; exact gf
     ·simp only [h1,h2,h3,decide_true,decide_false,cond_true,cond_false,Option.bind_some]; exact gf
    ·simp only [h1,h2,decide_true,decide_false,cond_true,cond_false,Option.bind_some]; exact gf
   ·simp only [h1,decide_false,cond_false,Option.bind_some]; exact gf
def b63 (N:Nat) (w:Wd) (k:Nat) (m:Me):Prop:=cS4 k m∨∃f,V8 N w (k:Int) m=some f∧f.err=0
theorem bP3 (N:Nat) (w:Wd) (k:Nat) (c:Cl) (hN:4194304≤N) (hs:V7 w) (hc:c∈w.classes):∀(l:List Me) (j:Nat),l=c.methods.drop j →
  Good (U8 N w aW0 k c l j) (∀i m,j≤i→c.methods[i]?=some m→b63 N w k m∧∀p,0 < i→c.methods[i - 1]?=some p→ltS p.name m.name=true)
 |[],j,h=>Good.next fun i m hj hm=>by
   have h1:=(List.getElem?_eq_some_iff.1 hm).1
   have h2:=List.drop_eq_nil_iff.1 h.symm
   omega
 |m::l,j,h=>by
  obtain ⟨hm,hl,hlt⟩:=F9 h
  have hlt:=of_decide_eq_true hlt
  have hml:=(hs.2.2.1 c hc).1
  rw [U8]
  have h3:q9 aW0.classes 3=some ⟨⟨#[73,110,116]⟩,0,0,aQ1⟩:=rfl
  have hcl:=(hs.2.2.1 c hc).2 m (List.mem_of_getElem? hm)
  obtain ⟨b,hb1,hb2⟩:=bQ6 N k m aQ1 0 false (fun p hp=>hp) (fun h=>by cases h)
  obtain ⟨f,hf⟩:=bX1 N w (k:Int) m hN hs.1 hcl
  have tail:(∀p,0 < j→c.methods[j - 1]?=some p→ltS p.name m.name=true)→Good ((q9 aW0.classes (3:Int)).bind fun x100=>((Y7 N k m x100.methods 0 false).bind fun v106=>((V8 N w (k:Int) m).bind fun r125=>(((bif (!v106) then some ((!decide (r125.err=(0:Int)))) else some (false)):Option Bool).bind fun v127=>(bif v127 then some (.ret r125.err) else U8 N w aW0 k c l (j+1))))))
    (∀i m,j≤i→c.methods[i]?=some m→b63 N w k m∧∀p,0 < i→c.methods[i - 1]?=some p→ltS p.name m.name=true):=by
   intro hp
   have rest:b63 N w k m→Good (U8 N w aW0 k c l (j+1)) (∀i m,j≤i→c.methods[i]?=some m→b63 N w k m∧∀p,0 < i→c.methods[i - 1]?=some p→ltS p.name m.name=true):=fun hk =>
    (bP3 N w k c hN hs hc l (j+1) hl).imp fun ih i d hj hd=>by
     rcases Nat.eq_or_lt_of_le hj with rfl|hj
     ·rw [hm] at hd; cases hd; exact ⟨hk,hp⟩
     ·exact ih i d hj hd
   rw [h3]
   simp only [Option.bind_some,hb1,hf]
   cases b with
   |true=>simp only [Bool.not_true,cond_false,Option.bind_some]; exact rest (Or.inl (hb2 rfl))
   |false =>
    simp only [Bool.not_false,cond_true,Option.bind_some]
    by_cases he:f.err=0
    ·simp only [he,decide_true,Bool.not_true,cond_false]; exact rest (Or.inr ⟨f,hf,he⟩)
    ·simp only [he,decide_false,Bool.not_false,cond_true]; exact Good.ret he
  by_cases h0:0 < j
  ·have h0':(0:Int) < (j:Int):=by omega
   have wk:wr ((j:Int) - 1)=((j - 1:Nat):Int):=by rw [H5 (by unfold F5; omega)]; omega
   obtain ⟨p,hp⟩:∃p,c.methods[j - 1]?=some p:=⟨_,List.getElem?_eq_getElem (by omega)⟩
   simp only [h0',decide_true,cond_true,wk,J3,hp,Option.bind_some]
   cases hq:ltS p.name m.name with
   |true=>simp only [Bool.not_true,cond_false]; exact tail fun p' _ hp'=>by rw [hp] at hp'; cases hp'; exact hq
   |false=>simp only [Bool.not_false,cond_true]; exact Good.ret (by decide)
  ·have h0':¬(0:Int) < (j:Int):=by omega
   simp only [h0',decide_false,cond_false,Option.bind_some]
   exact tail fun p hp=>absurd hp h0
theorem dC5 {ms:List Me} (h:∀i m p,0 < i→ms[i]?=some m→ms[i - 1]?=some p→ltS p.name m.name=true):bU3 ms:=by
 have key:∀(d i:Nat) (a b:Me),ms[i]?=some a→ms[i+d+1]?=some b→ltS a.name b.name=true:=by
  intro d
  induction d with
  |zero=>intro i a b ha hb; exact h (i+1) b a (by omega) hb (by simpa using ha)
  |succ d ih =>
   intro i a b ha hb
   have hlt:=(List.getElem?_eq_some_iff.1 hb).1
   obtain ⟨x,hx⟩:∃x,ms[i+d+1]?=some x:=⟨_,List.getElem?_eq_getElem (by omega)⟩
   exact lt_trans (ih i a x ha hx) (h (i+(d+1)+1) b x (by omega) hb (by rw [show i+(d+1)+1 - 1=i+d+1 by omega]; exact hx))
 refine List.pairwise_iff_getElem.2 fun i j hi hj hij=>?_
 refine key (j - i - 1) i _ _ (List.getElem?_eq_getElem hi) ?_
 rw [show i+(j - i - 1)+1=j by omega]
 exact List.getElem?_eq_getElem hj
theorem bP2 (N:Nat) (w:Wd) (hN:4194304≤N) (hs:V7 w):∀(l:List Cl) (k:Nat),l=w.classes.drop k →
  Good (aA8 N w aW0 l k) (∀j c,k≤j→w.classes[j]?=some c→G8 w (j:Int)≤6∧c.methods.length≤8∧bU3 c.methods∧∀m∈c.methods,b63 N w j m)
 |[],k,h=>Good.next fun j c hj hc=>by
   have h1:=(List.getElem?_eq_some_iff.1 hc).1
   have h2:=List.drop_eq_nil_iff.1 h.symm
   omega
 |c::l,k,h=>by
  obtain ⟨hc,hl,hlt⟩:=F9 h
  rw [aA8,aK0 N w _ (by omega) hs.1]
  simp only [Option.bind_some]
  by_cases h1:6 < G8 w (k:Int)
  ·simp only [h1,decide_true,cond_true]; exact Good.ret (by decide)
  by_cases h2:(8:Int) < (c.methods.length:Int)
  ·simp only [h1,h2,decide_true,decide_false,cond_true,cond_false]; exact Good.ret (by decide)
  simp only [h1,h2,decide_false,cond_false]
  refine (bP3 N w k c hN hs (List.mem_of_getElem? hc) c.methods 0 rfl).bind fun hm=>?_
  refine (bP2 N w hN hs l (k+1) hl).imp fun ih j d hj hd=>?_
  rcases Nat.eq_or_lt_of_le hj with rfl|hj
  ·rw [hc] at hd; cases hd
   refine ⟨by omega,by omega,dC5 fun i m p hi hmi hpi=>(hm i m (by omega) hmi).2 p hi hpi,fun m hmm=>?_⟩
   obtain ⟨i,hi⟩:=List.mem_iff_getElem?.1 hmm
   exact (hm i m (by omega) hi).1
  ·exact ih j d hj hd
theorem bP1 (N:Nat) (w:Wd):∀(l:List V) (k:Nat),Good (Y6 N w l k) (∀v∈l,Y1 v (w.heap.length:Int)=0)
 |[],k=>Good.next fun v hv=>by cases hv
 |v::l,k=>by
  rw [Y6,aX0]
  simp only [Option.bind_some]
  by_cases h:Y1 v (w.heap.length:Int)=0
  ·simp only [h,decide_true,Bool.not_true,cond_false]
   exact (bP1 N w l (k+1)).imp fun ih u hu=>by
    rcases List.mem_cons.1 hu with rfl|hu
    ·exact h
    ·exact ih u hu
  ·simp only [h,decide_false,Bool.not_false,cond_true]; exact Good.ret h
def cZ3 (w:Wd) (o:Ob):Prop:=0≤o.cls∧(0 < o.cls→4≤o.cls)∧o.cls < w.classes.length∧(o.slots.length:Int)=G8 w o.cls∧∀v∈o.slots,Y1 v (w.heap.length:Int)=0
theorem bP8 (N:Nat) (w:Wd) (hN:4194304≤N) (hs:V7 w):∀(l:List Ob) (k:Nat),Good (Y8 N w l k) (∀o∈l,cZ3 w o)
 |[],k=>Good.next fun o ho=>by cases ho
 |o::l,k=>by
  rw [Y8]
  have rest:(0≤o.cls∧(0 < o.cls→4≤o.cls)∧o.cls < w.classes.length∧(o.slots.length:Int)=G8 w o.cls)→Good ((Y6 N w o.slots 0).bind fun o=>match o with|.ret r=>some (.ret r)|.next ()=>Y8 N w l (k+1)) (∀x∈o::l,cZ3 w x):=fun h =>
   (bP1 N w o.slots 0).bind fun hv=>(bP8 N w hN hs l (k+1)).imp fun ih x hx=>by
    rcases List.mem_cons.1 hx with rfl|hx
    ·exact ⟨h.1,h.2.1,h.2.2.1,h.2.2.2,hv⟩
    ·exact ih x hx
  by_cases h1:o.cls < 0
  ·simp only [h1,decide_true,cond_true,Option.bind_some]; exact Good.ret (by decide)
  have hsl:=aK0 N w o.cls (by omega) hs.1
  by_cases h2:0 < o.cls
  ·by_cases h3:o.cls < 4
   ·simp only [h1,h2,h3,decide_true,decide_false,cond_true,cond_false,Option.bind_some]; exact Good.ret (by decide)
   ·by_cases h4:(w.classes.length:Int)≤o.cls
    ·simp only [h1,h2,h3,h4,decide_true,decide_false,cond_true,cond_false,Option.bind_some]; exact Good.ret (by decide)
    ·by_cases h5:(o.slots.length:Int)=G8 w o.cls
     ·simp only [h1,h2,h3,h4,hsl,h5,decide_true,decide_false,cond_true,cond_false,Option.bind_some,Bool.not_true]
      exact rest ⟨by omega,fun _=>by omega,by omega,h5⟩
     ·simp only [h1,h2,h3,h4,hsl,h5,decide_true,decide_false,cond_true,cond_false,Option.bind_some,Bool.not_false]; exact Good.ret (by decide)
  ·by_cases h4:(w.classes.length:Int)≤o.cls
   ·simp only [h1,h2,h4,decide_true,decide_false,cond_true,cond_false,Option.bind_some]; exact Good.ret (by decide)
   ·by_cases h5:(o.slots.length:Int)=G8 w o.cls
    ·simp only [h1,h2,h4,hsl,h5,decide_true,decide_false,cond_false,Option.bind_some,Bool.not_true]
     exact rest ⟨by omega,fun h=>absurd h h2,by omega,h5⟩
    ·simp only [h1,h2,h4,hsl,h5,decide_false,cond_true,cond_false,Option.bind_some,Bool.not_false]; exact Good.ret (by decide)
structure aE2 (N:Nat) (w:Wd):Prop where
 many:4≤w.classes.length∧w.classes.length≤12∧w.heap.length≤60
 epoch:0≤w.epoch∧w.epoch≤1073741824
 cls:∀(j:Nat) c,w.classes[j]?=some c→b33 w j c
 meth:∀(j:Nat) c,w.classes[j]?=some c→G8 w (j:Int)≤6∧c.methods.length≤8∧bU3 c.methods∧∀m∈c.methods,b63 N w j m
 obj:∀o∈w.heap,cZ3 w o
theorem Good.end_ {x:Option (D5 Int Unit)} {P:Prop} {y:Option Int} {Q:Prop} (h:Good x P) (hy:P→∃r,y=some r∧(r=0→Q)):∃r,(x.bind fun o=>match o with|.ret r=>some r|.next ()=>y)=some r∧(r=0→Q):=by
 obtain ⟨o,rfl,h1,h2⟩:=h
 cases o with
 |ret r=>exact ⟨r,rfl,fun e=>absurd e (h1 r rfl)⟩
 |next u=>exact hy (h2 rfl)
theorem cQ0 (N:Nat) (w:Wd) (hN:4194304≤N) (hs:V7 w):∃r,aQ6 N w=some r∧(r=0→aE2 N w):=by
 unfold aQ6 bC1
 simp only [Option.bind_some]
 by_cases h1:(w.classes.length:Int) < 4
 ·exact ⟨5,by simp [h1],fun h=>by cases h⟩
 by_cases h2:(12:Int) < (w.classes.length:Int)
 ·exact ⟨5,by simp [h1,h2],fun h=>by cases h⟩
 by_cases h3:(60:Int) < (w.heap.length:Int)
 ·exact ⟨5,by simp [h1,h2,h3],fun h=>by cases h⟩
 by_cases h4:w.epoch < 0
 ·exact ⟨3,by simp [h1,h2,h3,h4],fun h=>by cases h⟩
 by_cases h5:1073741824 < w.epoch
 ·exact ⟨3,by simp [h1,h2,h3,h4,h5],fun h=>by cases h⟩
 simp only [h1,h2,h3,h4,h5,decide_false,cond_false,Option.bind_some]
 refine (bP0 N w w.classes 0 rfl).end_ fun c1=>?_
 refine (bP2 N w hN hs w.classes 0 rfl).end_ fun c3=>?_
 refine (bP8 N w hN hs w.heap 0).end_ fun c6=>?_
 exact ⟨0,rfl,fun _=>⟨by omega,by omega,fun j c hc=>c1 j c (by omega) hc,fun j c hc=>c3 j c (by omega) hc,c6⟩⟩
theorem aE2.rise {N:Nat} {w:Wd} (h:aE2 N w):aY1 w:=fun c hc=>by
 obtain ⟨i,hi⟩:=List.mem_iff_getElem?.1 hc
 exact (h.meth i c hi).2.2.1
end Go.Proofs.Ytahmeibkdhbngaa
namespace Go.Proofs.Ytahmeibkdhbngaa
open Go.RowKit
set_option linter.unusedVariables false
theorem c02 {w:Wd} (h:b81 w≤1048576):V7 w:=by
 unfold b81 at h
 have h1:=bC9 (bk:=bM7) (fun a=>c60 a) w.classes
 have h2:=bC9 (bk:=bO9) (fun a=>c25 a) w.heap
 refine ⟨by omega,by omega,fun c hc=>?_,fun o ho=>?_⟩
 ·have h3:=b79 (bk:=bM7) hc
  have e3:bM7 c=bkS c.name+bkI c.super+bkI c.slots+(bkL bK0) c.methods+1:=rfl
  have h4:=bC9 (bk:=bK0) (fun a=>c06 a) c.methods
  refine ⟨by omega,fun m hm=>?_⟩
  have h5:=b79 (bk:=bK0) hm
  have e5:bK0 m=bkS m.name+bkI m.args+bkI m.temps+bkI m.prim+(bkL bI7) m.code+1:=rfl
  have h6:=bC9 (bk:=bI7) (fun a=>cX7 a) m.code
  omega
 ·have h3:=b79 (bk:=bO9) ho
  have e3:bO9 o=bkI o.cls+(bkL bkV) o.slots+1:=rfl
  have h4:=bC9 (bk:=bkV) (fun a=>dB0 a) o.slots
  omega
end Go.Proofs.Ytahmeibkdhbngaa
namespace Go.Proofs.Ytahmeibkdhbngaa
open Go.RowKit
set_option linter.unusedVariables false
def aR8 (c:Int):List Ln→List Ln×Bool
 |[]=>([],false)
 |x::l=>if x.cls=c then (⟨x.cls,wr (x.found+1)⟩::l,true) else (x::(aR8 c l).1,(aR8 c l).2)
def bW3 (c:Int) (l:List Ln):List Ln:=if (aR8 c l).2=true then (aR8 c l).1 else (aR8 c l).1++[⟨c,1⟩]
def aN2 (s:St) (c:Int):List Tl→List Tl×Bool
 |[]=>([],false)
 |x::l=>if x.site=s then (⟨x.site,bW3 c x.classes⟩::l,true) else (x::(aN2 s c l).1,(aN2 s c l).2)
def bM3 (s:St) (c:Int) (l:List Tl):List Tl:=if (aN2 s c l).2=true then (aN2 s c l).1 else (aN2 s c l).1++[⟨s,[⟨c,1⟩]⟩]
theorem cD2 (c:Int):∀l,(aR8 c l).1.length=l.length
 |[]=>rfl
 |x::l=>by
  unfold aR8
  split
  ·rfl
  ·simp [cD2 c l]
theorem cV5 (c:Int) (l:List Ln):(bW3 c l).length≤l.length+1:=by
 unfold bW3
 have:=cD2 c l
 split<;>simp<;>omega
theorem cA6 (s:St) (c:Int):∀l,(aN2 s c l).1.length=l.length
 |[]=>rfl
 |x::l=>by
  unfold aN2
  split
  ·rfl
  ·simp [cA6 s c l]
theorem cP1 (c:Int) (l:List Ln):aU6 c l=bW3 c l:=by
 unfold aU6 bW3 ixd
 have key:∀l:List Ln,(match l.findIdx? (fun x=>decide (x.cls=c)) with|some k=>(aR8 c l).2=true∧l.modify k (fun x=>⟨x.cls,wr (x.found+1)⟩)=(aR8 c l).1|none=>(aR8 c l).2=false∧(aR8 c l).1=l):=by
  intro l
  induction l with
  |nil=>exact ⟨rfl,rfl⟩
  |cons x l ih =>
   rw [List.findIdx?_cons]
   by_cases hc:x.cls=c
   ·simp [hc,aR8]
   ·simp only [hc,decide_false,Bool.false_eq_true,if_false,aR8]
    cases hf:l.findIdx? (fun x=>decide (x.cls=c)) with
    |none=>rw [hf] at ih; exact ⟨ih.1,by rw [ih.2]⟩
    |some k=>rw [hf] at ih; exact ⟨ih.1,by simp only [List.modify_succ_cons]; rw [ih.2]⟩
 have:=key l
 cases hf:l.findIdx? (fun x=>decide (x.cls=c)) with
 |some k=>rw [hf] at this; simp only [this.1,if_true]; exact this.2
 |none =>
  rw [hf] at this
  have w1:wr ((0:Int)+1)=1:=by decide
  simp only [this.1,this.2,if_false,Bool.false_eq_true]
  have hm:∀(l:List Ln) (y:Ln) (f:Ln→Ln),(l++[y]).modify l.length f=l++[f y]:=by
   intro l y f
   induction l with
   |nil=>rfl
   |cons a l ih=>simp only [List.cons_append,List.length_cons,List.modify_succ_cons,ih]
  rw [hm,w1]
theorem dD3 (s:St) (c:Int) (l:List Tl):cL3 s c l=bM3 s c l:=by
 unfold cL3 bM3 ixd
 have key:∀l:List Tl,(match l.findIdx? (fun x=>decide (x.site=s)) with|some k=>(aN2 s c l).2=true∧l.modify k (fun x=>⟨x.site,aU6 c x.classes⟩)=(aN2 s c l).1|none=>(aN2 s c l).2=false∧(aN2 s c l).1=l):=by
  intro l
  induction l with
  |nil=>exact ⟨rfl,rfl⟩
  |cons x l ih =>
   rw [List.findIdx?_cons]
   by_cases hc:x.site=s
   ·simp [hc,aN2,cP1]
   ·simp only [hc,decide_false,Bool.false_eq_true,if_false,aN2]
    cases hf:l.findIdx? (fun x=>decide (x.site=s)) with
    |none=>rw [hf] at ih; exact ⟨ih.1,by rw [ih.2]⟩
    |some k=>rw [hf] at ih; exact ⟨ih.1,by simp only [List.modify_succ_cons]; rw [ih.2]⟩
 have:=key l
 cases hf:l.findIdx? (fun x=>decide (x.site=s)) with
 |some k=>rw [hf] at this; simp only [this.1,if_true]; exact this.2
 |none =>
  rw [hf] at this
  simp only [this.1,this.2,if_false,Bool.false_eq_true]
  have hm:∀(l:List Tl) (y:Tl) (f:Tl→Tl),(l++[y]).modify l.length f=l++[f y]:=by
   intro l y f
   induction l with
   |nil=>rfl
   |cons a l ih=>simp only [List.cons_append,List.length_cons,List.modify_succ_cons,ih]
  rw [hm,cP1]
  rfl
theorem cM6 (N:Nat) (l:List Tl) (s:St) (c:Int) (hl:∀t∈l,t.classes.length≤1099511627776) (h:l.length≤1099511627776):a14 N l s c=some (bM3 s c l):=by
 unfold a14
 have e:(Nat.ble ((l.length+1)*56) 140737488355328 && l.all fun t=>Nat.ble ((t.classes.length+1)*16) 140737488355328)=true:=by
  rw [Bool.and_eq_true,List.all_eq_true]
  exact ⟨H7 (by omega),fun t ht=>H7 (by have:=hl t ht; omega)⟩
 rw [e,dD3]
 rfl
theorem bT0 (N:Nat) {l:List Ln} (h:l.length≤1099511627776):O6 N l=some l:=by
 unfold O6
 rw [H7 (by omega)]
 rfl
theorem bH7 (N:Nat):∀(l:List Tl) (k:Nat) (acc:List Tl),(∀t∈l,t.classes.length≤1099511627776)→acc.length+l.length≤1099511627776→aD6 N l k acc=some (acc++l)
 |[],k,acc,_,_=>by simp [aD6]
 |x::l,k,acc,h,hl=>by
  rw [aD6,bT0 N (h x (by simp))]
  simp only [Option.bind_some]
  rw [H7 (by simp at hl ⊢; omega)]
  simp only [cond_true]
  rw [bH7 N l (k+1) _ (fun o ho=>h o (by simp [ho])) (by simp at hl ⊢; omega)]
  simp
theorem cF8 (N:Nat) {l:List Tl} (h:∀t∈l,t.classes.length≤1099511627776) (hl:l.length≤1099511627776):a13 N l=some l:=by
 unfold a13
 rw [bH7 N l 0 [] h (by simpa using hl)]
 rfl
end Go.Proofs.Ytahmeibkdhbngaa
namespace Go.Proofs.Ytahmeibkdhbngaa
open Go.RowKit
set_option linter.unusedVariables false
def bC2 (c:Int):List Ln→Int
 |[]=>-1
 |y::l=>if y.cls=c then y.found else bC2 c l
def aE6 (s:St) (e c:Int):List Ce→Int
 |[]=>-1
 |x::l=>if x.site=s then (if x.epoch=e then bC2 c x.lines else -1) else aE6 s e c l
theorem cW9 (N:Nat) (s:St):∀(l:List Ce) (k:Nat),D7 N (fun x=>aB8 N x s) l k=some (match l.findIdx? (fun t=>decide (t.site=s)) with|some i=>.ret ((k+i:Nat):Int)|none=>.next ())
 |[],k=>rfl
 |x::l,k=>by
  rw [D7,aU8,cW9 N s l (k+1)]
  unfold aB8
  rw [aV5]
  by_cases e:x.site=s
  ·simp [e]
  ·cases l.findIdx? (fun t=>decide (t.site=s))<;>simp [e]; omega
theorem b85 (N:Nat) (l:List Ce) (s:St):aK5 N l s=some (ixf (fun t=>decide (t.site=s)) l):=by
 unfold aK5 K5 ixf
 rw [cW9]
 cases l.findIdx? (fun t=>decide (t.site=s))<;>simp
theorem bI3 (N:Nat) (c:Int):∀(l:List Ln) (k:Nat),∃o,aH5 N c l k=some o∧(match o with|.ret r=>r|.next ()=>-1)=bC2 c l
 |[],k=>⟨.next (),rfl,rfl⟩
 |y::l,k=>by
  rw [aH5,bC2]
  by_cases h:y.cls=c
  ·exact ⟨.ret y.found,by simp [h],by simp [h]⟩
  ·obtain ⟨o,h1,h2⟩:=bI3 N c l (k+1)
   exact ⟨o,by simp [h,h1],by rw [if_neg h]; exact h2⟩
theorem cM5 (s:St) (e c:Int):∀l:List Ce,aE6 s e c l=match l.findIdx? (fun t=>decide (t.site=s)) with
   |some i=>(match l[i]? with|some x=>(if x.epoch=e then bC2 c x.lines else -1)|none=>-1)|none=>-1
 |[]=>rfl
 |x::l=>by
  rw [aE6,aU8]
  by_cases h:x.site=s
  ·simp [h]
  ·simp only [h,decide_false,Bool.false_eq_true,if_false]
   rw [cM5 s e c l]
   cases l.findIdx? (fun t=>decide (t.site=s))<;>simp
theorem cI3 (N:Nat) (l:List Ce) (s:St) (e c:Int):a90 N l s e c=some (aE6 s e c l):=by
 unfold a90
 rw [b85,cM5]
 simp only [Option.bind_some]
 rcases bW8 (fun t:Ce=>decide (t.site=s)) l with ⟨k,x,e1,e2,e3,e4⟩|⟨e1,e2⟩
 ·rw [e1,e4]
  have h0:¬((k:Int) < 0):=by omega
  simp only [h0,decide_false,cond_false,J3,e2,Option.bind_some]
  by_cases he:x.epoch=e
  ·obtain ⟨o,h1,h2⟩:=bI3 N c x.lines 0
   simp only [he,decide_true,Bool.not_true,cond_false,h1,Option.bind_some,if_true,←h2]
   cases o<;>rfl
  ·simp [he]
 ·rw [e1,e2]
  simp
def cK8 (l:List Ce):Prop:=l.length≤1099511627776∧∀x∈l,x.lines.length≤1099511627776
def bA3 (s:St) (e c f:Int):List Ce→List Ce
 |[]=>[bA9 e c f ⟨s,e,false,[]⟩]
 |x::l=>if x.site=s then bA9 e c f x::l else x::bA3 s e c f l
theorem cL6 (N:Nat) (l:List Ce) (s:St) (e c f:Int) (h:cK8 l):a92 N l s e c f=some (bA3 s e c f l):=by
 unfold a92
 have hg:(Nat.ble ((l.length+1)*72) 140737488355328 && l.all fun t=>Nat.ble ((t.lines.length+1)*16) 140737488355328)=true:=by
  rw [Bool.and_eq_true,List.all_eq_true]
  exact ⟨H7 (by have:=h.1; omega),fun t ht=>H7 (by have:=h.2 t ht; omega)⟩
 rw [hg]
 simp only [cond_true]
 congr 1
 clear hg h
 unfold ixd
 induction l with
 |nil=>rfl
 |cons x l ih =>
  rw [aU8,bA3]
  by_cases hs:x.site=s
  ·simp [hs]
  ·simp only [hs,decide_false,Bool.false_eq_true,if_false]
   rw [←ih]
   cases l.findIdx? (fun t=>decide (t.site=s)) with
   |none=>simp
   |some i=>simp
theorem bR0 (N:Nat) {l:List Ln} (h:l.length≤1099511627776):O6 N l=some l:=by
 unfold O6
 rw [H7 (by omega)]
 rfl
theorem bH3 (N:Nat):∀(l:List Ce) (k:Nat) (acc:List Ce),(∀t∈l,t.lines.length≤1099511627776)→acc.length+l.length≤1099511627776→aE1 N l k acc=some (acc++l)
 |[],k,acc,_,_=>by simp [aE1]
 |x::l,k,acc,h,hl=>by
  rw [aE1,bR0 N (h x (by simp))]
  simp only [Option.bind_some]
  rw [H7 (by simp at hl ⊢; omega)]
  simp only [cond_true]
  rw [bH3 N l (k+1) _ (fun o ho=>h o (by simp [ho])) (by simp at hl ⊢; omega)]
  simp
theorem bT4 (N:Nat) {l:List Ce} (h:cK8 l):aQ8 N l=some l:=by
 unfold aQ8
 rw [bH3 N l 0 [] h.2 (by simpa using h.1)]
 rfl
def aR0 (w:Wd) (s:St) (c:Int) (name:ByteArray) (l:List Ce):List Ce×Int×Int×Bool :=
 if 0≤aE6 s w.epoch c l∧aE6 s w.epoch c l < w.classes.length then (l,(F3 w name (aE6 s w.epoch c l)).1,(F3 w name (aE6 s w.epoch c l)).2,true)
 else if (F3 w name c).2 < 0 then (l,(F3 w name c).1,(F3 w name c).2,false)
 else (bA3 s w.epoch c (F3 w name c).1 l,(F3 w name c).1,(F3 w name c).2,false)
theorem cF2 (N:Nat) (l:List Ce) (w:Wd) (s:St) (c:Int) (name:ByteArray) (hN:1048578≤N) (hw:aY1 w) (hs:V7 w) (hl:cK8 l):aX5 N l w s c name=some (aR0 w s c name l):=by
 unfold aX5 aR0
 rw [cI3]
 simp only [Option.bind_some,bQ4 N w _ name hN hw hs,bT4 N hl,cL6 N l s _ _ _ hl]
 by_cases h0:0≤aE6 s w.epoch c l
 ·by_cases h1:aE6 s w.epoch c l < w.classes.length
  ·simp [h0,h1]
  ·by_cases h2:(F3 w name c).2 < 0<;>simp [h0,h1,h2]
 ·by_cases h2:(F3 w name c).2 < 0<;>simp [h0,h2]
theorem bY1 {w:Wd} {s:ByteArray}:∀{n:Nat} {c:Int} {p:Int×Int},aA7 w s n c=some p→∀m,aA7 w s (m+1) p.1=some p
 |0,c,p,h,m=>by cases h
 |n+1,c,p,h,m=>by
  rw [aA7] at h
  by_cases h0:0≤c
  ·rw [if_pos h0] at h
   cases hx:w.classes[c.toNat]? with
   |none=>rw [hx] at h; cases h
   |some x =>
    rw [hx] at h
    simp only at h
    cases hi:ixN s x.methods with
    |none=>rw [hi] at h; exact bY1 h m
    |some i =>
     rw [hi] at h
     cases h
     rw [aA7,if_pos h0,hx]
     simp only [hi]
  ·rw [if_neg h0] at h; cases h
theorem cN2 {w:Wd} {s:ByteArray} {c:Int} (h:0≤(F3 w s c).2):F3 w s (F3 w s c).1=F3 w s c:=by
 unfold F3 at h ⊢
 cases hf:aA7 w s (w.classes.length+1) c with
 |none=>rw [hf] at h; exact absurd h (by decide)
 |some p =>
  rw [Option.getD_some,bY1 hf (w.classes.length),Option.getD_some]
end Go.Proofs.Ytahmeibkdhbngaa
namespace Go.Proofs.Ytahmeibkdhbngaa
open Go.RowKit
set_option linter.unusedVariables false
end Go.Proofs.Ytahmeibkdhbngaa
