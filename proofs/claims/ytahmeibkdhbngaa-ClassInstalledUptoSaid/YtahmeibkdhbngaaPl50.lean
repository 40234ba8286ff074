import Derived.Test.YtahmeibkdhbngaaPl15
/- Classes: Make and Install, plainly. No program in sight. -/
namespace Go.Proofs.Ytahmeibkdhbngaa
open Go.RowKit
set_option linter.unusedVariables false
def L9 (m:Me):List Me→List Me
 |[]=>[m]
 |x::r=>if x.name=m.name then m::r else if G6 m.name x.name=true then m::x::r else x::L9 m r
theorem bM6 (m:Me):∀(ms:List Me) (v:Nat),aH0 ms→v≤ms.length→(∀i x,i < v→ms[i]?=some x→G6 x.name m.name=true)→(∀i x,v≤i→ms[i]?=some x→G6 x.name m.name=false) →
  L9 m ms=if (I7 m.name ms).isSome=true then ms.set v m else ms.take v++m::ms.drop v
 |[],v,_,h,_,_=>by simp [L9,I7]
 |x::r,0,hr,_,_,h2=>by
  have hx:=h2 0 x (Nat.le_refl _) rfl
  by_cases e:x.name=m.name
  ·simp [L9,I7,e]
  ·have hlt:G6 m.name x.name=true:=by
    cases q:G6 m.name x.name with
    |true=>rfl
    |false=>exact absurd (bT6 hx q) e
   have hn:(I7 m.name (x::r)).isSome=false:=by
    cases q:I7 m.name (x::r) with
    |none=>rfl
    |some j =>
     obtain ⟨m',q1,q2⟩:=aC0 q
     cases j with
     |zero=>cases q1; exact absurd q2 e
     |succ j =>
      have:=aH6 hr (i:=0) (j:=j+1) rfl q1 (by omega)
      rw [q2,hx] at this; cases this
   simp only [hn]
   rw [L9,if_neg e,if_pos hlt]
   rfl
 |x::r,v+1,hr,h,h1,h2=>by
  have hx:=h1 0 x (Nat.succ_pos _) rfl
  have e:x.name≠m.name:=b88 hx
  have ih:=bM6 m r v (List.pairwise_cons.1 hr).2 (by simpa using h) (fun i y hi hy=>h1 (i+1) y (by omega) (by simpa using hy)) (fun i y hi hy=>h2 (i+1) y (by omega) (by simpa using hy))
  rw [L9,if_neg e,if_neg (by rw [b23 hx]; decide),ih]
  have:(I7 m.name (x::r)).isSome=(I7 m.name r).isSome:=by
   rw [I7,if_neg e]; cases I7 m.name r<;>rfl
  rw [this]
  by_cases q:(I7 m.name r).isSome=true
  ·simp [q]
  ·simp [q]
def aX0 (w:Wd) (c:Int) (m:Me):Wd×Int :=
 if 0≤c then (match w.classes[c.toNat]? with
  |none=>(⟨[],[],0⟩,6)
  |some x=>if (I7 m.name x.methods).isSome=false∧8≤x.methods.length then (⟨[],[],0⟩,5)
   else (⟨w.classes.set c.toNat ⟨x.name,x.super,x.slots,L9 m x.methods⟩,w.heap,wr (w.epoch+1)⟩,0)) else (⟨[],[],0⟩,6)
theorem a05 (N:Nat) (w:Wd) (c:Int) (m:Me) (hN:1048578≤N) (hs:aD1 w) (hw:bA8 w) (hm:m.code.length≤1048576):U6 N w c m=some (aX0 w c m):=by
 unfold U6 aX0
 by_cases h1:c < 0
 ·have:¬0≤c:=by omega
  simp [h1,this]
 have h1':0≤c:=by omega
 by_cases h2:(w.classes.length:Int)≤c
 ·have:w.classes[c.toNat]?=none:=List.getElem?_eq_none (by omega)
  simp [h1,h1',h2,this]
 obtain ⟨x,hx,hx'⟩:=aX4 (l:=w.classes) h1' (by omega)
 have hmem:=List.mem_of_getElem? hx
 obtain ⟨v,b1,b2,b3,b4,b5⟩:=a94 N x.methods m.name (by omega) (hs.2.2.1 x hmem).1 (hw x hmem)
 have hp:=bM6 m x.methods v (hw x hmem) b3 b4 b5
 have hc:c.toNat < w.classes.length:=by omega
 simp only [h1,h1',h2,hx,hx',b1,decide_false,cond_false,Option.bind_some,if_true,bE1 N w hs,aN8 N m hm]
 cases hi:(I7 m.name x.methods).isSome with
 |true =>
  obtain ⟨i,hi'⟩:=Option.isSome_iff_exists.1 hi
  obtain ⟨y,y1,_⟩:=aC0 hi'
  have hv:v=i:=by have:=b2 i hi'; omega
  subst hv
  rw [hi] at hp
  simp only [Bool.not_true,cond_false,Option.bind_some,hx,K4,y1]
  simp [hp]
 |false =>
  have hl:=(hs.2.2.1 x hmem).1
  rw [hi] at hp
  by_cases h8:8≤x.methods.length
  ·have h8':(8:Int)≤(x.methods.length:Int):=by omega
   simp [h8,h8']
  ·have h8':¬(8:Int)≤(x.methods.length:Int):=by omega
   have hins:T9 N x.methods (v:Int) [(⟨ByteArray.empty,(0:Int),(0:Int),(0:Int),[]⟩:Me)]=some (x.methods.take v++(⟨ByteArray.empty,0,0,0,[]⟩:Me)::x.methods.drop v):=by
    unfold T9
    rw [Z4 (by omega)]
    have:(v:Int)≤(x.methods.length:Int):=by omega
    simp [this]
   simp only [hins,h8,h8',Bool.not_false,cond_true,cond_false,decide_false,Option.bind_some,and_false,if_false]
   have g:(w.classes.set c.toNat (⟨x.name,x.super,x.slots,x.methods.take v++(⟨ByteArray.empty,0,0,0,[]⟩:Me)::x.methods.drop v⟩:Cl))[c.toNat]?=some (⟨x.name,x.super,x.slots,x.methods.take v++(⟨ByteArray.empty,0,0,0,[]⟩:Me)::x.methods.drop v⟩:Cl):=by
    rw [List.getElem?_set_self hc]
   have g2:C9 (x.methods.take v++(⟨ByteArray.empty,0,0,0,[]⟩:Me)::x.methods.drop v) (v:Int)=some (⟨ByteArray.empty,0,0,0,[]⟩:Me):=by
    rw [K4,List.getElem?_append_right (by simp; omega)]
    simp [Nat.min_eq_left b3]
   have g3:(x.methods.take v++(⟨ByteArray.empty,0,0,0,[]⟩:Me)::x.methods.drop v).set v m=x.methods.take v++m::x.methods.drop v:=by
    rw [List.set_append_right _ _ (by simp; omega)]
    simp [Nat.min_eq_left b3]
   simp only [g,g2,Option.bind_some,List.set_set,Int.toNat_natCast,g3,hp,Bool.false_eq_true,if_false]
end Go.Proofs.Ytahmeibkdhbngaa
