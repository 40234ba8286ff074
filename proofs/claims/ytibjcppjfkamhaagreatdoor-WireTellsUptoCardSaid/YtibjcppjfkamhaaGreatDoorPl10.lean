import Derived.Test.YtibjcppjfkamhaaGreatDoorMir
import Derived.Test.YtibjcppjfkamhaaGreatDoorOk
/- Plain laws of the mirrors: the same, own copies. No program in sight. -/
namespace Go.Proofs.YtibjcppjfkamhaaGreatDoor
open Go.RowKit
set_option linter.unusedVariables false
theorem bD3 (a b:V):aI1 (eV a) (eV b)=decide (a=b):=eqV a b
theorem a15 (a b:St):aI1 (eSt a) (eSt b)=decide (a=b):=c05 a b
theorem a81 (a b:Ln):aI1 (eLn a) (eLn b)=decide (a=b):=cZ3 a b
theorem aX2 (a b:Ins):aI1 (aG9 a) (aG9 b)=decide (a=b):=cY2 a b
theorem aW9 {α:Type} {l:List α} {k n:Nat} (h:n+1=(l.drop k).length):∃y,l[k]?=some y∧l.drop k=y::l.drop (k+1)∧n=(l.drop (k+1)).length:=by
 rw [List.length_drop] at h
 have hk:k < l.length:=by omega
 refine ⟨l[k],List.getElem?_eq_getElem hk,List.drop_eq_getElem_cons hk,by rw [List.length_drop]; omega⟩
theorem aX4 {α:Type} {l:List α} {k:Nat} (h:0=(l.drop k).length):l.drop k=[]:=List.eq_nil_of_length_eq_zero h.symm
theorem bK0 (N:Nat) (b:List Ins):∀(l:List Ins) (k:Nat),l.length=(b.drop k).length→Q5 N b l k=some (if l=b.drop k then .next () else .ret false)
 |[],k,h=>by rw [aX4 h]; rfl
 |x::l,k,h=>by
  obtain ⟨y,hy,hd,hl⟩:=aW9 h
  rw [hd,Q5]
  simp only [Option.bind_some,Option.bind_none,cond_true,cond_false,Bool.cond_decide,bD3,a15,a81,aX2,Bool.not_true,Bool.not_false,K4,hy,bK0 N b l (k+1) hl]
  by_cases e:x=y<;>simp [e]
theorem b74 (N:Nat) (a b:List Ins):aF3 N a b=some (decide (a=b)):=by
 unfold aF3
 by_cases h:a.length=b.length
 ·rw [bK0 N b a 0 (by simpa using h)]
  by_cases e:a=b<;>simp [h,e]
 ·have:a≠b:=fun e=>h (by rw [e])
  have h':¬((a.length:Int)=b.length):=by omega
  simp [this,h']
theorem bD9 (N:Nat) (b:Wd) (i:Nat) (o:Ob) (ho:b.heap[i]?=some o):∀(l:List V) (k:Nat),l.length=(o.slots.drop k).length→P5 N b i l k=some (if l=o.slots.drop k then .next () else .ret false)
 |[],k,h=>by rw [aX4 h]; rfl
 |x::l,k,h=>by
  obtain ⟨y,hy,hd,hl⟩:=aW9 h
  rw [hd,P5]
  simp only [Option.bind_some,Option.bind_none,cond_true,cond_false,Bool.cond_decide,bD3,a15,a81,aX2,Bool.not_true,Bool.not_false,K4,hy,ho,bD9 N b i o ho l (k+1) hl]
  by_cases e:x=y<;>simp [e]
theorem bG0 (N:Nat) (b:Wd):∀(l:List Ob) (k:Nat),l.length=(b.heap.drop k).length→P6 N b l k=some (if l=b.heap.drop k then .next () else .ret false)
 |[],k,h=>by rw [aX4 h]; rfl
 |x::l,k,h=>by
  obtain ⟨y,hy,hd,hl⟩:=aW9 h
  rw [hd,P6]
  simp only [Option.bind_some,Option.bind_none,cond_true,cond_false,Bool.cond_decide,bD3,a15,a81,aX2,Bool.not_true,Bool.not_false,K4,hy,bG0 N b l (k+1) hl]
  obtain ⟨xc,xs⟩:=x
  obtain ⟨yc,ys⟩:=y
  by_cases e1:xc=yc
  ·by_cases e2:xs.length=ys.length
   ·have:=bD9 N b k ⟨yc,ys⟩ hy xs 0 (by simpa using e2)
    simp only [List.drop_zero] at this
    by_cases e3:xs=ys
    ·subst e3; simp [e1,this]
    ·simp [e1,e2,e3,this]
   ·have e3:xs≠ys:=fun e=>e2 (by rw [e])
    have e2':¬((xs.length:Int)=ys.length):=by omega
    simp [e1,e2',e3]
  ·simp [e1]
theorem bD8 (N:Nat) (c:Cl):∀(l:List Me) (k:Nat),l.length=(c.methods.drop k).length→O9 N c l k=some (if l=c.methods.drop k then .next () else .ret false)
 |[],k,h=>by rw [aX4 h]; rfl
 |x::l,k,h=>by
  obtain ⟨y,hy,hd,hl⟩:=aW9 h
  rw [hd,O9]
  simp only [Option.bind_some,Option.bind_none,cond_true,cond_false,Bool.cond_decide,bD3,a15,a81,aX2,Bool.not_true,Bool.not_false,K4,hy,bD8 N c l (k+1) hl,b74]
  obtain ⟨x1,x2,x3,x4,x5⟩:=x
  obtain ⟨y1,y2,y3,y4,y5⟩:=y
  by_cases e1:x1=y1
  ·by_cases e2:x2=y2
   ·by_cases e3:x3=y3
    ·by_cases e4:x4=y4
     ·by_cases e5:x5=y5<;>simp [e1,e2,e3,e4,e5]
     ·simp [e1,e2,e3,e4]
    ·simp [e1,e2,e3]
   ·simp [e1,e2]
  ·simp [e1]
theorem bF3 (N:Nat) (b:Wd):∀(l:List Cl) (k:Nat),l.length=(b.classes.drop k).length→P7 N b l k=some (if l=b.classes.drop k then .next () else .ret false)
 |[],k,h=>by rw [aX4 h]; rfl
 |x::l,k,h=>by
  obtain ⟨y,hy,hd,hl⟩:=aW9 h
  rw [hd,P7]
  simp only [Option.bind_some,Option.bind_none,cond_true,cond_false,Bool.cond_decide,bD3,a15,a81,aX2,Bool.not_true,Bool.not_false,K4,hy,bF3 N b l (k+1) hl]
  obtain ⟨x1,x2,x3,x4⟩:=x
  obtain ⟨y1,y2,y3,y4⟩:=y
  by_cases e1:x1=y1
  ·by_cases e2:x2=y2
   ·by_cases e3:x3=y3
    ·by_cases e4:x4.length=y4.length
     ·have:=bD8 N ⟨y1,y2,y3,y4⟩ x4 0 (by simpa using e4)
      simp only [List.drop_zero] at this
      by_cases e5:x4=y4
      ·subst e5; simp [e1,e2,e3,this]
      ·simp [e1,e2,e3,e4,e5,this]
     ·have e5:x4≠y4:=fun e=>e4 (by rw [e])
      have e4':¬((x4.length:Int)=y4.length):=by omega
      simp [e1,e2,e3,e4',e5]
    ·simp [e1,e2,e3]
   ·simp [e1,e2]
  ·simp [e1]
theorem aV7 (N:Nat) (a b:Wd):aE3 N a b=some (decide (a=b)):=by
 unfold aE3
 obtain ⟨a1,a2,a3⟩:=a
 obtain ⟨b1,b2,b3⟩:=b
 by_cases e3:a3=b3
 ·by_cases h1:a1.length=b1.length
  ·by_cases h2:a2.length=b2.length
   ·have r1:=bF3 N ⟨b1,b2,b3⟩ a1 0 (by simpa using h1)
    have r2:=bG0 N ⟨b1,b2,b3⟩ a2 0 (by simpa using h2)
    simp only [List.drop_zero] at r1 r2
    by_cases e1:a1=b1
    ·subst e1
     by_cases e2:a2=b2
     ·subst e2; simp [e3,r1,r2]
     ·simp [e2,e3,h2,r1,r2]
    ·simp [e1,e3,h1,h2,r1]
   ·have e2:a2≠b2:=fun e=>h2 (by rw [e])
    have h2':¬((a2.length:Int)=b2.length):=by omega
    simp [e2,e3,h1,h2']
  ·have e1:a1≠b1:=fun e=>h1 (by rw [e])
   have h1':¬((a1.length:Int)=b1.length):=by omega
   simp [e1,e3,h1']
 ·simp [e3]
end Go.Proofs.YtibjcppjfkamhaaGreatDoor
namespace Go.Proofs.YtibjcppjfkamhaaGreatDoor
open Go.RowKit
set_option linter.unusedVariables false
theorem aY1 {a b:Nat} (h:a≤b):Nat.ble a b=true:=by rw [Nat.ble_eq]; exact h
theorem bM3 {α:Type} {l:List α} {i:Int} (h:¬(i < l.length)):l[i.toNat]?=none:=List.getElem?_eq_none (by omega)
theorem aY3 {α:Type} {l:List α} {i:Int} (h:0≤i):F5 l i=l[i.toNat]?:=by
 unfold F5; rw [decide_eq_true h]; rfl
theorem bH8 {α:Type} {l:List α} {i:Int} (h:0≤i) (h2:i < l.length):∃x,l[i.toNat]?=some x∧F5 l i=some x:=by
 have hl:i.toNat < l.length:=by omega
 exact ⟨l[i.toNat],List.getElem?_eq_getElem hl,by rw [aY3 h,List.getElem?_eq_getElem hl]⟩
def aS5 (v:V) (n:Int):Int :=
 if v.k=0∨v.k=1∨v.k=2 then (if v.n=0 then 0 else 2)
 else if v.k=3 then (if v.n < -1073741824∨1073741824 < v.n then 3 else 0)
 else if v.k=4 then (if v.n < 0∨n≤v.n then 6 else 0) else 1
theorem bT6 (N:Nat) (v:V) (n:Int):aM2 N v n=some (aS5 v n):=by
 unfold aM2 aS5
 by_cases h0:v.k=0
 ·by_cases h:v.n=0<;>simp [h0,h]
 by_cases h1:v.k=1
 ·by_cases h:v.n=0<;>simp [h1,h]
 by_cases h2:v.k=2
 ·by_cases h:v.n=0<;>simp [h2,h]
 by_cases h3:v.k=3
 ·by_cases h:v.n < -1073741824<;>by_cases h':1073741824 < v.n<;>simp [h3,h,h']
 by_cases h4:v.k=4
 ·by_cases h:v.n < 0<;>by_cases h':n≤v.n<;>simp [h4,h,h']
 simp [h0,h1,h2,h3,h4]
theorem bP8 (N:Nat) (v:V) (n:Int):aJ2 N v n=some (aS5 v n):=by
 unfold aJ2 aS5
 by_cases h0:v.k=0
 ·by_cases h:v.n=0<;>simp [h0,h]
 by_cases h1:v.k=1
 ·by_cases h:v.n=0<;>simp [h1,h]
 by_cases h2:v.k=2
 ·by_cases h:v.n=0<;>simp [h2,h]
 by_cases h3:v.k=3
 ·by_cases h:v.n < -1073741824<;>by_cases h':1073741824 < v.n<;>simp [h3,h,h']
 by_cases h4:v.k=4
 ·by_cases h:v.n < 0<;>by_cases h':n≤v.n<;>simp [h4,h,h']
 by_cases h5:v.k < 0
 ·simp [h0,h1,h2,h3,h4,h5]
 ·have h6:4 < v.k:=by omega
  simp [h0,h1,h2,h3,h4,h5,h6]
end Go.Proofs.YtibjcppjfkamhaaGreatDoor
namespace Go.Proofs.YtibjcppjfkamhaaGreatDoor
open Go.RowKit
set_option linter.unusedVariables false
theorem cG5 : ∀a:List UInt8,Op.bytesLess a a=false
 |[]=>rfl
 |a::x=>by simp [Op.bytesLess,cG5 x]
theorem b38 : ∀a b c:List UInt8,Op.bytesLess a b=true→Op.bytesLess b c=true→Op.bytesLess a c=true
 |_,[],_,h,_=>by simp [Op.bytesLess] at h
 |_,_::_,[],_,h=>by simp [Op.bytesLess] at h
 |[],_::_,_::_,_,_=>rfl
 |a::x,b::y,c::z,h,h'=>by
  simp only [Op.bytesLess,Bool.or_eq_true,Bool.and_eq_true,decide_eq_true_eq,beq_iff_eq] at h h' ⊢
  rcases h with h|⟨rfl,h⟩
  ·rcases h' with h'|⟨rfl,_⟩
   ·exact Or.inl (UInt8.lt_trans h h')
   ·exact Or.inl h
  ·rcases h' with h'|⟨rfl,h'⟩
   ·exact Or.inl h'
   ·exact Or.inr ⟨rfl,b38 x y z h h'⟩
theorem bV2 (b:ByteArray):b.toList=b.data.toList:=by
 have:∀(n i:Nat) (r:List UInt8),n=b.size - i→ByteArray.toList.loop b i r=r.reverse++b.data.toList.drop i:=by
  intro n
  induction n with
  |zero =>
   intro i r h
   unfold ByteArray.toList.loop
   rw [if_neg (by omega)]
   have:b.data.toList.length≤i:=by simpa using (show b.size≤i by omega)
   rw [List.drop_eq_nil_of_le this]; simp
  |succ n ih =>
   intro i r h
   have hi:i < b.size:=by omega
   have hi':i < b.data.toList.length:=by simpa using hi
   unfold ByteArray.toList.loop
   rw [if_pos hi,ih (i+1) _ (by omega),List.drop_eq_getElem_cons hi']
   have e:b.get! i=b.data.toList[i]:=by
    show b.data[i]! = _
    rw [getElem!_pos b.data i hi,Array.getElem_toList]
   simp [e]
 have:=this b.size 0 [] (by omega)
 simpa [ByteArray.toList] using this
theorem toList_inj {a b:ByteArray} (h:a.toList=b.toList):a=b:=by
 rw [bV2,bV2] at h
 cases a; cases b
 congr
 exact Array.toList_inj.1 h
theorem a11 (a:ByteArray):ltS a a=false:=cG5 _
theorem lt_trans {a b c:ByteArray} (h:ltS a b=true) (h':ltS b c=true):ltS a c=true:=b38 _ _ _ h h'
def bB9 (ms:List Me):Prop:=ms.Pairwise fun a b=>ltS a.name b.name=true
def ixN (s:ByteArray):List Me→Option Nat
 |[]=>none
 |m::r=>if m.name=s then some 0 else (ixN s r).map (·+1)
theorem aQ1 {s:ByteArray}:∀{ms:List Me} {i:Nat},ixN s ms=some i→∃m,ms[i]?=some m∧m.name=s
 |m::r,i,h=>by
  unfold ixN at h
  by_cases e:m.name=s
  ·rw [if_pos e] at h; cases h; exact ⟨m,rfl,e⟩
  ·rw [if_neg e] at h
   cases hr:ixN s r with
   |none=>rw [hr] at h; cases h
   |some j=>rw [hr] at h; cases h; obtain ⟨m',h1,h2⟩:=aQ1 hr; exact ⟨m',h1,h2⟩
theorem b68 {s:ByteArray}:∀{ms:List Me},ixN s ms=none→∀m∈ms,m.name≠s
 |[],_=>fun m hm=>by cases hm
 |m::r,h=>by
  unfold ixN at h
  by_cases e:m.name=s
  ·rw [if_pos e] at h; cases h
  ·rw [if_neg e] at h
   cases hr:ixN s r with
   |some j=>rw [hr] at h; cases h
   |none =>
    intro x hx
    rcases List.mem_cons.1 hx with rfl|hx
    ·exact e
    ·exact b68 hr x hx
theorem aV3 {ms:List Me} (h:bB9 ms) {i j:Nat} {a b:Me} (hi:ms[i]?=some a) (hj:ms[j]?=some b) (hij:i < j):ltS a.name b.name=true:=by
 obtain ⟨hi1,rfl⟩:=List.getElem?_eq_some_iff.1 hi
 obtain ⟨hj1,rfl⟩:=List.getElem?_eq_some_iff.1 hj
 exact List.pairwise_iff_getElem.1 h i j hi1 hj1 hij
theorem cR1 {ms:List Me} (h:bB9 ms) {i:Nat} {m:Me} (hm:ms[i]?=some m):ixN m.name ms=some i:=by
 cases hx:ixN m.name ms with
 |none=>exact absurd rfl (b68 hx m (List.mem_of_getElem? hm))
 |some j =>
  obtain ⟨m',h1,h2⟩:=aQ1 hx
  rcases Nat.lt_trichotomy i j with hij|hij|hij
  ·have:=aV3 h hm h1 hij; rw [h2,a11] at this; cases this
  ·rw [hij]
  ·have:=aV3 h h1 hm hij; rw [h2,a11] at this; cases this
theorem a95 (N:Nat) (m:Me) (s:ByteArray):V8 N m s=some (if ltS m.name s=true then -1 else if m.name=s then 0 else 1):=by
 unfold V8 aF4 cmp_isNaN_string
 cases h:ltS m.name s
 ·by_cases e:m.name=s<;>simp [e]
 ·simp
theorem bB0 (N:Nat) (ms:List Me) (s:ByteArray) (hl:ms.length≤1048576) (hr:bB9 ms):∀(n:Nat) (a b:Nat),a≤b→b≤ms.length→b - a < n →
  (∀i m,i < a→ms[i]?=some m→ltS m.name s=true)→(∀i m,b≤i→ms[i]?=some m→ltS m.name s=false) →
  ∃v:Nat,q9 N ms s (fun x0_ x1_=>V8 N x0_ x1_) n (a:Int) (b:Int)=some (v:Int)∧v≤ms.length ∧
   (∀i m,i < v→ms[i]?=some m→ltS m.name s=true)∧(∀i m,v≤i→ms[i]?=some m→ltS m.name s=false)
 |0,a,b,_,_,h,_,_=>by omega
 |n+1,a,b,hab,hb,hn,ha,hbb=>by
  rw [q9]
  by_cases hlt:a < b
  ·have hlt':(a:Int) < (b:Int):=by omega
   have w1:wr ((a:Int)+(b:Int))=((a+b:Nat):Int):=by rw [O3 (by unfold D6; omega)]; omega
   have w2:((a+b:Nat):Int) / 2=(((a+b) / 2:Nat):Int):=by omega
   have w3:decide (D6 ((((a+b) / 2:Nat):Int)))=true:=decide_eq_true (by unfold D6; omega)
   have w4:wr ((((a+b) / 2:Nat):Int)+1)=(((a+b) / 2+1:Nat):Int):=by rw [O3 (by unfold D6; omega)]; omega
   have hmid:(a+b) / 2 < ms.length:=by omega
   obtain ⟨x,hx⟩:∃x,ms[(a+b) / 2]?=some x:=⟨_,List.getElem?_eq_getElem hmid⟩
   have w5:(0:Int)≤((a+b:Nat):Int):=by omega
   have ho:=a95 N x s
   simp only [w1,w2,w3,w4,w5,hlt',K4,hx,ho,decide_true,cond_true,Option.bind_some]
   cases hc:ltS x.name s with
   |true =>
    simp only [if_true,show ((-1:Int) < 0)=True by simp,decide_true,cond_true,Option.bind_some]
    refine bB0 N ms s hl hr n _ b (by omega) hb (by omega) (fun i m hi hm=>?_) hbb
    rcases Nat.lt_or_ge i ((a+b) / 2) with h|h
    ·exact lt_trans (aV3 hr hm hx h) hc
    ·have e:i=(a+b) / 2:=by omega
     subst e; rw [hx] at hm; cases hm; exact hc
   |false =>
    have hd:∀i m,(a+b) / 2≤i→ms[i]?=some m→ltS m.name s=false:=by
     intro i m hi hm
     rcases Nat.lt_or_ge ((a+b) / 2) i with h|h
     ·cases hq:ltS m.name s with
      |false=>rfl
      |true=>have:=lt_trans (aV3 hr hx hm h) hq; rw [hc] at this; cases this
     ·have e:i=(a+b) / 2:=by omega
      subst e; rw [hx] at hm; cases hm; exact hc
    have hz:decide ((if false=true then (-1:Int) else if x.name=s then 0 else 1) < 0)=false:=by
     by_cases e:x.name=s<;>simp [e]
    rw [hz]
    simp only [cond_false,Option.bind_some]
    exact bB0 N ms s hl hr n a _ (by omega) (by omega) (by omega) ha hd
  ·have hlt':¬(a:Int) < (b:Int):=by omega
   simp only [hlt',decide_false,cond_false]
   have e:a=b:=by omega
   subst e
   exact ⟨a,rfl,hb,ha,hbb⟩
theorem cD6 (N:Nat) (ms:List Me) (s:ByteArray) (hN:1048577≤N) (hl:ms.length≤1048576) (hr:bB9 ms) :
  ∃v:Nat,y9 N ms s (fun x0_ x1_=>V8 N x0_ x1_)=some ((v:Int),(ixN s ms).isSome)∧(∀i:Nat,ixN s ms=some i→(v:Int)=i)∧v≤ms.length ∧
   (∀i m,i < v→ms[i]?=some m→ltS m.name s=true)∧(∀i m,v≤i→ms[i]?=some m→ltS m.name s=false):=by
 obtain ⟨v,hv,hle,h1,h2⟩:=bB0 N ms s hl hr N 0 ms.length (by omega) (by omega) (by omega) (fun i m h=>absurd h (by omega)) (fun i m h hm=>by
  have:=(List.getElem?_eq_some_iff.1 hm).1; omega)
 refine ⟨v,?_,?_,hle,h1,h2⟩
 ·unfold y9
  have hv':q9 N ms s (fun x0_ x1_=>V8 N x0_ x1_) N (0:Int) (ms.length:Int)=some (v:Int):=hv
  rw [hv']
  simp only [Option.bind_some]
  by_cases hlt:v < ms.length
  ·have hlt':(v:Int) < (ms.length:Int):=by omega
   obtain ⟨x,hx⟩:∃x,ms[v]?=some x:=⟨_,List.getElem?_eq_getElem hlt⟩
   have hf:=h2 v x (Nat.le_refl _) hx
   simp only [hlt',decide_true,cond_true,K4,hx,Option.bind_some,a95,hf]
   by_cases e:x.name=s
   ·have:=cR1 hr hx
    rw [e] at this
    simp [e,this]
   ·cases hi:ixN s ms with
    |none=>simp [e]
    |some i =>
     obtain ⟨m',hm1,hm2⟩:=aQ1 hi
     rcases Nat.lt_trichotomy i v with h|h|h
     ·have:=h1 i m' h hm1; rw [hm2,a11] at this; cases this
     ·subst h; rw [hx] at hm1; cases hm1; exact absurd hm2 e
     ·have:=aV3 hr hx hm1 h
      rw [hm2] at this; rw [hf] at this; cases this
  ·have hlt':¬(v:Int) < (ms.length:Int):=by omega
   simp only [hlt',decide_false,cond_false,Option.bind_some]
   cases hi:ixN s ms with
   |none=>rfl
   |some i =>
    obtain ⟨m',hm1,hm2⟩:=aQ1 hi
    have:=(List.getElem?_eq_some_iff.1 hm1).1
    have:=h1 i m' (by omega) hm1
    rw [hm2,a11] at this; cases this
 ·intro i hi
  obtain ⟨m',hm1,hm2⟩:=aQ1 hi
  have hlen:=(List.getElem?_eq_some_iff.1 hm1).1
  rcases Nat.lt_trichotomy i v with h|h|h
  ·have:=h1 i m' h hm1; rw [hm2,a11] at this; cases this
  ·rw [h]
  ·obtain ⟨x,hx⟩:∃x,ms[v]?=some x:=⟨ms[v]'(by omega),List.getElem?_eq_getElem (by omega)⟩
   have:=aV3 hr hx hm1 h
   rw [hm2] at this
   rw [h2 v x (Nat.le_refl _) hx] at this; cases this
theorem bsearch_eq (N:Nat) (ms:List Me) (s:ByteArray) (hN:1048577≤N) (hl:ms.length≤1048576) (hr:bB9 ms) :
  ∃v:Int,y9 N ms s (fun x0_ x1_=>V8 N x0_ x1_)=some (v,(ixN s ms).isSome)∧∀i:Nat,ixN s ms=some i→v=i:=by
 obtain ⟨v,h1,h2,_⟩:=cD6 N ms s hN hl hr
 exact ⟨_,h1,h2⟩
def aG0 (w:Wd) (s:ByteArray):Nat→Int→Option (Int×Int)
 |0,_=>none
 |n+1,c=>if 0≤c then (match w.classes[c.toNat]? with
  |some x=>(match ixN s x.methods with|some i=>some (c,(i:Int))|none=>aG0 w s n x.super)
  |none=>none) else none
def bZ3 (w:Wd) (s:ByteArray) (c:Int):Int×Int:=(aG0 w s (w.classes.length+1) c).getD (-1,-1)
def cD5 (w:Wd):Prop:=∀x∈w.classes,bB9 x.methods
def aJ0 (w:Wd):Prop:=w.classes.length≤1048576∧w.heap.length≤1048576∧(∀x∈w.classes,x.methods.length≤1048576∧∀m∈x.methods,m.code.length≤1048576)∧∀o∈w.heap,o.slots.length≤1048576
def cV1 {σ:Type} (o:Option (Int×Int)) (s:σ):C9 (Int×Int) σ:=match o with|some p=>.ret p|none=>.next s
theorem aX1 (N:Nat) (w:Wd) (s:ByteArray) (hN:1048577≤N) (hw:cD5 w) (hs:aJ0 w):∀(n:Nat) (k:Nat) (c:Int),k≤w.classes.length+1→w.classes.length+1 - k < n →
  Z7 N w s n c (k:Int)=some (cV1 (aG0 w s (w.classes.length+1 - k) c) ())
 |0,k,c,_,h=>by omega
 |n+1,k,c,hk,hn=>by
  rw [Z7]
  by_cases h0:0≤c
  ·by_cases h1:c < w.classes.length
   ·obtain ⟨x,hx,hnth⟩:=bH8 h0 h1
    by_cases h2:k≤w.classes.length
    ·have h2':(k:Int)≤(w.classes.length:Int):=by omega
     have hxm:=List.mem_of_getElem? hx
     obtain ⟨v,hv,hvi⟩:=bsearch_eq N x.methods s hN (hs.2.2.1 x hxm).1 (hw x hxm)
     have e:w.classes.length+1 - k=(w.classes.length+1 - (k+1))+1:=by omega
     have wk:wr ((k:Int)+1)=((k+1:Nat):Int):=by rw [O3 (by have:=hs.1; unfold D6; omega)]; omega
     rw [e,aG0]
     simp only [h0,h1,h2',decide_true,cond_true,Option.bind_some,hnth,hv,hx,if_true,wk]
     cases hi:ixN s x.methods with
     |some i=>have:=hvi i hi; subst this; rfl
     |none =>
      simp only [Option.isSome_none,cond_false]
      exact aX1 N w s hN hw hs n (k+1) x.super (by omega) (by omega)
    ·have h2':¬(k:Int)≤(w.classes.length:Int):=by omega
     have e:w.classes.length+1 - k=0:=by omega
     simp only [h0,h1,h2',decide_true,decide_false,cond_true,cond_false,Option.bind_some,e]
     rfl
   ·have:aG0 w s (w.classes.length+1 - k) c=none:=by
     cases w.classes.length+1 - k with
     |zero=>rfl
     |succ n=>rw [aG0,if_pos h0,bM3 h1]
    simp only [h0,h1,decide_true,decide_false,cond_true,cond_false,Option.bind_some,this]
    rfl
  ·have:aG0 w s (w.classes.length+1 - k) c=none:=by
    cases w.classes.length+1 - k with
    |zero=>rfl
    |succ n=>rw [aG0,if_neg h0]
   simp only [h0,decide_false,cond_false,Option.bind_some,this]
   rfl
theorem bX2 (N:Nat) (w:Wd) (c:Int) (s:ByteArray) (hN:1048578≤N) (hw:cD5 w) (hs:aJ0 w):aN9 N w c s=some (bZ3 w s c):=by
 unfold aN9 bZ3
 have h:=aX1 N w s (by omega) hw hs N 0 c (by omega) (by have:=hs.1; omega)
 have h':Z7 N w s N c (0:Int)=some (cV1 (aG0 w s (w.classes.length+1) c) ()):=h
 rw [h']
 cases aG0 w s (w.classes.length+1) c<;>rfl
def aG5 (w:Wd):Nat→Int→List Int
 |0,_=>[]
 |n+1,c=>if 0≤c then (match w.classes[c.toNat]? with|some x=>c::aG5 w n x.super|none=>[]) else []
theorem b28 (w:Wd):∀(n:Nat) (c:Int),(aG5 w n c).length≤n
 |0,_=>Nat.le_refl _
 |n+1,c=>by
  rw [aG5]
  split
  ·split
   ·have:=b28 w n; simp only [List.length_cons]; exact Nat.succ_le_succ (this _)
   ·simp
  ·simp
theorem b87 (w:Wd):∀(n:Nat) (c:Int),∀k∈aG5 w n c,0≤k∧k < w.classes.length
 |0,_,k,h=>by cases h
 |n+1,c,k,h=>by
  rw [aG5] at h
  split at h
  ·split at h
   ·rename_i h0 _ x hx
    rcases List.mem_cons.1 h with rfl|h
    ·exact ⟨h0,by have:=(List.getElem?_eq_some_iff.1 hx).1; omega⟩
    ·exact b87 w n _ k h
   ·cases h
  ·cases h
theorem aW4 (N:Nat) (w:Wd) (hs:w.classes.length≤1048576):∀(n:Nat) (c:Int) (acc:List Int),acc.length≤w.classes.length+1→w.classes.length+1 - acc.length < n →
  aC1 N w n c acc=some (acc++aG5 w (w.classes.length+1 - acc.length) c)
 |0,c,acc,_,h=>by omega
 |n+1,c,acc,hk,hn=>by
  rw [aC1]
  by_cases h0:0≤c
  ·by_cases h1:c < w.classes.length
   ·obtain ⟨x,hx,hnth⟩:=bH8 h0 h1
    by_cases h2:acc.length≤w.classes.length
    ·have h2':(acc.length:Int)≤(w.classes.length:Int):=by omega
     have e:w.classes.length+1 - acc.length=(w.classes.length+1 - (acc++[c]).length)+1:=by simp; omega
     have hb:Nat.ble ((acc.length+[c].length)*8) 140737488355328=true:=aY1 (by simp; omega)
     rw [e,aG5]
     simp only [h0,h1,h2',decide_true,cond_true,Option.bind_some,hnth,hx,if_true,hb]
     rw [aW4 N w hs n x.super (acc++[c]) (by simp; omega) (by simp; omega)]
     simp
    ·have h2':¬(acc.length:Int)≤(w.classes.length:Int):=by omega
     have e:w.classes.length+1 - acc.length=0:=by omega
     simp [h0,h1,h2',e,aG5]
   ·have:aG5 w (w.classes.length+1 - acc.length) c=[]:=by
     cases w.classes.length+1 - acc.length with
     |zero=>rfl
     |succ n=>rw [aG5,if_pos h0,bM3 h1]
    simp [h0,h1,this]
  ·have:aG5 w (w.classes.length+1 - acc.length) c=[]:=by
    cases w.classes.length+1 - acc.length with
    |zero=>rfl
    |succ n=>rw [aG5,if_neg h0]
   simp [h0,this]
theorem bY8 (N:Nat) (w:Wd) (c:Int) (hN:1048578≤N) (hs:w.classes.length≤1048576):aP0 N w c=some (aG5 w (w.classes.length+1) c):=by
 unfold aP0
 rw [aW4 N w hs N c [] (by simp) (by simp; omega)]
 rfl
def I4 (w:Wd) (c:Int):Int:=(aG5 w (w.classes.length+1) c).foldl (fun n k=>match w.classes[k.toNat]? with|some x=>wr (n+x.slots)|none=>n) 0
theorem aR6 (N:Nat) (w:Wd) (L:List Int) (hL:∀k∈L,0≤k∧k < w.classes.length):∀(l:List Int) (k:Nat) (n:Int),l=L.drop k →
  X8 N w L l k n=some (l.foldl (fun n k=>match w.classes[k.toNat]? with|some x=>wr (n+x.slots)|none=>n) n)
 |[],k,n,_=>rfl
 |c::l,k,n,h=>by
  obtain ⟨h1,h2,_⟩:=z8 h
  obtain ⟨c0,c1⟩:=hL c (List.mem_of_getElem? h1)
  obtain ⟨x,hx,hnth⟩:=bH8 c0 c1
  rw [X8]
  simp only [K4,h1,Option.bind_some,hnth,List.foldl_cons,hx]
  exact aR6 N w L hL l (k+1) _ h2
theorem aP2 (N:Nat) (w:Wd) (c:Int) (hN:1048578≤N) (hs:w.classes.length≤1048576):aB5 N w c=some (I4 w c):=by
 unfold aB5 I4
 rw [bY8 N w c hN hs]
 simp only [Option.bind_some]
 rw [aR6 N w _ (b87 w _ c) (aG5 w (w.classes.length+1) c) 0 0 rfl]
 rfl
end Go.Proofs.YtibjcppjfkamhaaGreatDoor
namespace Go.Proofs.YtibjcppjfkamhaaGreatDoor
open Go.RowKit
set_option linter.unusedVariables false
end Go.Proofs.YtibjcppjfkamhaaGreatDoor
namespace Go.Proofs.YtibjcppjfkamhaaGreatDoor
open Go.RowKit
set_option linter.unusedVariables false
def nmB (u:UInt8):Bool:=!decide ((u.toNat:Int) < 33) && !decide (126 < (u.toNat:Int))
def aA7 (s:ByteArray):Bool:=s.data.toList.all nmB && (decide (0 < s.size) && decide (s.size≤12))
theorem bR8 (s:ByteArray) (k:Nat):byO s (k:Int)=s.data.toList[k]?:=by
 unfold byO
 rw [decide_eq_true (Int.natCast_nonneg k)]
 show s[k]?=_
 by_cases h:k < s.size
 ·rw [getElem?_pos s k h,List.getElem?_eq_getElem (by simpa using h)]
  rfl
 ·rw [getElem?_neg s k h,List.getElem?_eq_none (by simpa using h)]
theorem aT6 (N:Nat) (s:ByteArray):∀(n k:Nat),n+k=s.size→aA2 N s n k=some (if (s.data.toList.drop k).all nmB=true then .next () else .ret false)
 |0,k,h=>by
  rw [List.drop_eq_nil_of_le (by rw [show s.data.toList.length=s.size from rfl]; omega)]
  rfl
 |n+1,k,h=>by
  have hk:k < s.data.toList.length:=by rw [show s.data.toList.length=s.size from rfl]; omega
  rw [aA2,List.drop_eq_getElem_cons hk,bR8,List.getElem?_eq_getElem hk,aT6 N s n (k+1) (by omega)]
  simp only [Option.bind_some,List.all_cons]
  generalize s.data.toList[k]=u
  generalize s.data.toList.drop (k+1)=b
  by_cases h1:(u.toNat:Int) < 33
  ·have e:nmB u=false:=by simp [nmB,h1]
   simp only [h1,e,decide_true,cond_true,Option.bind_some,Bool.false_and]; rfl
  ·by_cases h2:126 < (u.toNat:Int)
   ·have e:nmB u=false:=by simp only [nmB,h1,h2,decide_true,decide_false,Bool.not_true,Bool.and_false]
    simp only [h1,h2,e,decide_true,decide_false,cond_true,cond_false,Option.bind_some,Bool.false_and]; rfl
   ·have e:nmB u=true:=by simp only [nmB,h1,h2,decide_false,Bool.not_false,Bool.and_true]
    simp only [h1,h2,e,decide_false,cond_false,Option.bind_some,Bool.true_and]
theorem aQ9 (N:Nat) (s:ByteArray):aF6 N s=some (aA7 s):=by
 unfold aF6 aA7
 have e:((s.size:Int) - ((0:Nat):Int)).toNat=s.size:=by omega
 rw [e,aT6 N s s.size 0 (by omega),List.drop_zero]
 cases h:s.data.toList.all nmB
 ·simp
 ·by_cases h1:0 < s.size
  ·by_cases h2:s.size≤12
   ·have h1':(0:Int) < (s.size:Int):=by omega
    have h2':(s.size:Int)≤12:=by omega
    simp [h1,h2,h2']
   ·have h2':¬(s.size:Int)≤12:=by omega
    have h1':(0:Int) < (s.size:Int):=by omega
    simp [h2,h2']
  ·have h1':¬(0:Int) < (s.size:Int):=by omega
   simp [h1]
def bH6 (m:Me):Prop:=∀i∈m.code,i.op=14→0≤i.a∧i.a≤4
def Z4 (i:Ins) (p:Int):Int×Int×List Int :=
 if i.op=9∨i.op=11∨i.op=12 then (1,-1,[wr (p+1)]) else if i.op=10 then (1,1,[wr (p+1)])
 else if i.op=14 then (wr (i.a+1),-i.a,[wr (p+1)]) else if i.op=15 then (0,0,[i.a])
 else if i.op=16 then (1,-1,[wr (p+1),i.a]) else if i.op=17 then (1,-1,[]) else (0,1,[wr (p+1)])
theorem bS2 (i:Ins) (p:Int):(Z4 i p).2.2.length≤2:=by
 unfold Z4
 (repeat' split)<;>simp
theorem bR9 (N:Nat) (i:Ins) (p:Int) (h:i.op=14→0≤i.a∧i.a≤4):aL5 N i p=some (Z4 i p):=by
 unfold aL5 Z4
 by_cases h1:i.op=9
 ·simp [h1]
 by_cases h2:i.op=11
 ·simp [h2]
 by_cases h3:i.op=12
 ·simp [h3]
 by_cases h4:i.op=10
 ·simp [h4]
 by_cases h5:i.op=14
 ·have:=h h5
  have e:decide (D6 (-i.a))=true:=decide_eq_true (by unfold D6; omega)
  simp only [h5,e,decide_true,cond_true,show ((14:Int)=9)=False by decide,show ((14:Int)=11)=False by decide,show ((14:Int)=12)=False by decide,show ((14:Int)=10)=False by decide,decide_false,cond_false,Option.bind_some,or_self,if_false,if_true]
 by_cases h6:i.op=15
 ·simp [h6]
 by_cases h7:i.op=16
 ·simp [h7]
 by_cases h8:i.op=17
 ·simp [h8]
 simp [h1,h2,h3,h4,h5,h6,h7,h8]
theorem bG4 {i:Ins} {p:Int} {x:Int} (h0:0≤x) (h12:x≤12) (hn:¬x < (Z4 i p).1) (hm:¬12 < wr (x+(Z4 i p).2.1)) (hi:i.op=14→0≤i.a∧i.a≤4) :
  0≤wr (x+(Z4 i p).2.1)∧wr (x+(Z4 i p).2.1)≤12∧wr (x+(Z4 i p).2.1)=x+(Z4 i p).2.1:=by
 unfold Z4 at hn hm ⊢
 split at hn
 ·rename_i h1
  simp only [h1,if_true] at hm ⊢
  rw [O3 (by unfold D6; omega)]; omega
 ·rename_i h1
  simp only [h1,if_false] at hm ⊢
  split at hn
  ·rename_i h2
   simp only [h2,if_true] at hm ⊢
   rw [O3 (by unfold D6; omega)] at hm ⊢; omega
  ·rename_i h2
   simp only [h2,if_false] at hm ⊢
   split at hn
   ·rename_i h3
    have hi:=hi h3
    simp only [h3,if_true] at hm ⊢
    simp only at hn
    rw [O3 (by unfold D6; omega)] at hn hm ⊢; omega
   ·rename_i h3
    simp only [h3,if_false] at hm ⊢
    split at hn
    ·rename_i h4
     simp only [h4,if_true] at hm ⊢
     rw [O3 (by unfold D6; omega)] at hm ⊢; omega
    ·rename_i h4
     simp only [h4,if_false] at hm ⊢
     split at hn
     ·rename_i h5
      simp only [h5,if_true] at hm ⊢
      rw [O3 (by unfold D6; omega)] at hm ⊢; omega
     ·rename_i h5
      simp only [h5,if_false] at hm ⊢
      split at hn
      ·rename_i h6
       simp only [h6,if_true] at hm ⊢
       rw [O3 (by unfold D6; omega)] at hm ⊢; omega
      ·rename_i h6
       simp only [h6,if_false] at hm ⊢
       rw [O3 (by unfold D6; omega)] at hm ⊢; omega
theorem aO7 (N:Nat):∀(n k:Nat) (v:List Int),n+k=v.length→O7 N n k v=some (v.take k++List.replicate n (-1))
 |0,k,v,h=>by rw [O7,List.take_of_length_le (by omega)]; simp
 |n+1,k,v,h=>by
  have hk:k < v.length:=by omega
  rw [O7,K4,List.getElem?_eq_getElem hk]
  simp only [Option.bind_some,Int.toNat_natCast]
  rw [aO7 N n (k+1) _ (by simp; omega)]
  congr 1
  rw [List.take_add_one,List.take_set_of_le (Nat.le_refl _),List.getElem?_set_self hk,List.replicate_succ]
  simp
theorem aO2 (N:Nat) (x:Int) (r:Int×Int×List Int):∀(l:List Int) (k:Nat) (a b:List Int),l=r.2.2.drop k→a.length+l.length≤17592186044416→b.length+l.length≤17592186044416 →
  O6 N x r l k a b=some (a++l,b++List.replicate l.length (wr (x+r.2.1)))
 |[],k,a,b,_,_,_=>by simp [O6]
 |y::l,k,a,b,h,ha,hb=>by
  obtain ⟨h1,h2,_⟩:=z8 h
  simp only [List.length_cons] at ha hb
  rw [O6]
  have e1:Nat.ble ((a.length+[y].length)*8) 140737488355328=true:=aY1 (by simp; omega)
  have e2:Nat.ble ((b.length+[wr (x+r.2.1)].length)*8) 140737488355328=true:=aY1 (by simp; omega)
  simp only [K4,h1,Option.bind_some,e1,e2,cond_true]
  rw [aO2 N x r l (k+1) _ _ h2 (by simp; omega) (by simp; omega)]
  simp [List.replicate_succ]
def aU8 (h:List Int):Nat:=h.countP fun x=>decide (x < 0)
theorem bE1 {h:List Int} {i:Nat} {x y:Int} (hi:h[i]?=some x) (hx:x < 0) (hy:0≤y):aU8 (h.set i y)+1=aU8 h:=by
 induction h generalizing i with
 |nil=>simp at hi
 |cons a h ih =>
  cases i with
  |zero =>
   simp only [List.getElem?_cons_zero,Option.some.injEq] at hi
   subst hi
   have:¬y < 0:=by omega
   simp [aU8,hx,this]
  |succ i =>
   have:=ih (i:=i) (by simpa using hi)
   simp only [aU8,List.set_cons_succ,List.countP_cons] at this ⊢
   omega
def hgt (m:Me):Nat→List Int→List (Int×Int)→Option (C9 (List Int×D8) (List Int))
 |0,_,_=>none
 |_+1,h,[]=>some (.next h)
 |n+1,h,(p,x)::r =>
  if (m.code.length:Int)≤p∨p < 0 then some (.ret ([],⟨9,m.code.length⟩)) else
  match h[p.toNat]?,m.code[p.toNat]? with
  |some y,some i =>
   if 0≤y then (if y=x then hgt m n h r else some (.ret ([],⟨8,p⟩)))
   else if x < (Z4 i p).1∨(i.op=17∧x≠1) then some (.ret ([],⟨8,p⟩))
   else if 12 < wr (x+(Z4 i p).2.1) then some (.ret ([],⟨4,p⟩))
   else hgt m n (h.set p.toNat x) (r++(Z4 i p).2.2.map fun q=>(q,wr (x+(Z4 i p).2.1)))
  |_,_=>none
def hOk (l:List (Int×Int)):Prop:=∀q∈l,0≤q.2∧q.2≤12
theorem bN0 (m:Me) (hm:bH6 m):∀(n:Nat) (h:List Int) (l:List (Int×Int)),h.length=m.code.length→hOk l→l.length+3*aU8 h < n→∃r,hgt m n h l=some r
 |0,h,l,_,_,hn=>by omega
 |n+1,h,[],_,_,_=>⟨_,rfl⟩
 |n+1,h,(p,x)::r,hh,hl,hn=>by
  rw [hgt]
  simp only [List.length_cons] at hn
  have hx:=hl (p,x) (by simp)
  have hr:hOk r:=fun q hq=>hl q (by simp [hq])
  by_cases h1:(m.code.length:Int)≤p∨p < 0
  ·rw [if_pos h1]; exact ⟨_,rfl⟩
  rw [if_neg h1]
  have hp:p.toNat < m.code.length:=by omega
  have e1:h[p.toNat]?=some (h[p.toNat]'(by omega)):=List.getElem?_eq_getElem (by omega)
  have e2:m.code[p.toNat]?=some m.code[p.toNat]:=List.getElem?_eq_getElem hp
  generalize h[p.toNat]'(by omega)=y at e1
  have hi:=hm _ (List.getElem_mem hp)
  generalize m.code[p.toNat]=i at e2 hi
  rw [e1,e2]
  simp only
  by_cases h2:0≤y
  ·rw [if_pos h2]
   by_cases h3:y=x
   ·rw [if_pos h3]; exact bN0 m hm n h r hh hr (by omega)
   ·rw [if_neg h3]; exact ⟨_,rfl⟩
  rw [if_neg h2]
  by_cases h3:x < (Z4 i p).1∨(i.op=17∧x≠1)
  ·rw [if_pos h3]; exact ⟨_,rfl⟩
  rw [if_neg h3]
  by_cases h4:12 < wr (x+(Z4 i p).2.1)
  ·rw [if_pos h4]; exact ⟨_,rfl⟩
  rw [if_neg h4]
  have hb:=bG4 hx.1 hx.2 (fun h=>h3 (Or.inl h)) h4 hi
  have hu:=bE1 (y:=x) e1 (by omega) hx.1
  have hl2:=bS2 i p
  refine bN0 m hm n _ _ (by simpa using hh) (fun q hq=>?_) (by simp; omega)
  rcases List.mem_append.1 hq with hq|hq
  ·exact hr q hq
  ·obtain ⟨z,_,rfl⟩:=List.mem_map.1 hq
   exact ⟨hb.1,hb.2.1⟩
theorem aH4 (N:Nat) (m:Me) (hm:bH6 m) (hc:m.code.length≤1048576):∀(n:Nat) (h:List Int) (ats hs:List Int) (k:Nat),ats.length=hs.length→k≤ats.length→ats.length+2*aU8 h≤4194304→h.length=m.code.length →
  hOk ((ats.drop k).zip (hs.drop k))→O5 N m n h ats hs (k:Int)=hgt m n h ((ats.drop k).zip (hs.drop k))
 |0,_,_,_,_,_,_,_,_,_=>rfl
 |n+1,h,ats,hs,k,hl,hk,hb,hh,ho=>by
  rw [O5]
  by_cases hlt:k < ats.length
  ·have hlt':(k:Int) < (ats.length:Int):=by omega
   have hlt2:k < hs.length:=by omega
   have ea:ats[k]?=some ats[k]:=List.getElem?_eq_getElem hlt
   have eh:hs[k]?=some hs[k]:=List.getElem?_eq_getElem hlt2
   have ed:(ats.drop k).zip (hs.drop k)=(ats[k],hs[k])::(ats.drop (k+1)).zip (hs.drop (k+1)):=by
    rw [List.drop_eq_getElem_cons hlt,List.drop_eq_getElem_cons hlt2]; rfl
   have hx:=ho (ats[k],hs[k]) (by rw [ed]; simp)
   have hr:hOk ((ats.drop (k+1)).zip (hs.drop (k+1))):=fun q hq=>ho q (by rw [ed]; simp [hq])
   have wk:wr ((k:Int)+1)=((k+1:Nat):Int):=by rw [O3 (by unfold D6; omega)]; omega
   rw [ed,hgt]
   generalize hp:ats[k]=p at ea hx
   generalize hxx:hs[k]=x at eh hx
   simp only [hlt',decide_true,cond_true,K4,ea,eh,Option.bind_some,wk]
   by_cases h1:(m.code.length:Int)≤p
   ·simp only [h1,decide_true,cond_true,Option.bind_some,true_or,if_true]
   by_cases h1':p < 0
   ·simp only [h1,h1',decide_true,decide_false,cond_true,cond_false,Option.bind_some,or_true,if_true]
   simp only [h1,h1',decide_false,cond_false,Option.bind_some,or_self,if_false]
   have hpl:p.toNat < m.code.length:=by omega
   have hp0:0≤p:=by omega
   have e1:h[p.toNat]?=some (h[p.toNat]'(by omega)):=List.getElem?_eq_getElem (by omega)
   have e2:m.code[p.toNat]?=some m.code[p.toNat]:=List.getElem?_eq_getElem hpl
   generalize h[p.toNat]'(by omega)=y at e1
   have hi:=hm _ (List.getElem_mem hpl)
   generalize m.code[p.toNat]=i at e2 hi
   have n1:F5 h p=some y:=by rw [aY3 hp0,e1]
   have n2:F5 m.code p=some i:=by rw [aY3 hp0,e2]
   simp only [n1,n2,e1,e2,Option.bind_some,bR9 N i p hi]
   by_cases h2:0≤y
   ·simp only [h2,decide_true,cond_true,if_true]
    by_cases h3:y=x
    ·simp only [h3,decide_true,Bool.not_true,cond_false,Option.bind_some,if_true]
     exact aH4 N m hm hc n h ats hs (k+1) hl (by omega) hb hh hr
    ·simp only [h3,decide_false,Bool.not_false,cond_true,Option.bind_some,if_false]
   simp only [h2,decide_false,cond_false,if_false]
   by_cases h3:x < (Z4 i p).1
   ·simp only [h3,decide_true,cond_true,Option.bind_some,true_or,if_true]
   by_cases h4:i.op=17∧x≠1
   ·simp only [h3,h4.1,h4.2,decide_true,decide_false,cond_true,cond_false,Option.bind_some,Bool.not_false,or_true,if_true,ne_eq,not_false_eq_true,and_self]
   have hq:((bif decide (i.op=(17:Int)) then some ((!decide (x=(1:Int)))) else some (false)):Option Bool)=some false:=by
    by_cases h5:i.op=17
    ·by_cases h6:x=1
     ·simp [h6]
     ·exact absurd ⟨h5,h6⟩ h4
    ·simp [h5]
   simp only [h3,h4,hq,decide_false,cond_false,Option.bind_some,or_self,if_false]
   by_cases h5:12 < wr (x+(Z4 i p).2.1)
   ·simp only [h5,decide_true,cond_true,Option.bind_some,if_true]
   simp only [h5,decide_false,cond_false,if_false]
   have hb2:=bG4 hx.1 hx.2 h3 h5 hi
   have hu:=bE1 (y:=x) e1 (by omega) hx.1
   have hl2:=bS2 i p
   rw [aO2 N x (Z4 i p) (Z4 i p).2.2 0 ats hs rfl (by omega) (by omega)]
   simp only [Option.bind_some]
   have ez:((ats++(Z4 i p).2.2).drop (k+1)).zip ((hs++List.replicate (Z4 i p).2.2.length (wr (x+(Z4 i p).2.1))).drop (k+1)) =
     (ats.drop (k+1)).zip (hs.drop (k+1))++(Z4 i p).2.2.map fun q=>(q,wr (x+(Z4 i p).2.1)):=by
    rw [List.drop_append_of_le_length (by omega),List.drop_append_of_le_length (by omega),List.zip_append (by simp; omega)]
    congr 1
    generalize (Z4 i p).2.2=L
    induction L with
    |nil=>rfl
    |cons a L ih=>simp [List.replicate_succ,ih]
   rw [aH4 N m hm hc n _ _ _ (k+1) (by simp; omega) (by simp; omega) (by simp; omega) (by simpa using hh) (by
    rw [ez]
    intro q hq
    rcases List.mem_append.1 hq with hq|hq
    ·exact hr q hq
    ·obtain ⟨z,_,rfl⟩:=List.mem_map.1 hq
     exact ⟨hb2.1,hb2.2.1⟩),ez]
  ·have hlt':¬(k:Int) < (ats.length:Int):=by omega
   have ed:(ats.drop k).zip (hs.drop k)=[]:=by rw [List.drop_eq_nil_of_le (by omega)]; rfl
   rw [ed,hgt]
   simp only [hlt',decide_false,cond_false]
def bU4 (o:C9 (List Int×D8) (List Int)):List Int×D8:=match o with|.ret r=>r|.next h=>(h,⟨0,0⟩)
theorem bF9 (n:Nat):aU8 (List.replicate n (-1))=n:=by
 induction n with
 |zero=>rfl
 |succ n ih=>simp only [aU8,List.replicate_succ,List.countP_cons] at ih ⊢; rw [ih]; rfl
theorem bI4 (N:Nat) (m:Me) (hm:bH6 m) (hc:m.code.length≤1048576):aG7 N m=(hgt m N (List.replicate m.code.length (-1)) [(0,0)]).map bU4:=by
 unfold aG7
 have e0:(decide (0≤(m.code.length:Int)) && decide ((m.code.length:Int)≤140737488355328) && decide ((m.code.length:Int)*8≤140737488355328))=true:=by
  simp only [Bool.and_eq_true,decide_eq_true_eq]; omega
 have e1:(((List.replicate (m.code.length:Int).toNat (0:Int)).length:Int) - ((0:Nat):Int)).toNat=m.code.length:=by simp
 rw [e0,e1,aO7 N _ 0 _ (by simp)]
 simp only [cond_true,Option.bind_some,List.take_zero,List.nil_append]
 have h:=aH4 N m hm hc N (List.replicate m.code.length (-1)) [0] [0] 0 rfl (by simp) (by rw [bF9]; simp; omega) (by simp) (by
  intro q hq
  simp only [List.drop_zero,List.zip_cons_cons,List.zip_nil_right,List.mem_cons,List.not_mem_nil,or_false] at hq
  subst hq; decide)
 have h':O5 N m N (List.replicate m.code.length (-1)) [(0:Int)] [(0:Int)] (0:Int)=hgt m N (List.replicate m.code.length (-1)) [(0,0)]:=h
 rw [h']
 cases hgt m N (List.replicate m.code.length (-1)) [(0,0)] with
 |none=>rfl
 |some o=>cases o<;>rfl
end Go.Proofs.YtibjcppjfkamhaaGreatDoor
namespace Go.Proofs.YtibjcppjfkamhaaGreatDoor
open Go.RowKit
set_option linter.unusedVariables false
def Good (x:Option (C9 Int Unit)) (P:Prop):Prop:=∃o,x=some o∧(∀r,o=.ret r→r≠0)∧(o=.next ()→P)
theorem Good.ret {r:Int} {P:Prop} (h:r≠0):Good (some (.ret r)) P:=⟨.ret r,rfl,(fun r e=>by cases e; exact h),fun e=>by cases e⟩
theorem Good.next {P:Prop} (h:P):Good (some (.next ())) P:=⟨.next (),rfl,(fun r e=>by cases e),fun _=>h⟩
theorem Good.bind {x:Option (C9 Int Unit)} {P Q:Prop} {y:Option (C9 Int Unit)} (h:Good x P) (hy:P→Good y Q):Good (x.bind fun o=>match o with|.ret r=>some (.ret r)|.next ()=>y) Q:=by
 obtain ⟨o,rfl,h1,h2⟩:=h
 cases o with
 |ret r=>exact Good.ret (h1 r rfl)
 |next u=>exact hy (h2 rfl)
theorem Good.imp {x:Option (C9 Int Unit)} {P Q:Prop} (h:Good x P) (hq:P→Q):Good x Q:=by
 obtain ⟨o,h0,h1,h2⟩:=h
 exact ⟨o,h0,h1,fun e=>hq (h2 e)⟩
end Go.Proofs.YtibjcppjfkamhaaGreatDoor
namespace Go.Proofs.YtibjcppjfkamhaaGreatDoor
open Go.RowKit
set_option linter.unusedVariables false
theorem cL9 {w:Wd} (h:bG3 w≤1048576):aJ0 w:=by
 unfold bG3 at h
 have h1:=aV5 (bk:=aT2) (fun a=>cN2 a) w.classes
 have h2:=aV5 (bk:=aS9) (fun a=>cJ0 a) w.heap
 refine ⟨by omega,by omega,fun c hc=>?_,fun o ho=>?_⟩
 ·have h3:=bR3 (bk:=aT2) hc
  have e3:aT2 c=bkS c.name+bkI c.super+bkI c.slots+(bkL aQ2) c.methods+1:=rfl
  have h4:=aV5 (bk:=aQ2) (fun a=>cL1 a) c.methods
  refine ⟨by omega,fun m hm=>?_⟩
  have h5:=bR3 (bk:=aQ2) hm
  have e5:aQ2 m=bkS m.name+bkI m.args+bkI m.temps+bkI m.prim+(bkL aP4) m.code+1:=rfl
  have h6:=aV5 (bk:=aP4) (fun a=>cE9 a) m.code
  omega
 ·have h3:=bR3 (bk:=aS9) ho
  have e3:aS9 o=bkI o.cls+(bkL bkV) o.slots+1:=rfl
  have h4:=aV5 (bk:=bkV) (fun a=>cP6 a) o.slots
  omega
end Go.Proofs.YtibjcppjfkamhaaGreatDoor
namespace Go.Proofs.YtibjcppjfkamhaaGreatDoor
open Go.RowKit
set_option linter.unusedVariables false
end Go.Proofs.YtibjcppjfkamhaaGreatDoor
namespace Go.Proofs.YtibjcppjfkamhaaGreatDoor
open Go.RowKit
set_option linter.unusedVariables false
end Go.Proofs.YtibjcppjfkamhaaGreatDoor
namespace Go.Proofs.YtibjcppjfkamhaaGreatDoor
open Go.RowKit
set_option linter.unusedVariables false
end Go.Proofs.YtibjcppjfkamhaaGreatDoor
