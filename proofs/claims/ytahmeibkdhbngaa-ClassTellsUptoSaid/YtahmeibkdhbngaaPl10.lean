import Derived.Test.YtahmeibkdhbngaaMir
import Derived.Test.YtahmeibkdhbngaaOk
/- Plain laws of the mirrors: the same, own copies. No program in sight. -/
namespace Go.Proofs.Ytahmeibkdhbngaa
open Go.RowKit
set_option linter.unusedVariables false
theorem aV2 (a b:V):aA6 (eV a) (eV b)=decide (a=b):=eqV a b
theorem aQ9 (a b:St):aA6 (eSt a) (eSt b)=decide (a=b):=b86 a b
theorem aQ4 (a b:Ln):aA6 (eLn a) (eLn b)=decide (a=b):=b85 a b
theorem aL0 (a b:Ins):aA6 (aI7 a) (aI7 b)=decide (a=b):=b72 a b
theorem aM0 {α:Type} {l:List α} {k n:Nat} (h:n+1=(l.drop k).length):∃y,l[k]?=some y∧l.drop k=y::l.drop (k+1)∧n=(l.drop (k+1)).length:=by
 rw [List.length_drop] at h
 have hk:k < l.length:=by omega
 refine ⟨l[k],List.getElem?_eq_getElem hk,List.drop_eq_getElem_cons hk,by rw [List.length_drop]; omega⟩
theorem aM7 {α:Type} {l:List α} {k:Nat} (h:0=(l.drop k).length):l.drop k=[]:=List.eq_nil_of_length_eq_zero h.symm
theorem aY4 (N:Nat) (b:List Ins):∀(l:List Ins) (k:Nat),l.length=(b.drop k).length→J6 N b l k=some (if l=b.drop k then .next () else .ret false)
 |[],k,h=>by rw [aM7 h]; rfl
 |x::l,k,h=>by
  obtain ⟨y,hy,hd,hl⟩:=aM0 h
  rw [hd,J6]
  simp only [Option.bind_some,Option.bind_none,cond_true,cond_false,Bool.cond_decide,aV2,aQ9,aQ4,aL0,Bool.not_true,Bool.not_false,J9,hy,aY4 N b l (k+1) hl]
  by_cases e:x=y<;>simp [e]
theorem aY5 (N:Nat) (a b:List Ins):Q0 N a b=some (decide (a=b)):=by
 unfold Q0
 by_cases h:a.length=b.length
 ·rw [aY4 N b a 0 (by simpa using h)]
  by_cases e:a=b<;>simp [h,e]
 ·have:a≠b:=fun e=>h (by rw [e])
  have h':¬((a.length:Int)=b.length):=by omega
  simp [this,h']
theorem aW8 (N:Nat) (b:Wd) (i:Nat) (o:Ob) (ho:b.heap[i]?=some o):∀(l:List V) (k:Nat),l.length=(o.slots.drop k).length→J2 N b i l k=some (if l=o.slots.drop k then .next () else .ret false)
 |[],k,h=>by rw [aM7 h]; rfl
 |x::l,k,h=>by
  obtain ⟨y,hy,hd,hl⟩:=aM0 h
  rw [hd,J2]
  simp only [Option.bind_some,Option.bind_none,cond_true,cond_false,Bool.cond_decide,aV2,aQ9,aQ4,aL0,Bool.not_true,Bool.not_false,J9,hy,ho,aW8 N b i o ho l (k+1) hl]
  by_cases e:x=y<;>simp [e]
theorem aW2 (N:Nat) (b:Wd):∀(l:List Ob) (k:Nat),l.length=(b.heap.drop k).length→I8 N b l k=some (if l=b.heap.drop k then .next () else .ret false)
 |[],k,h=>by rw [aM7 h]; rfl
 |x::l,k,h=>by
  obtain ⟨y,hy,hd,hl⟩:=aM0 h
  rw [hd,I8]
  simp only [Option.bind_some,Option.bind_none,cond_true,cond_false,Bool.cond_decide,aV2,aQ9,aQ4,aL0,Bool.not_true,Bool.not_false,J9,hy,aW2 N b l (k+1) hl]
  obtain ⟨xc,xs⟩:=x
  obtain ⟨yc,ys⟩:=y
  by_cases e1:xc=yc
  ·by_cases e2:xs.length=ys.length
   ·have:=aW8 N b k ⟨yc,ys⟩ hy xs 0 (by simpa using e2)
    simp only [List.drop_zero] at this
    by_cases e3:xs=ys
    ·subst e3; simp [e1,this]
    ·simp [e1,e2,e3,this]
   ·have e3:xs≠ys:=fun e=>e2 (by rw [e])
    have e2':¬((xs.length:Int)=ys.length):=by omega
    simp [e1,e2',e3]
  ·simp [e1]
theorem aV4 (N:Nat) (c:Cl):∀(l:List Me) (k:Nat),l.length=(c.methods.drop k).length→I9 N c l k=some (if l=c.methods.drop k then .next () else .ret false)
 |[],k,h=>by rw [aM7 h]; rfl
 |x::l,k,h=>by
  obtain ⟨y,hy,hd,hl⟩:=aM0 h
  rw [hd,I9]
  simp only [Option.bind_some,Option.bind_none,cond_true,cond_false,Bool.cond_decide,aV2,aQ9,aQ4,aL0,Bool.not_true,Bool.not_false,J9,hy,aV4 N c l (k+1) hl,aY5]
  obtain ⟨x1,x2,x3,x4,x5⟩:=x
  obtain ⟨y1,y2,y3,y4,y5⟩:=y
  by_cases e1:x1=y1
  ·by_cases e2:x2=y2
   ·by_cases e3:x3=y3
    ·by_cases e4:x4=y4
     ·by_cases e5:x5=y5<;>simp [e1,e2,e3,e4,e5]
     ·simp [e1,e2,e3,e4]
    ·simp [e1,e2,e3]
   ·simp [e1,e2]
  ·simp [e1]
theorem aW7 (N:Nat) (b:Wd):∀(l:List Cl) (k:Nat),l.length=(b.classes.drop k).length→J3 N b l k=some (if l=b.classes.drop k then .next () else .ret false)
 |[],k,h=>by rw [aM7 h]; rfl
 |x::l,k,h=>by
  obtain ⟨y,hy,hd,hl⟩:=aM0 h
  rw [hd,J3]
  simp only [Option.bind_some,Option.bind_none,cond_true,cond_false,Bool.cond_decide,aV2,aQ9,aQ4,aL0,Bool.not_true,Bool.not_false,J9,hy,aW7 N b l (k+1) hl]
  obtain ⟨x1,x2,x3,x4⟩:=x
  obtain ⟨y1,y2,y3,y4⟩:=y
  by_cases e1:x1=y1
  ·by_cases e2:x2=y2
   ·by_cases e3:x3=y3
    ·by_cases e4:x4.length=y4.length
     ·have:=aV4 N ⟨y1,y2,y3,y4⟩ x4 0 (by simpa using e4)
      simp only [List.drop_zero] at this
      by_cases e5:x4=y4
      ·subst e5; simp [e1,e2,e3,this]
      ·simp [e1,e2,e3,e4,e5,this]
     ·have e5:x4≠y4:=fun e=>e4 (by rw [e])
      have e4':¬((x4.length:Int)=y4.length):=by omega
      simp [e1,e2,e3,e4',e5]
    ·simp [e1,e2,e3]
   ·simp [e1,e2]
  ·simp [e1]
theorem aX0 (N:Nat) (a b:Wd):H9 N a b=some (decide (a=b)):=by
 unfold H9
 obtain ⟨a1,a2,a3⟩:=a
 obtain ⟨b1,b2,b3⟩:=b
 by_cases e3:a3=b3
 ·by_cases h1:a1.length=b1.length
  ·by_cases h2:a2.length=b2.length
   ·have r1:=aW7 N ⟨b1,b2,b3⟩ a1 0 (by simpa using h1)
    have r2:=aW2 N ⟨b1,b2,b3⟩ a2 0 (by simpa using h2)
    simp only [List.drop_zero] at r1 r2
    by_cases e1:a1=b1
    ·subst e1
     by_cases e2:a2=b2
     ·subst e2; simp [e3,r1,r2]
     ·simp [e2,e3,h2,r1,r2]
    ·simp [e1,e3,h1,h2,r1]
   ·have e2:a2≠b2:=fun e=>h2 (by rw [e])
    have h2':¬((a2.length:Int)=b2.length):=by omega
    simp [e2,e3,h1,h2']
  ·have e1:a1≠b1:=fun e=>h1 (by rw [e])
   have h1':¬((a1.length:Int)=b1.length):=by omega
   simp [e1,e3,h1']
 ·simp [e3]
end Go.Proofs.Ytahmeibkdhbngaa
namespace Go.Proofs.Ytahmeibkdhbngaa
open Go.RowKit
set_option linter.unusedVariables false
theorem E8 {a b:Nat} (h:a≤b):Nat.ble a b=true:=by rw [Nat.ble_eq]; exact h
theorem a00 {α:Type} {l:List α} {i:Int} (h:¬(i < l.length)):l[i.toNat]?=none:=List.getElem?_eq_none (by omega)
theorem bK3 {α:Type} {l:List α} {i:Int} (h:0≤i):H7 l i=l[i.toNat]?:=by
 unfold H7; rw [decide_eq_true h]; rfl
theorem aK5 {α:Type} {l:List α} {i:Int} (h:0≤i) (h2:i < l.length):∃x,l[i.toNat]?=some x∧H7 l i=some x:=by
 have hl:i.toNat < l.length:=by omega
 exact ⟨l[i.toNat],List.getElem?_eq_getElem hl,by rw [bK3 h,List.getElem?_eq_getElem hl]⟩
theorem aY1 (N:Nat) {l:List V} (h:l.length≤1048576):aC4 N l=some l:=by
 unfold aC4
 rw [E8 (by omega)]
 rfl
theorem aN9 (N:Nat):∀(l:List Ob) (k:Nat) (acc:List Ob),(∀o∈l,o.slots.length≤1048576)→acc.length+l.length≤1048576→O9 N l k acc=some (acc++l)
 |[],k,acc,_,_=>by simp [O9]
 |x::l,k,acc,h,hl=>by
  rw [O9,aY1 N (h x (by simp))]
  simp only [Option.bind_some]
  rw [E8 (by simp at hl ⊢; omega)]
  simp only [cond_true]
  rw [aN9 N l (k+1) _ (fun o ho=>h o (by simp [ho])) (by simp at hl ⊢; omega)]
  simp
theorem aL8 (N:Nat) {l:List Ob} (h:∀o∈l,o.slots.length≤1048576) (hl:l.length≤1048576):aB4 N l=some l:=by
 unfold aB4
 rw [aN9 N l 0 [] h (by simpa using hl)]
 rfl
end Go.Proofs.Ytahmeibkdhbngaa
namespace Go.Proofs.Ytahmeibkdhbngaa
open Go.RowKit
set_option linter.unusedVariables false
theorem bQ5 : ∀a:List UInt8,Op.bytesLess a a=false
 |[]=>rfl
 |a::x=>by simp [Op.bytesLess,bQ5 x]
theorem bH6 : ∀a b c:List UInt8,Op.bytesLess a b=true→Op.bytesLess b c=true→Op.bytesLess a c=true
 |_,[],_,h,_=>by simp [Op.bytesLess] at h
 |_,_::_,[],_,h=>by simp [Op.bytesLess] at h
 |[],_::_,_::_,_,_=>rfl
 |a::x,b::y,c::z,h,h'=>by
  simp only [Op.bytesLess,Bool.or_eq_true,Bool.and_eq_true,decide_eq_true_eq,beq_iff_eq] at h h' ⊢
  rcases h with h|⟨rfl,h⟩
  ·rcases h' with h'|⟨rfl,_⟩
   ·exact Or.inl (UInt8.lt_trans h h')
   ·exact Or.inl h
  ·rcases h' with h'|⟨rfl,h'⟩
   ·exact Or.inl h'
   ·exact Or.inr ⟨rfl,bH6 x y z h h'⟩
theorem bQ9 : ∀a b:List UInt8,Op.bytesLess a b=false→Op.bytesLess b a=false→a=b
 |[],[],_,_=>rfl
 |[],_::_,h,_=>by simp [Op.bytesLess] at h
 |_::_,[],_,h=>by simp [Op.bytesLess] at h
 |a::x,b::y,h,h'=>by
  simp only [Op.bytesLess,Bool.or_eq_false_iff,decide_eq_false_iff_not,Bool.and_eq_false_iff,beq_eq_false_iff_ne,ne_eq] at h h'
  have e:a=b:=by
   rcases h with ⟨h1,_⟩
   rcases h' with ⟨h2,_⟩
   exact UInt8.le_antisymm (UInt8.not_lt.1 h2) (UInt8.not_lt.1 h1)
  subst e
  have h1:Op.bytesLess x y=false:=h.2.resolve_left (fun h=>h rfl)
  have h2:Op.bytesLess y x=false:=h'.2.resolve_left (fun h=>h rfl)
  rw [bQ9 x y h1 h2]
theorem bF8 (b:ByteArray):b.toList=b.data.toList:=by
 have:∀(n i:Nat) (r:List UInt8),n=b.size - i→ByteArray.toList.loop b i r=r.reverse++b.data.toList.drop i:=by
  intro n
  induction n with
  |zero =>
   intro i r h
   unfold ByteArray.toList.loop
   rw [if_neg (by omega)]
   have:b.data.toList.length≤i:=by simpa using (show b.size≤i by omega)
   rw [List.drop_eq_nil_of_le this]; simp
  |succ n ih =>
   intro i r h
   have hi:i < b.size:=by omega
   have hi':i < b.data.toList.length:=by simpa using hi
   unfold ByteArray.toList.loop
   rw [if_pos hi,ih (i+1) _ (by omega),List.drop_eq_getElem_cons hi']
   have e:b.get! i=b.data.toList[i]:=by
    show b.data[i]! = _
    rw [getElem!_pos b.data i hi,Array.getElem_toList]
   simp [e]
 have:=this b.size 0 [] (by omega)
 simpa [ByteArray.toList] using this
theorem toList_inj {a b:ByteArray} (h:a.toList=b.toList):a=b:=by
 rw [bF8,bF8] at h
 cases a; cases b
 congr
 exact Array.toList_inj.1 h
theorem aH4 (a:ByteArray):I6 a a=false:=bQ5 _
theorem lt_trans {a b c:ByteArray} (h:I6 a b=true) (h':I6 b c=true):I6 a c=true:=bH6 _ _ _ h h'
theorem bR5 {a b:ByteArray} (h:I6 a b=false) (h':I6 b a=false):a=b:=toList_inj (bQ9 _ _ h h')
theorem bY7 {a b:ByteArray} (h:I6 a b=true):a≠b:=fun e=>by rw [e,aH4] at h; cases h
theorem bM7 {a b:ByteArray} (h:I6 a b=true):I6 b a=false:=by
 cases e:I6 b a with
 |false=>rfl
 |true=>have:=lt_trans h e; rw [aH4] at this; cases this
def aO5 (ms:List Me):Prop:=ms.Pairwise fun a b=>I6 a.name b.name=true
def K6 (s:ByteArray):List Me→Option Nat
 |[]=>none
 |m::r=>if m.name=s then some 0 else (K6 s r).map (·+1)
theorem aB2 {s:ByteArray}:∀{ms:List Me} {i:Nat},K6 s ms=some i→∃m,ms[i]?=some m∧m.name=s
 |m::r,i,h=>by
  unfold K6 at h
  by_cases e:m.name=s
  ·rw [if_pos e] at h; cases h; exact ⟨m,rfl,e⟩
  ·rw [if_neg e] at h
   cases hr:K6 s r with
   |none=>rw [hr] at h; cases h
   |some j=>rw [hr] at h; cases h; obtain ⟨m',h1,h2⟩:=aB2 hr; exact ⟨m',h1,h2⟩
theorem bK0 {s:ByteArray}:∀{ms:List Me},K6 s ms=none→∀m∈ms,m.name≠s
 |[],_=>fun m hm=>by cases hm
 |m::r,h=>by
  unfold K6 at h
  by_cases e:m.name=s
  ·rw [if_pos e] at h; cases h
  ·rw [if_neg e] at h
   cases hr:K6 s r with
   |some j=>rw [hr] at h; cases h
   |none =>
    intro x hx
    rcases List.mem_cons.1 hx with rfl|hx
    ·exact e
    ·exact bK0 hr x hx
theorem aF9 {ms:List Me} (h:aO5 ms) {i j:Nat} {a b:Me} (hi:ms[i]?=some a) (hj:ms[j]?=some b) (hij:i < j):I6 a.name b.name=true:=by
 obtain ⟨hi1,rfl⟩:=List.getElem?_eq_some_iff.1 hi
 obtain ⟨hj1,rfl⟩:=List.getElem?_eq_some_iff.1 hj
 exact List.pairwise_iff_getElem.1 h i j hi1 hj1 hij
theorem bZ8 {ms:List Me} (h:aO5 ms) {i:Nat} {m:Me} (hm:ms[i]?=some m):K6 m.name ms=some i:=by
 cases hx:K6 m.name ms with
 |none=>exact absurd rfl (bK0 hx m (List.mem_of_getElem? hm))
 |some j =>
  obtain ⟨m',h1,h2⟩:=aB2 hx
  rcases Nat.lt_trichotomy i j with hij|hij|hij
  ·have:=aF9 h hm h1 hij; rw [h2,aH4] at this; cases this
  ·rw [hij]
  ·have:=aF9 h h1 hm hij; rw [h2,aH4] at this; cases this
theorem b23 {ms:List Me} (h:∀i m p,0 < i→ms[i]?=some m→ms[i - 1]?=some p→I6 p.name m.name=true):aO5 ms:=by
 have key:∀(d i:Nat) (a b:Me),ms[i]?=some a→ms[i+d+1]?=some b→I6 a.name b.name=true:=by
  intro d
  induction d with
  |zero=>intro i a b ha hb; exact h (i+1) b a (by omega) hb (by simpa using ha)
  |succ d ih =>
   intro i a b ha hb
   have hlt:=(List.getElem?_eq_some_iff.1 hb).1
   obtain ⟨x,hx⟩:∃x,ms[i+d+1]?=some x:=⟨_,List.getElem?_eq_getElem (by omega)⟩
   exact lt_trans (ih i a x ha hx) (h (i+(d+1)+1) b x (by omega) hb (by rw [show i+(d+1)+1 - 1=i+d+1 by omega]; exact hx))
 refine List.pairwise_iff_getElem.2 fun i j hi hj hij=>?_
 refine key (j - i - 1) i _ _ (List.getElem?_eq_getElem hi) ?_
 rw [show i+(j - i - 1)+1=j by omega]
 exact List.getElem?_eq_getElem hj
theorem aP7 (N:Nat) (m:Me) (s:ByteArray):J7 N m s=some (if I6 m.name s=true then -1 else if m.name=s then 0 else 1):=by
 unfold J7 X8 cmp_isNaN_string
 cases h:I6 m.name s
 ·by_cases e:m.name=s<;>simp [e]
 ·simp
theorem aS2 (N:Nat) (ms:List Me) (s:ByteArray) (hl:ms.length≤1048576) (hr:aO5 ms):∀(n:Nat) (a b:Nat),a≤b→b≤ms.length→b - a < n →
  (∀i m,i < a→ms[i]?=some m→I6 m.name s=true)→(∀i m,b≤i→ms[i]?=some m→I6 m.name s=false) →
  ∃v:Nat,l7 N ms s (fun x0_ x1_=>J7 N x0_ x1_) n (a:Int) (b:Int)=some (v:Int)∧v≤ms.length ∧
   (∀i m,i < v→ms[i]?=some m→I6 m.name s=true)∧(∀i m,v≤i→ms[i]?=some m→I6 m.name s=false)
 |0,a,b,_,_,h,_,_=>by omega
 |n+1,a,b,hab,hb,hn,ha,hbb=>by
  rw [l7]
  by_cases hlt:a < b
  ·have hlt':(a:Int) < (b:Int):=by omega
   have w1:wr ((a:Int)+(b:Int))=((a+b:Nat):Int):=by rw [aO4 (by unfold M9; omega)]; omega
   have w2:((a+b:Nat):Int) / 2=(((a+b) / 2:Nat):Int):=by omega
   have w3:decide (M9 ((((a+b) / 2:Nat):Int)))=true:=decide_eq_true (by unfold M9; omega)
   have w4:wr ((((a+b) / 2:Nat):Int)+1)=(((a+b) / 2+1:Nat):Int):=by rw [aO4 (by unfold M9; omega)]; omega
   have hmid:(a+b) / 2 < ms.length:=by omega
   obtain ⟨x,hx⟩:∃x,ms[(a+b) / 2]?=some x:=⟨_,List.getElem?_eq_getElem hmid⟩
   have w5:(0:Int)≤((a+b:Nat):Int):=by omega
   have ho:=aP7 N x s
   simp only [w1,w2,w3,w4,w5,hlt',J9,hx,ho,decide_true,cond_true,Option.bind_some]
   cases hc:I6 x.name s with
   |true =>
    simp only [if_true,show ((-1:Int) < 0)=True by simp,decide_true,cond_true,Option.bind_some]
    refine aS2 N ms s hl hr n _ b (by omega) hb (by omega) (fun i m hi hm=>?_) hbb
    rcases Nat.lt_or_ge i ((a+b) / 2) with h|h
    ·exact lt_trans (aF9 hr hm hx h) hc
    ·have e:i=(a+b) / 2:=by omega
     subst e; rw [hx] at hm; cases hm; exact hc
   |false =>
    have hd:∀i m,(a+b) / 2≤i→ms[i]?=some m→I6 m.name s=false:=by
     intro i m hi hm
     rcases Nat.lt_or_ge ((a+b) / 2) i with h|h
     ·cases hq:I6 m.name s with
      |false=>rfl
      |true=>have:=lt_trans (aF9 hr hx hm h) hq; rw [hc] at this; cases this
     ·have e:i=(a+b) / 2:=by omega
      subst e; rw [hx] at hm; cases hm; exact hc
    have hz:decide ((if false=true then (-1:Int) else if x.name=s then 0 else 1) < 0)=false:=by
     by_cases e:x.name=s<;>simp [e]
    rw [hz]
    simp only [cond_false,Option.bind_some]
    exact aS2 N ms s hl hr n a _ (by omega) (by omega) (by omega) ha hd
  ·have hlt':¬(a:Int) < (b:Int):=by omega
   simp only [hlt',decide_false,cond_false]
   have e:a=b:=by omega
   subst e
   exact ⟨a,rfl,hb,ha,hbb⟩
theorem bA9 (N:Nat) (ms:List Me) (s:ByteArray) (hN:1048577≤N) (hl:ms.length≤1048576) (hr:aO5 ms) :
  ∃v:Nat,l9 N ms s (fun x0_ x1_=>J7 N x0_ x1_)=some ((v:Int),(K6 s ms).isSome)∧(∀i:Nat,K6 s ms=some i→(v:Int)=i)∧v≤ms.length ∧
   (∀i m,i < v→ms[i]?=some m→I6 m.name s=true)∧(∀i m,v≤i→ms[i]?=some m→I6 m.name s=false):=by
 obtain ⟨v,hv,hle,h1,h2⟩:=aS2 N ms s hl hr N 0 ms.length (by omega) (by omega) (by omega) (fun i m h=>absurd h (by omega)) (fun i m h hm=>by
  have:=(List.getElem?_eq_some_iff.1 hm).1; omega)
 refine ⟨v,?_,?_,hle,h1,h2⟩
 ·unfold l9
  have hv':l7 N ms s (fun x0_ x1_=>J7 N x0_ x1_) N (0:Int) (ms.length:Int)=some (v:Int):=hv
  rw [hv']
  simp only [Option.bind_some]
  by_cases hlt:v < ms.length
  ·have hlt':(v:Int) < (ms.length:Int):=by omega
   obtain ⟨x,hx⟩:∃x,ms[v]?=some x:=⟨_,List.getElem?_eq_getElem hlt⟩
   have hf:=h2 v x (Nat.le_refl _) hx
   simp only [hlt',decide_true,cond_true,J9,hx,Option.bind_some,aP7,hf]
   by_cases e:x.name=s
   ·have:=bZ8 hr hx
    rw [e] at this
    simp [e,this]
   ·cases hi:K6 s ms with
    |none=>simp [e]
    |some i =>
     obtain ⟨m',hm1,hm2⟩:=aB2 hi
     rcases Nat.lt_trichotomy i v with h|h|h
     ·have:=h1 i m' h hm1; rw [hm2,aH4] at this; cases this
     ·subst h; rw [hx] at hm1; cases hm1; exact absurd hm2 e
     ·have:=aF9 hr hx hm1 h
      rw [hm2] at this; rw [hf] at this; cases this
  ·have hlt':¬(v:Int) < (ms.length:Int):=by omega
   simp only [hlt',decide_false,cond_false,Option.bind_some]
   cases hi:K6 s ms with
   |none=>rfl
   |some i =>
    obtain ⟨m',hm1,hm2⟩:=aB2 hi
    have:=(List.getElem?_eq_some_iff.1 hm1).1
    have:=h1 i m' (by omega) hm1
    rw [hm2,aH4] at this; cases this
 ·intro i hi
  obtain ⟨m',hm1,hm2⟩:=aB2 hi
  have hlen:=(List.getElem?_eq_some_iff.1 hm1).1
  rcases Nat.lt_trichotomy i v with h|h|h
  ·have:=h1 i m' h hm1; rw [hm2,aH4] at this; cases this
  ·rw [h]
  ·obtain ⟨x,hx⟩:∃x,ms[v]?=some x:=⟨ms[v]'(by omega),List.getElem?_eq_getElem (by omega)⟩
   have:=aF9 hr hx hm1 h
   rw [hm2] at this
   rw [h2 v x (Nat.le_refl _) hx] at this; cases this
theorem bsearch_eq (N:Nat) (ms:List Me) (s:ByteArray) (hN:1048577≤N) (hl:ms.length≤1048576) (hr:aO5 ms) :
  ∃v:Int,l9 N ms s (fun x0_ x1_=>J7 N x0_ x1_)=some (v,(K6 s ms).isSome)∧∀i:Nat,K6 s ms=some i→v=i:=by
 obtain ⟨v,h1,h2,_⟩:=bA9 N ms s hN hl hr
 exact ⟨_,h1,h2⟩
def aC0 (w:Wd) (s:ByteArray):Nat→Int→Option (Int×Int)
 |0,_=>none
 |n+1,c=>if 0≤c then (match w.classes[c.toNat]? with
  |some x=>(match K6 s x.methods with|some i=>some (c,(i:Int))|none=>aC0 w s n x.super)
  |none=>none) else none
def bH0 (w:Wd) (s:ByteArray) (c:Int):Int×Int:=(aC0 w s (w.classes.length+1) c).getD (-1,-1)
def a97 (w:Wd):Prop:=∀x∈w.classes,aO5 x.methods
def aB9 (w:Wd):Prop:=w.classes.length≤1048576∧w.heap.length≤1048576∧(∀x∈w.classes,x.methods.length≤1048576∧∀m∈x.methods,m.code.length≤1048576)∧∀o∈w.heap,o.slots.length≤1048576
def aV3 {σ:Type} (o:Option (Int×Int)) (s:σ):U2 (Int×Int) σ:=match o with|some p=>.ret p|none=>.next s
theorem aM5 (N:Nat) (w:Wd) (s:ByteArray) (hN:1048577≤N) (hw:a97 w) (hs:aB9 w):∀(n:Nat) (k:Nat) (c:Int),k≤w.classes.length+1→w.classes.length+1 - k < n →
  O1 N w s n c (k:Int)=some (aV3 (aC0 w s (w.classes.length+1 - k) c) ())
 |0,k,c,_,h=>by omega
 |n+1,k,c,hk,hn=>by
  rw [O1]
  by_cases h0:0≤c
  ·by_cases h1:c < w.classes.length
   ·obtain ⟨x,hx,hnth⟩:=aK5 h0 h1
    by_cases h2:k≤w.classes.length
    ·have h2':(k:Int)≤(w.classes.length:Int):=by omega
     have hxm:=List.mem_of_getElem? hx
     obtain ⟨v,hv,hvi⟩:=bsearch_eq N x.methods s hN (hs.2.2.1 x hxm).1 (hw x hxm)
     have e:w.classes.length+1 - k=(w.classes.length+1 - (k+1))+1:=by omega
     have wk:wr ((k:Int)+1)=((k+1:Nat):Int):=by rw [aO4 (by have:=hs.1; unfold M9; omega)]; omega
     rw [e,aC0]
     simp only [h0,h1,h2',decide_true,cond_true,Option.bind_some,hnth,hv,hx,if_true,wk]
     cases hi:K6 s x.methods with
     |some i=>have:=hvi i hi; subst this; rfl
     |none =>
      simp only [Option.isSome_none,cond_false]
      exact aM5 N w s hN hw hs n (k+1) x.super (by omega) (by omega)
    ·have h2':¬(k:Int)≤(w.classes.length:Int):=by omega
     have e:w.classes.length+1 - k=0:=by omega
     simp only [h0,h1,h2',decide_true,decide_false,cond_true,cond_false,Option.bind_some,e]
     rfl
   ·have:aC0 w s (w.classes.length+1 - k) c=none:=by
     cases w.classes.length+1 - k with
     |zero=>rfl
     |succ n=>rw [aC0,if_pos h0,a00 h1]
    simp only [h0,h1,decide_true,decide_false,cond_true,cond_false,Option.bind_some,this]
    rfl
  ·have:aC0 w s (w.classes.length+1 - k) c=none:=by
    cases w.classes.length+1 - k with
    |zero=>rfl
    |succ n=>rw [aC0,if_neg h0]
   simp only [h0,decide_false,cond_false,Option.bind_some,this]
   rfl
theorem bG4 (N:Nat) (w:Wd) (c:Int) (s:ByteArray) (hN:1048578≤N) (hw:a97 w) (hs:aB9 w):aE9 N w c s=some (bH0 w s c):=by
 unfold aE9 bH0
 have h:=aM5 N w s (by omega) hw hs N 0 c (by omega) (by have:=hs.1; omega)
 have h':O1 N w s N c (0:Int)=some (aV3 (aC0 w s (w.classes.length+1) c) ()):=h
 rw [h']
 cases aC0 w s (w.classes.length+1) c<;>rfl
def U4 (w:Wd):Nat→Int→List Int
 |0,_=>[]
 |n+1,c=>if 0≤c then (match w.classes[c.toNat]? with|some x=>c::U4 w n x.super|none=>[]) else []
theorem bI7 (w:Wd):∀(n:Nat) (c:Int),(U4 w n c).length≤n
 |0,_=>Nat.le_refl _
 |n+1,c=>by
  rw [U4]
  split
  ·split
   ·have:=bI7 w n; simp only [List.length_cons]; exact Nat.succ_le_succ (this _)
   ·simp
  ·simp
theorem bM5 (w:Wd):∀(n:Nat) (c:Int),∀k∈U4 w n c,0≤k∧k < w.classes.length
 |0,_,k,h=>by cases h
 |n+1,c,k,h=>by
  rw [U4] at h
  split at h
  ·split at h
   ·rename_i h0 _ x hx
    rcases List.mem_cons.1 h with rfl|h
    ·exact ⟨h0,by have:=(List.getElem?_eq_some_iff.1 hx).1; omega⟩
    ·exact bM5 w n _ k h
   ·cases h
  ·cases h
theorem aN1 (N:Nat) (w:Wd) (hs:w.classes.length≤1048576):∀(n:Nat) (c:Int) (acc:List Int),acc.length≤w.classes.length+1→w.classes.length+1 - acc.length < n →
  Q3 N w n c acc=some (acc++U4 w (w.classes.length+1 - acc.length) c)
 |0,c,acc,_,h=>by omega
 |n+1,c,acc,hk,hn=>by
  rw [Q3]
  by_cases h0:0≤c
  ·by_cases h1:c < w.classes.length
   ·obtain ⟨x,hx,hnth⟩:=aK5 h0 h1
    by_cases h2:acc.length≤w.classes.length
    ·have h2':(acc.length:Int)≤(w.classes.length:Int):=by omega
     have e:w.classes.length+1 - acc.length=(w.classes.length+1 - (acc++[c]).length)+1:=by simp; omega
     have hb:Nat.ble ((acc.length+[c].length)*8) 140737488355328=true:=E8 (by simp; omega)
     rw [e,U4]
     simp only [h0,h1,h2',decide_true,cond_true,Option.bind_some,hnth,hx,if_true,hb]
     rw [aN1 N w hs n x.super (acc++[c]) (by simp; omega) (by simp; omega)]
     simp
    ·have h2':¬(acc.length:Int)≤(w.classes.length:Int):=by omega
     have e:w.classes.length+1 - acc.length=0:=by omega
     simp [h0,h1,h2',e,U4]
   ·have:U4 w (w.classes.length+1 - acc.length) c=[]:=by
     cases w.classes.length+1 - acc.length with
     |zero=>rfl
     |succ n=>rw [U4,if_pos h0,a00 h1]
    simp [h0,h1,this]
  ·have:U4 w (w.classes.length+1 - acc.length) c=[]:=by
    cases w.classes.length+1 - acc.length with
    |zero=>rfl
    |succ n=>rw [U4,if_neg h0]
   simp [h0,this]
theorem aU1 (N:Nat) (w:Wd) (c:Int) (hN:1048578≤N) (hs:w.classes.length≤1048576):aC3 N w c=some (U4 w (w.classes.length+1) c):=by
 unfold aC3
 rw [aN1 N w hs N c [] (by simp) (by simp; omega)]
 rfl
def P6 (w:Wd) (c:Int):Int:=(U4 w (w.classes.length+1) c).foldl (fun n k=>match w.classes[k.toNat]? with|some x=>wr (n+x.slots)|none=>n) 0
theorem aI3 (N:Nat) (w:Wd) (L:List Int) (hL:∀k∈L,0≤k∧k < w.classes.length):∀(l:List Int) (k:Nat) (n:Int),l=L.drop k →
  N8 N w L l k n=some (l.foldl (fun n k=>match w.classes[k.toNat]? with|some x=>wr (n+x.slots)|none=>n) n)
 |[],k,n,_=>rfl
 |c::l,k,n,h=>by
  obtain ⟨h1,h2,_⟩:=D9 h
  obtain ⟨c0,c1⟩:=hL c (List.mem_of_getElem? h1)
  obtain ⟨x,hx,hnth⟩:=aK5 c0 c1
  rw [N8]
  simp only [J9,h1,Option.bind_some,hnth,List.foldl_cons,hx]
  exact aI3 N w L hL l (k+1) _ h2
theorem aN4 (N:Nat) (w:Wd) (c:Int) (hN:1048578≤N) (hs:w.classes.length≤1048576):Y7 N w c=some (P6 w c):=by
 unfold Y7 P6
 rw [aU1 N w c hN hs]
 simp only [Option.bind_some]
 rw [aI3 N w _ (bM5 w _ c) (U4 w (w.classes.length+1) c) 0 0 rfl]
 rfl
theorem aJ5 (N:Nat) (s:ByteArray) (c:Int):∀(ms:List Me) (k:Nat),O6 N s c ms k=some (aV3 ((K6 s ms).map fun i=>(c,((k+i:Nat):Int))) ())
 |[],k=>rfl
 |m::r,k=>by
  rw [O6,K6]
  by_cases e:m.name=s
  ·simp [e,aV3]
  ·simp only [e,decide_false,cond_false,if_false]
   rw [aJ5 N s c r (k+1)]
   cases K6 s r with
   |none=>rfl
   |some i=>simp [aV3]; omega
theorem bE8 (w:Wd) (s:ByteArray) (N:Nat) (L:List Int):∀(n:Nat) (c:Int) (k:Nat),U4 w n c=L.drop k →
  O4 N w s L (U4 w n c) k=some (aV3 (aC0 w s n c) ())
 |0,c,k,_=>rfl
 |n+1,c,k,h=>by
  rw [aC0]
  rw [U4] at h ⊢
  by_cases h0:0≤c
  ·rw [if_pos h0] at h ⊢
   rw [if_pos h0]
   cases hx:w.classes[c.toNat]? with
   |none=>rfl
   |some x =>
    rw [hx] at h
    simp only at h ⊢
    obtain ⟨h1,h2,_⟩:=D9 h
    have hnth:H7 w.classes c=some x:=by rw [bK3 h0,hx]
    rw [O4]
    simp only [J9,h1,Option.bind_some,hnth,aJ5]
    cases hi:K6 s x.methods with
    |some i=>simp [aV3]
    |none =>
     simp only [Option.map_none,aV3]
     exact bE8 w s N L n x.super (k+1) h2
  ·rw [if_neg h0] at h ⊢
   rw [if_neg h0]
   rfl
theorem bD7 (N:Nat) (w:Wd) (c:Int) (s:ByteArray) (hN:1048578≤N) (hs:w.classes.length≤1048576):aD0 N w c s=some (bH0 w s c):=by
 unfold aD0 bH0
 rw [aU1 N w c hN hs]
 simp only [Option.bind_some]
 rw [bE8 w s N _ _ c 0 rfl]
 cases aC0 w s (w.classes.length+1) c<;>rfl
end Go.Proofs.Ytahmeibkdhbngaa
namespace Go.Proofs.Ytahmeibkdhbngaa
open Go.RowKit
set_option linter.unusedVariables false
end Go.Proofs.Ytahmeibkdhbngaa
namespace Go.Proofs.Ytahmeibkdhbngaa
open Go.RowKit
set_option linter.unusedVariables false
def nmB (u:UInt8):Bool:=!decide ((u.toNat:Int) < 33) && !decide (126 < (u.toNat:Int))
def aR7 (s:ByteArray):Bool:=s.data.toList.all nmB && (decide (0 < s.size) && decide (s.size≤12))
theorem bM4 (s:ByteArray) (k:Nat):byO s (k:Int)=s.data.toList[k]?:=by
 unfold byO
 rw [decide_eq_true (Int.natCast_nonneg k)]
 show s[k]?=_
 by_cases h:k < s.size
 ·rw [getElem?_pos s k h,List.getElem?_eq_getElem (by simpa using h)]
  rfl
 ·rw [getElem?_neg s k h,List.getElem?_eq_none (by simpa using h)]
theorem aI9 (N:Nat) (s:ByteArray):∀(n k:Nat),n+k=s.size→O7 N s n k=some (if (s.data.toList.drop k).all nmB=true then .next () else .ret false)
 |0,k,h=>by
  rw [List.drop_eq_nil_of_le (by rw [show s.data.toList.length=s.size from rfl]; omega)]
  rfl
 |n+1,k,h=>by
  have hk:k < s.data.toList.length:=by rw [show s.data.toList.length=s.size from rfl]; omega
  rw [O7,List.drop_eq_getElem_cons hk,bM4,List.getElem?_eq_getElem hk,aI9 N s n (k+1) (by omega)]
  simp only [Option.bind_some,List.all_cons]
  generalize s.data.toList[k]=u
  generalize s.data.toList.drop (k+1)=b
  by_cases h1:(u.toNat:Int) < 33
  ·have e:nmB u=false:=by simp [nmB,h1]
   simp only [h1,e,decide_true,cond_true,Option.bind_some,Bool.false_and]; rfl
  ·by_cases h2:126 < (u.toNat:Int)
   ·have e:nmB u=false:=by simp only [nmB,h1,h2,decide_true,decide_false,Bool.not_true,Bool.and_false]
    simp only [h1,h2,e,decide_true,decide_false,cond_true,cond_false,Option.bind_some,Bool.false_and]; rfl
   ·have e:nmB u=true:=by simp only [nmB,h1,h2,decide_false,Bool.not_false,Bool.and_true]
    simp only [h1,h2,e,decide_false,cond_false,Option.bind_some,Bool.true_and]
theorem aR2 (N:Nat) (s:ByteArray):aA4 N s=some (aR7 s):=by
 unfold aA4 aR7
 have e:((s.size:Int) - ((0:Nat):Int)).toNat=s.size:=by omega
 rw [e,aI9 N s s.size 0 (by omega),List.drop_zero]
 cases h:s.data.toList.all nmB
 ·simp
 ·by_cases h1:0 < s.size
  ·by_cases h2:s.size≤12
   ·have h1':(0:Int) < (s.size:Int):=by omega
    have h2':(s.size:Int)≤12:=by omega
    simp [h1,h2,h2']
   ·have h2':¬(s.size:Int)≤12:=by omega
    have h1':(0:Int) < (s.size:Int):=by omega
    simp [h2,h2']
  ·have h1':¬(0:Int) < (s.size:Int):=by omega
   simp [h1]
end Go.Proofs.Ytahmeibkdhbngaa
namespace Go.Proofs.Ytahmeibkdhbngaa
open Go.RowKit
set_option linter.unusedVariables false
end Go.Proofs.Ytahmeibkdhbngaa
namespace Go.Proofs.Ytahmeibkdhbngaa
open Go.RowKit
set_option linter.unusedVariables false
theorem bU0 {w:Wd} (h:bD0 w≤1048576):aB9 w:=by
 unfold bD0 at h
 have h1:=aK7 (bk:=aS9) (fun a=>bW3 a) w.classes
 have h2:=aK7 (bk:=aS5) (fun a=>bX1 a) w.heap
 refine ⟨by omega,by omega,fun c hc=>?_,fun o ho=>?_⟩
 ·have h3:=bE3 (bk:=aS9) hc
  have e3:aS9 c=bkS c.name+bkI c.super+bkI c.slots+(bkL aG6) c.methods+1:=rfl
  have h4:=aK7 (bk:=aG6) (fun a=>bW1 a) c.methods
  refine ⟨by omega,fun m hm=>?_⟩
  have h5:=bE3 (bk:=aG6) hm
  have e5:aG6 m=bkS m.name+bkI m.args+bkI m.temps+bkI m.prim+(bkL aK2) m.code+1:=rfl
  have h6:=aK7 (bk:=aK2) (fun a=>bF0 a) m.code
  omega
 ·have h3:=bE3 (bk:=aS5) ho
  have e3:aS5 o=bkI o.cls+(bkL bkV) o.slots+1:=rfl
  have h4:=aK7 (bk:=bkV) (fun a=>b06 a) o.slots
  omega
end Go.Proofs.Ytahmeibkdhbngaa
namespace Go.Proofs.Ytahmeibkdhbngaa
open Go.RowKit
set_option linter.unusedVariables false
end Go.Proofs.Ytahmeibkdhbngaa
namespace Go.Proofs.Ytahmeibkdhbngaa
open Go.RowKit
set_option linter.unusedVariables false
end Go.Proofs.Ytahmeibkdhbngaa
namespace Go.Proofs.Ytahmeibkdhbngaa
open Go.RowKit
set_option linter.unusedVariables false
theorem aP0 (N:Nat) (c:Cl) (hl:c.methods.length≤1048576):∀(l:List Me) (k:Nat),l=c.methods.drop k→∃o,M7 N c l k=some o∧(match o with|.ret r=>r=false|.next ()=>∀i m p,k≤i→0 < i→c.methods[i]?=some m→c.methods[i - 1]?=some p→I6 p.name m.name=true)
 |[],k,h=>⟨.next (),rfl,fun i m p hi _ hm _=>by
   have h1:=(List.getElem?_eq_some_iff.1 hm).1
   have h2:=List.drop_eq_nil_iff.1 h.symm
   omega⟩
 |m::l,k,h=>by
  obtain ⟨hm,hl2,hlt⟩:=D9 h
  have hlt:=of_decide_eq_true hlt
  rw [M7]
  by_cases h0:0 < k
  ·have h0':(0:Int) < (k:Int):=by omega
   have wk:wr ((k:Int) - 1)=((k - 1:Nat):Int):=by rw [aO4 (by unfold M9; omega)]; omega
   obtain ⟨p,hp⟩:∃p,c.methods[k - 1]?=some p:=⟨_,List.getElem?_eq_getElem (by omega)⟩
   simp only [h0',decide_true,cond_true,wk,J9,hp,Option.bind_some]
   cases hq:I6 p.name m.name with
   |false=>exact ⟨.ret false,by simp,rfl⟩
   |true =>
    obtain ⟨o,ho,h2⟩:=aP0 N c hl l (k+1) hl2
    refine ⟨o,by simp only [Bool.not_true,cond_false]; exact ho,?_⟩
    cases o with
    |ret r=>exact h2
    |next u =>
     intro i x q hi hi0 hx hq2
     rcases Nat.eq_or_lt_of_le hi with rfl|hi
     ·rw [hm] at hx; cases hx; rw [hp] at hq2; cases hq2; exact hq
     ·exact h2 i x q hi hi0 hx hq2
  ·have h0':¬(0:Int) < (k:Int):=by omega
   obtain ⟨o,ho,h2⟩:=aP0 N c hl l (k+1) hl2
   refine ⟨o,by simp only [h0',decide_false,cond_false,Option.bind_some]; exact ho,?_⟩
   cases o with
   |ret r=>exact h2
   |next u =>
    intro i x q hi hi0 hx hq2
    exact h2 i x q (by omega) hi0 hx hq2
theorem aY9 (N:Nat):∀(l:List Cl) (k:Nat),(∀c∈l,c.methods.length≤1048576)→∃o,M6 N l k=some o∧(match o with|.ret r=>r=false|.next ()=>∀c∈l,aO5 c.methods)
 |[],k,_=>⟨.next (),rfl,fun c hc=>by cases hc⟩
 |c::l,k,h=>by
  rw [M6]
  obtain ⟨o,ho,h1⟩:=aP0 N c (h c (by simp)) c.methods 0 rfl
  rw [ho]
  cases o with
  |ret r=>exact ⟨.ret r,rfl,h1⟩
  |next u =>
   obtain ⟨o,ho,h2⟩:=aY9 N l (k+1) fun d hd=>h d (by simp [hd])
   refine ⟨o,ho,?_⟩
   cases o with
   |ret r=>exact h2
   |next u =>
    intro d hd
    rcases List.mem_cons.1 hd with rfl|hd
    ·exact b23 fun i m p hi hm hp=>h1 i m p (by omega) hi hm hp
    ·exact h2 d hd
theorem bO0 (N:Nat) (w:Wd) (hs:aB9 w):∃b,aB6 N w=some b∧(b=true→a97 w):=by
 unfold aB6
 obtain ⟨o,ho,h1⟩:=aY9 N w.classes 0 fun c hc=>(hs.2.2.1 c hc).1
 rw [ho]
 cases o with
 |ret r =>
  have h1:r=false:=h1
  exact ⟨false,by rw [h1]; rfl,fun h=>by cases h⟩
 |next u=>exact ⟨true,rfl,fun _=>h1⟩
end Go.Proofs.Ytahmeibkdhbngaa
