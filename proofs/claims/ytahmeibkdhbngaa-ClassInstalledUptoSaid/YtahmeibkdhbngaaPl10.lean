import Derived.Test.YtahmeibkdhbngaaMir
import Derived.Test.YtahmeibkdhbngaaOk
/- Plain laws of the mirrors: the same, own copies. No program in sight. -/
namespace Go.Proofs.Ytahmeibkdhbngaa
open Go.RowKit
set_option linter.unusedVariables false
theorem b77 (a b:V):aB0 (eV a) (eV b)=decide (a=b):=eqV a b
theorem b34 (a b:St):aB0 (eSt a) (eSt b)=decide (a=b):=cA7 a b
theorem b44 (a b:Ln):aB0 (eLn a) (eLn b)=decide (a=b):=b99 a b
theorem bY6 (a b:Ins):aB0 (aE9 a) (aE9 b)=decide (a=b):=b83 a b
theorem bU1 {α:Type} {l:List α} {k n:Nat} (h:n+1=(l.drop k).length):∃y,l[k]?=some y∧l.drop k=y::l.drop (k+1)∧n=(l.drop (k+1)).length:=by
 rw [List.length_drop] at h
 have hk:k < l.length:=by omega
 refine ⟨l[k],List.getElem?_eq_getElem hk,List.drop_eq_getElem_cons hk,by rw [List.length_drop]; omega⟩
theorem bX5 {α:Type} {l:List α} {k:Nat} (h:0=(l.drop k).length):l.drop k=[]:=List.eq_nil_of_length_eq_zero h.symm
theorem aY2 (N:Nat) (b:List Ins):∀(l:List Ins) (k:Nat),l.length=(b.drop k).length→J4 N b l k=some (if l=b.drop k then .next () else .ret false)
 |[],k,h=>by rw [bX5 h]; rfl
 |x::l,k,h=>by
  obtain ⟨y,hy,hd,hl⟩:=bU1 h
  rw [hd,J4]
  simp only [Option.bind_some,Option.bind_none,cond_true,cond_false,Bool.cond_decide,b77,b34,b44,bY6,Bool.not_true,Bool.not_false,K4,hy,aY2 N b l (k+1) hl]
  by_cases e:x=y<;>simp [e]
theorem bM1 (N:Nat) (a b:List Ins):U9 N a b=some (decide (a=b)):=by
 unfold U9
 by_cases h:a.length=b.length
 ·rw [aY2 N b a 0 (by simpa using h)]
  by_cases e:a=b<;>simp [h,e]
 ·have:a≠b:=fun e=>h (by rw [e])
  have h':¬((a.length:Int)=b.length):=by omega
  simp [this,h']
end Go.Proofs.Ytahmeibkdhbngaa
namespace Go.Proofs.Ytahmeibkdhbngaa
open Go.RowKit
set_option linter.unusedVariables false
theorem Z4 {a b:Nat} (h:a≤b):Nat.ble a b=true:=by rw [Nat.ble_eq]; exact h
theorem aZ7 {α:Type} {l:List α} {i:Int} (h:¬(i < l.length)):l[i.toNat]?=none:=List.getElem?_eq_none (by omega)
theorem aD8 {α:Type} {l:List α} {i:Int} (h:0≤i):C9 l i=l[i.toNat]?:=by
 unfold C9; rw [decide_eq_true h]; rfl
theorem aX4 {α:Type} {l:List α} {i:Int} (h:0≤i) (h2:i < l.length):∃x,l[i.toNat]?=some x∧C9 l i=some x:=by
 have hl:i.toNat < l.length:=by omega
 exact ⟨l[i.toNat],List.getElem?_eq_getElem hl,by rw [aD8 h,List.getElem?_eq_getElem hl]⟩
def aV9 (v:V) (n:Int):Int :=
 if v.k=0∨v.k=1∨v.k=2 then (if v.n=0 then 0 else 2)
 else if v.k=3 then (if v.n < -1073741824∨1073741824 < v.n then 3 else 0)
 else if v.k=4 then (if v.n < 0∨n≤v.n then 6 else 0) else 1
theorem a99 (N:Nat) (v:V) (n:Int):aA8 N v n=some (aV9 v n):=by
 unfold aA8 aV9
 by_cases h0:v.k=0
 ·by_cases h:v.n=0<;>simp [h0,h]
 by_cases h1:v.k=1
 ·by_cases h:v.n=0<;>simp [h1,h]
 by_cases h2:v.k=2
 ·by_cases h:v.n=0<;>simp [h2,h]
 by_cases h3:v.k=3
 ·by_cases h:v.n < -1073741824<;>by_cases h':1073741824 < v.n<;>simp [h3,h,h']
 by_cases h4:v.k=4
 ·by_cases h:v.n < 0<;>by_cases h':n≤v.n<;>simp [h4,h,h']
 by_cases h5:v.k < 0
 ·simp [h0,h1,h2,h3,h4,h5]
 ·have h6:4 < v.k:=by omega
  simp [h0,h1,h2,h3,h4,h5,h6]
theorem aX7 (N:Nat) {l:List V} (h:l.length≤1048576):aC5 N l=some l:=by
 unfold aC5
 rw [Z4 (by omega)]
 rfl
theorem aN5 (N:Nat):∀(l:List Ob) (k:Nat) (acc:List Ob),(∀o∈l,o.slots.length≤1048576)→acc.length+l.length≤1048576→O9 N l k acc=some (acc++l)
 |[],k,acc,_,_=>by simp [O9]
 |x::l,k,acc,h,hl=>by
  rw [O9,aX7 N (h x (by simp))]
  simp only [Option.bind_some]
  rw [Z4 (by simp at hl ⊢; omega)]
  simp only [cond_true]
  rw [aN5 N l (k+1) _ (fun o ho=>h o (by simp [ho])) (by simp at hl ⊢; omega)]
  simp
theorem bK4 (N:Nat) {l:List Ob} (h:∀o∈l,o.slots.length≤1048576) (hl:l.length≤1048576):aB7 N l=some l:=by
 unfold aB7
 rw [aN5 N l 0 [] h (by simpa using hl)]
 rfl
end Go.Proofs.Ytahmeibkdhbngaa
namespace Go.Proofs.Ytahmeibkdhbngaa
open Go.RowKit
set_option linter.unusedVariables false
theorem bR6 : ∀a:List UInt8,Op.bytesLess a a=false
 |[]=>rfl
 |a::x=>by simp [Op.bytesLess,bR6 x]
theorem bH8 : ∀a b c:List UInt8,Op.bytesLess a b=true→Op.bytesLess b c=true→Op.bytesLess a c=true
 |_,[],_,h,_=>by simp [Op.bytesLess] at h
 |_,_::_,[],_,h=>by simp [Op.bytesLess] at h
 |[],_::_,_::_,_,_=>rfl
 |a::x,b::y,c::z,h,h'=>by
  simp only [Op.bytesLess,Bool.or_eq_true,Bool.and_eq_true,decide_eq_true_eq,beq_iff_eq] at h h' ⊢
  rcases h with h|⟨rfl,h⟩
  ·rcases h' with h'|⟨rfl,_⟩
   ·exact Or.inl (UInt8.lt_trans h h')
   ·exact Or.inl h
  ·rcases h' with h'|⟨rfl,h'⟩
   ·exact Or.inl h'
   ·exact Or.inr ⟨rfl,bH8 x y z h h'⟩
theorem bR2 : ∀a b:List UInt8,Op.bytesLess a b=false→Op.bytesLess b a=false→a=b
 |[],[],_,_=>rfl
 |[],_::_,h,_=>by simp [Op.bytesLess] at h
 |_::_,[],_,h=>by simp [Op.bytesLess] at h
 |a::x,b::y,h,h'=>by
  simp only [Op.bytesLess,Bool.or_eq_false_iff,decide_eq_false_iff_not,Bool.and_eq_false_iff,beq_eq_false_iff_ne,ne_eq] at h h'
  have e:a=b:=by
   rcases h with ⟨h1,_⟩
   rcases h' with ⟨h2,_⟩
   exact UInt8.le_antisymm (UInt8.not_lt.1 h2) (UInt8.not_lt.1 h1)
  subst e
  have h1:Op.bytesLess x y=false:=h.2.resolve_left (fun h=>h rfl)
  have h2:Op.bytesLess y x=false:=h'.2.resolve_left (fun h=>h rfl)
  rw [bR2 x y h1 h2]
theorem bE6 (b:ByteArray):b.toList=b.data.toList:=by
 have:∀(n i:Nat) (r:List UInt8),n=b.size - i→ByteArray.toList.loop b i r=r.reverse++b.data.toList.drop i:=by
  intro n
  induction n with
  |zero =>
   intro i r h
   unfold ByteArray.toList.loop
   rw [if_neg (by omega)]
   have:b.data.toList.length≤i:=by simpa using (show b.size≤i by omega)
   rw [List.drop_eq_nil_of_le this]; simp
  |succ n ih =>
   intro i r h
   have hi:i < b.size:=by omega
   have hi':i < b.data.toList.length:=by simpa using hi
   unfold ByteArray.toList.loop
   rw [if_pos hi,ih (i+1) _ (by omega),List.drop_eq_getElem_cons hi']
   have e:b.get! i=b.data.toList[i]:=by
    show b.data[i]! = _
    rw [getElem!_pos b.data i hi,Array.getElem_toList]
   simp [e]
 have:=this b.size 0 [] (by omega)
 simpa [ByteArray.toList] using this
theorem toList_inj {a b:ByteArray} (h:a.toList=b.toList):a=b:=by
 rw [bE6,bE6] at h
 cases a; cases b
 congr
 exact Array.toList_inj.1 h
theorem aM9 (a:ByteArray):G6 a a=false:=bR6 _
theorem lt_trans {a b c:ByteArray} (h:G6 a b=true) (h':G6 b c=true):G6 a c=true:=bH8 _ _ _ h h'
theorem bT6 {a b:ByteArray} (h:G6 a b=false) (h':G6 b a=false):a=b:=toList_inj (bR2 _ _ h h')
theorem b88 {a b:ByteArray} (h:G6 a b=true):a≠b:=fun e=>by rw [e,aM9] at h; cases h
theorem b23 {a b:ByteArray} (h:G6 a b=true):G6 b a=false:=by
 cases e:G6 b a with
 |false=>rfl
 |true=>have:=lt_trans h e; rw [aM9] at this; cases this
def aH0 (ms:List Me):Prop:=ms.Pairwise fun a b=>G6 a.name b.name=true
def I7 (s:ByteArray):List Me→Option Nat
 |[]=>none
 |m::r=>if m.name=s then some 0 else (I7 s r).map (·+1)
theorem aC0 {s:ByteArray}:∀{ms:List Me} {i:Nat},I7 s ms=some i→∃m,ms[i]?=some m∧m.name=s
 |m::r,i,h=>by
  unfold I7 at h
  by_cases e:m.name=s
  ·rw [if_pos e] at h; cases h; exact ⟨m,rfl,e⟩
  ·rw [if_neg e] at h
   cases hr:I7 s r with
   |none=>rw [hr] at h; cases h
   |some j=>rw [hr] at h; cases h; obtain ⟨m',h1,h2⟩:=aC0 hr; exact ⟨m',h1,h2⟩
theorem bK2 {s:ByteArray}:∀{ms:List Me},I7 s ms=none→∀m∈ms,m.name≠s
 |[],_=>fun m hm=>by cases hm
 |m::r,h=>by
  unfold I7 at h
  by_cases e:m.name=s
  ·rw [if_pos e] at h; cases h
  ·rw [if_neg e] at h
   cases hr:I7 s r with
   |some j=>rw [hr] at h; cases h
   |none =>
    intro x hx
    rcases List.mem_cons.1 hx with rfl|hx
    ·exact e
    ·exact bK2 hr x hx
theorem aH6 {ms:List Me} (h:aH0 ms) {i j:Nat} {a b:Me} (hi:ms[i]?=some a) (hj:ms[j]?=some b) (hij:i < j):G6 a.name b.name=true:=by
 obtain ⟨hi1,rfl⟩:=List.getElem?_eq_some_iff.1 hi
 obtain ⟨hj1,rfl⟩:=List.getElem?_eq_some_iff.1 hj
 exact List.pairwise_iff_getElem.1 h i j hi1 hj1 hij
theorem b33 {ms:List Me} (h:aH0 ms) {i:Nat} {m:Me} (hm:ms[i]?=some m):I7 m.name ms=some i:=by
 cases hx:I7 m.name ms with
 |none=>exact absurd rfl (bK2 hx m (List.mem_of_getElem? hm))
 |some j =>
  obtain ⟨m',h1,h2⟩:=aC0 hx
  rcases Nat.lt_trichotomy i j with hij|hij|hij
  ·have:=aH6 h hm h1 hij; rw [h2,aM9] at this; cases this
  ·rw [hij]
  ·have:=aH6 h h1 hm hij; rw [h2,aM9] at this; cases this
theorem b46 {ms:List Me} (h:∀i m p,0 < i→ms[i]?=some m→ms[i - 1]?=some p→G6 p.name m.name=true):aH0 ms:=by
 have key:∀(d i:Nat) (a b:Me),ms[i]?=some a→ms[i+d+1]?=some b→G6 a.name b.name=true:=by
  intro d
  induction d with
  |zero=>intro i a b ha hb; exact h (i+1) b a (by omega) hb (by simpa using ha)
  |succ d ih =>
   intro i a b ha hb
   have hlt:=(List.getElem?_eq_some_iff.1 hb).1
   obtain ⟨x,hx⟩:∃x,ms[i+d+1]?=some x:=⟨_,List.getElem?_eq_getElem (by omega)⟩
   exact lt_trans (ih i a x ha hx) (h (i+(d+1)+1) b x (by omega) hb (by rw [show i+(d+1)+1 - 1=i+d+1 by omega]; exact hx))
 refine List.pairwise_iff_getElem.2 fun i j hi hj hij=>?_
 refine key (j - i - 1) i _ _ (List.getElem?_eq_getElem hi) ?_
 rw [show i+(j - i - 1)+1=j by omega]
 exact List.getElem?_eq_getElem hj
theorem aQ1 (N:Nat) (m:Me) (s:ByteArray):J5 N m s=some (if G6 m.name s=true then -1 else if m.name=s then 0 else 1):=by
 unfold J5 V4 cmp_isNaN_string
 cases h:G6 m.name s
 ·by_cases e:m.name=s<;>simp [e]
 ·simp
theorem aQ7 (N:Nat) (ms:List Me) (s:ByteArray) (hl:ms.length≤1048576) (hr:aH0 ms):∀(n:Nat) (a b:Nat),a≤b→b≤ms.length→b - a < n →
  (∀i m,i < a→ms[i]?=some m→G6 m.name s=true)→(∀i m,b≤i→ms[i]?=some m→G6 m.name s=false) →
  ∃v:Nat,l8 N ms s (fun x0_ x1_=>J5 N x0_ x1_) n (a:Int) (b:Int)=some (v:Int)∧v≤ms.length ∧
   (∀i m,i < v→ms[i]?=some m→G6 m.name s=true)∧(∀i m,v≤i→ms[i]?=some m→G6 m.name s=false)
 |0,a,b,_,_,h,_,_=>by omega
 |n+1,a,b,hab,hb,hn,ha,hbb=>by
  rw [l8]
  by_cases hlt:a < b
  ·have hlt':(a:Int) < (b:Int):=by omega
   have w1:wr ((a:Int)+(b:Int))=((a+b:Nat):Int):=by rw [aD4 (by unfold J6; omega)]; omega
   have w2:((a+b:Nat):Int) / 2=(((a+b) / 2:Nat):Int):=by omega
   have w3:decide (J6 ((((a+b) / 2:Nat):Int)))=true:=decide_eq_true (by unfold J6; omega)
   have w4:wr ((((a+b) / 2:Nat):Int)+1)=(((a+b) / 2+1:Nat):Int):=by rw [aD4 (by unfold J6; omega)]; omega
   have hmid:(a+b) / 2 < ms.length:=by omega
   obtain ⟨x,hx⟩:∃x,ms[(a+b) / 2]?=some x:=⟨_,List.getElem?_eq_getElem hmid⟩
   have w5:(0:Int)≤((a+b:Nat):Int):=by omega
   have ho:=aQ1 N x s
   simp only [w1,w2,w3,w4,w5,hlt',K4,hx,ho,decide_true,cond_true,Option.bind_some]
   cases hc:G6 x.name s with
   |true =>
    simp only [if_true,show ((-1:Int) < 0)=True by simp,decide_true,cond_true,Option.bind_some]
    refine aQ7 N ms s hl hr n _ b (by omega) hb (by omega) (fun i m hi hm=>?_) hbb
    rcases Nat.lt_or_ge i ((a+b) / 2) with h|h
    ·exact lt_trans (aH6 hr hm hx h) hc
    ·have e:i=(a+b) / 2:=by omega
     subst e; rw [hx] at hm; cases hm; exact hc
   |false =>
    have hd:∀i m,(a+b) / 2≤i→ms[i]?=some m→G6 m.name s=false:=by
     intro i m hi hm
     rcases Nat.lt_or_ge ((a+b) / 2) i with h|h
     ·cases hq:G6 m.name s with
      |false=>rfl
      |true=>have:=lt_trans (aH6 hr hx hm h) hq; rw [hc] at this; cases this
     ·have e:i=(a+b) / 2:=by omega
      subst e; rw [hx] at hm; cases hm; exact hc
    have hz:decide ((if false=true then (-1:Int) else if x.name=s then 0 else 1) < 0)=false:=by
     by_cases e:x.name=s<;>simp [e]
    rw [hz]
    simp only [cond_false,Option.bind_some]
    exact aQ7 N ms s hl hr n a _ (by omega) (by omega) (by omega) ha hd
  ·have hlt':¬(a:Int) < (b:Int):=by omega
   simp only [hlt',decide_false,cond_false]
   have e:a=b:=by omega
   subst e
   exact ⟨a,rfl,hb,ha,hbb⟩
theorem a94 (N:Nat) (ms:List Me) (s:ByteArray) (hN:1048577≤N) (hl:ms.length≤1048576) (hr:aH0 ms) :
  ∃v:Nat,p8 N ms s (fun x0_ x1_=>J5 N x0_ x1_)=some ((v:Int),(I7 s ms).isSome)∧(∀i:Nat,I7 s ms=some i→(v:Int)=i)∧v≤ms.length ∧
   (∀i m,i < v→ms[i]?=some m→G6 m.name s=true)∧(∀i m,v≤i→ms[i]?=some m→G6 m.name s=false):=by
 obtain ⟨v,hv,hle,h1,h2⟩:=aQ7 N ms s hl hr N 0 ms.length (by omega) (by omega) (by omega) (fun i m h=>absurd h (by omega)) (fun i m h hm=>by
  have:=(List.getElem?_eq_some_iff.1 hm).1; omega)
 refine ⟨v,?_,?_,hle,h1,h2⟩
 ·unfold p8
  have hv':l8 N ms s (fun x0_ x1_=>J5 N x0_ x1_) N (0:Int) (ms.length:Int)=some (v:Int):=hv
  rw [hv']
  simp only [Option.bind_some]
  by_cases hlt:v < ms.length
  ·have hlt':(v:Int) < (ms.length:Int):=by omega
   obtain ⟨x,hx⟩:∃x,ms[v]?=some x:=⟨_,List.getElem?_eq_getElem hlt⟩
   have hf:=h2 v x (Nat.le_refl _) hx
   simp only [hlt',decide_true,cond_true,K4,hx,Option.bind_some,aQ1,hf]
   by_cases e:x.name=s
   ·have:=b33 hr hx
    rw [e] at this
    simp [e,this]
   ·cases hi:I7 s ms with
    |none=>simp [e]
    |some i =>
     obtain ⟨m',hm1,hm2⟩:=aC0 hi
     rcases Nat.lt_trichotomy i v with h|h|h
     ·have:=h1 i m' h hm1; rw [hm2,aM9] at this; cases this
     ·subst h; rw [hx] at hm1; cases hm1; exact absurd hm2 e
     ·have:=aH6 hr hx hm1 h
      rw [hm2] at this; rw [hf] at this; cases this
  ·have hlt':¬(v:Int) < (ms.length:Int):=by omega
   simp only [hlt',decide_false,cond_false,Option.bind_some]
   cases hi:I7 s ms with
   |none=>rfl
   |some i =>
    obtain ⟨m',hm1,hm2⟩:=aC0 hi
    have:=(List.getElem?_eq_some_iff.1 hm1).1
    have:=h1 i m' (by omega) hm1
    rw [hm2,aM9] at this; cases this
 ·intro i hi
  obtain ⟨m',hm1,hm2⟩:=aC0 hi
  have hlen:=(List.getElem?_eq_some_iff.1 hm1).1
  rcases Nat.lt_trichotomy i v with h|h|h
  ·have:=h1 i m' h hm1; rw [hm2,aM9] at this; cases this
  ·rw [h]
  ·obtain ⟨x,hx⟩:∃x,ms[v]?=some x:=⟨ms[v]'(by omega),List.getElem?_eq_getElem (by omega)⟩
   have:=aH6 hr hx hm1 h
   rw [hm2] at this
   rw [h2 v x (Nat.le_refl _) hx] at this; cases this
theorem bsearch_eq (N:Nat) (ms:List Me) (s:ByteArray) (hN:1048577≤N) (hl:ms.length≤1048576) (hr:aH0 ms) :
  ∃v:Int,p8 N ms s (fun x0_ x1_=>J5 N x0_ x1_)=some (v,(I7 s ms).isSome)∧∀i:Nat,I7 s ms=some i→v=i:=by
 obtain ⟨v,h1,h2,_⟩:=a94 N ms s hN hl hr
 exact ⟨_,h1,h2⟩
def P8 (w:Wd) (s:ByteArray):Nat→Int→Option (Int×Int)
 |0,_=>none
 |n+1,c=>if 0≤c then (match w.classes[c.toNat]? with
  |some x=>(match I7 s x.methods with|some i=>some (c,(i:Int))|none=>P8 w s n x.super)
  |none=>none) else none
def aC3 (w:Wd) (s:ByteArray) (c:Int):Int×Int:=(P8 w s (w.classes.length+1) c).getD (-1,-1)
def bA8 (w:Wd):Prop:=∀x∈w.classes,aH0 x.methods
def aD1 (w:Wd):Prop:=w.classes.length≤1048576∧w.heap.length≤1048576∧(∀x∈w.classes,x.methods.length≤1048576∧∀m∈x.methods,m.code.length≤1048576)∧∀o∈w.heap,o.slots.length≤1048576
def b63 {σ:Type} (o:Option (Int×Int)) (s:σ):G8 (Int×Int) σ:=match o with|some p=>.ret p|none=>.next s
theorem aN0 (N:Nat) (w:Wd) (s:ByteArray) (hN:1048577≤N) (hw:bA8 w) (hs:aD1 w):∀(n:Nat) (k:Nat) (c:Int),k≤w.classes.length+1→w.classes.length+1 - k < n →
  O4 N w s n c (k:Int)=some (b63 (P8 w s (w.classes.length+1 - k) c) ())
 |0,k,c,_,h=>by omega
 |n+1,k,c,hk,hn=>by
  rw [O4]
  by_cases h0:0≤c
  ·by_cases h1:c < w.classes.length
   ·obtain ⟨x,hx,hnth⟩:=aX4 h0 h1
    by_cases h2:k≤w.classes.length
    ·have h2':(k:Int)≤(w.classes.length:Int):=by omega
     have hxm:=List.mem_of_getElem? hx
     obtain ⟨v,hv,hvi⟩:=bsearch_eq N x.methods s hN (hs.2.2.1 x hxm).1 (hw x hxm)
     have e:w.classes.length+1 - k=(w.classes.length+1 - (k+1))+1:=by omega
     have wk:wr ((k:Int)+1)=((k+1:Nat):Int):=by rw [aD4 (by have:=hs.1; unfold J6; omega)]; omega
     rw [e,P8]
     simp only [h0,h1,h2',decide_true,cond_true,Option.bind_some,hnth,hv,hx,if_true,wk]
     cases hi:I7 s x.methods with
     |some i=>have:=hvi i hi; subst this; rfl
     |none =>
      simp only [Option.isSome_none,cond_false]
      exact aN0 N w s hN hw hs n (k+1) x.super (by omega) (by omega)
    ·have h2':¬(k:Int)≤(w.classes.length:Int):=by omega
     have e:w.classes.length+1 - k=0:=by omega
     simp only [h0,h1,h2',decide_true,decide_false,cond_true,cond_false,Option.bind_some,e]
     rfl
   ·have:P8 w s (w.classes.length+1 - k) c=none:=by
     cases w.classes.length+1 - k with
     |zero=>rfl
     |succ n=>rw [P8,if_pos h0,aZ7 h1]
    simp only [h0,h1,decide_true,decide_false,cond_true,cond_false,Option.bind_some,this]
    rfl
  ·have:P8 w s (w.classes.length+1 - k) c=none:=by
    cases w.classes.length+1 - k with
    |zero=>rfl
    |succ n=>rw [P8,if_neg h0]
   simp only [h0,decide_false,cond_false,Option.bind_some,this]
   rfl
theorem aJ3 (N:Nat) (w:Wd) (c:Int) (s:ByteArray) (hN:1048578≤N) (hw:bA8 w) (hs:aD1 w):V3 N w c s=some (aC3 w s c):=by
 unfold V3 aC3
 have h:=aN0 N w s (by omega) hw hs N 0 c (by omega) (by have:=hs.1; omega)
 have h':O4 N w s N c (0:Int)=some (b63 (P8 w s (w.classes.length+1) c) ()):=h
 rw [h']
 cases P8 w s (w.classes.length+1) c<;>rfl
def aG9 (w:Wd):Nat→Int→List Int
 |0,_=>[]
 |n+1,c=>if 0≤c then (match w.classes[c.toNat]? with|some x=>c::aG9 w n x.super|none=>[]) else []
theorem bN3 (w:Wd):∀(n:Nat) (c:Int),∀k∈aG9 w n c,0≤k∧k < w.classes.length
 |0,_,k,h=>by cases h
 |n+1,c,k,h=>by
  rw [aG9] at h
  split at h
  ·split at h
   ·rename_i h0 _ x hx
    rcases List.mem_cons.1 h with rfl|h
    ·exact ⟨h0,by have:=(List.getElem?_eq_some_iff.1 hx).1; omega⟩
    ·exact bN3 w n _ k h
   ·cases h
  ·cases h
theorem aM8 (N:Nat) (w:Wd) (hs:w.classes.length≤1048576):∀(n:Nat) (c:Int) (acc:List Int),acc.length≤w.classes.length+1→w.classes.length+1 - acc.length < n →
  P9 N w n c acc=some (acc++aG9 w (w.classes.length+1 - acc.length) c)
 |0,c,acc,_,h=>by omega
 |n+1,c,acc,hk,hn=>by
  rw [P9]
  by_cases h0:0≤c
  ·by_cases h1:c < w.classes.length
   ·obtain ⟨x,hx,hnth⟩:=aX4 h0 h1
    by_cases h2:acc.length≤w.classes.length
    ·have h2':(acc.length:Int)≤(w.classes.length:Int):=by omega
     have e:w.classes.length+1 - acc.length=(w.classes.length+1 - (acc++[c]).length)+1:=by simp; omega
     have hb:Nat.ble ((acc.length+[c].length)*8) 140737488355328=true:=Z4 (by simp; omega)
     rw [e,aG9]
     simp only [h0,h1,h2',decide_true,cond_true,Option.bind_some,hnth,hx,if_true,hb]
     rw [aM8 N w hs n x.super (acc++[c]) (by simp; omega) (by simp; omega)]
     simp
    ·have h2':¬(acc.length:Int)≤(w.classes.length:Int):=by omega
     have e:w.classes.length+1 - acc.length=0:=by omega
     simp [h0,h1,h2',e,aG9]
   ·have:aG9 w (w.classes.length+1 - acc.length) c=[]:=by
     cases w.classes.length+1 - acc.length with
     |zero=>rfl
     |succ n=>rw [aG9,if_pos h0,aZ7 h1]
    simp [h0,h1,this]
  ·have:aG9 w (w.classes.length+1 - acc.length) c=[]:=by
    cases w.classes.length+1 - acc.length with
    |zero=>rfl
    |succ n=>rw [aG9,if_neg h0]
   simp [h0,this]
theorem bG8 (N:Nat) (w:Wd) (c:Int) (hN:1048578≤N) (hs:w.classes.length≤1048576):aE7 N w c=some (aG9 w (w.classes.length+1) c):=by
 unfold aE7
 rw [aM8 N w hs N c [] (by simp) (by simp; omega)]
 rfl
def aF7 (w:Wd) (c:Int):Int:=(aG9 w (w.classes.length+1) c).foldl (fun n k=>match w.classes[k.toNat]? with|some x=>wr (n+x.slots)|none=>n) 0
theorem aI7 (N:Nat) (w:Wd) (L:List Int) (hL:∀k∈L,0≤k∧k < w.classes.length):∀(l:List Int) (k:Nat) (n:Int),l=L.drop k →
  M9 N w L l k n=some (l.foldl (fun n k=>match w.classes[k.toNat]? with|some x=>wr (n+x.slots)|none=>n) n)
 |[],k,n,_=>rfl
 |c::l,k,n,h=>by
  obtain ⟨h1,h2,_⟩:=D5 h
  obtain ⟨c0,c1⟩:=hL c (List.mem_of_getElem? h1)
  obtain ⟨x,hx,hnth⟩:=aX4 c0 c1
  rw [M9]
  simp only [K4,h1,Option.bind_some,hnth,List.foldl_cons,hx]
  exact aI7 N w L hL l (k+1) _ h2
theorem aF6 (N:Nat) (w:Wd) (c:Int) (hN:1048578≤N) (hs:w.classes.length≤1048576):P5 N w c=some (aF7 w c):=by
 unfold P5 aF7
 rw [bG8 N w c hN hs]
 simp only [Option.bind_some]
 rw [aI7 N w _ (bN3 w _ c) (aG9 w (w.classes.length+1) c) 0 0 rfl]
 rfl
theorem aR1 (w:Wd) (s:ByteArray):∀(n:Nat) (c:Int) (p:Int×Int),P8 w s n c=some p→0≤p.1∧0≤p.2∧∃x m,w.classes[p.1.toNat]?=some x∧x.methods[p.2.toNat]?=some m∧m.name=s
 |0,c,p,h=>by cases h
 |n+1,c,p,h=>by
  rw [P8] at h
  by_cases h0:0≤c
  ·rw [if_pos h0] at h
   cases hx:w.classes[c.toNat]? with
   |none=>rw [hx] at h; cases h
   |some x =>
    rw [hx] at h
    simp only at h
    cases hi:I7 s x.methods with
    |none=>rw [hi] at h; exact aR1 w s n _ p h
    |some i =>
     rw [hi] at h
     cases h
     obtain ⟨m,h1,h2⟩:=aC0 hi
     exact ⟨h0,Int.natCast_nonneg _,x,m,hx,h1,h2⟩
  ·rw [if_neg h0] at h; cases h
theorem bX2 {w:Wd} {s:ByteArray} {c:Int} (h:0≤(aC3 w s c).2):∃x m,C9 w.classes (aC3 w s c).1=some x∧C9 x.methods (aC3 w s c).2=some m∧m.name=s:=by
 unfold aC3 at h ⊢
 cases hf:P8 w s (w.classes.length+1) c with
 |none=>rw [hf] at h; exact absurd h (by decide)
 |some p =>
  obtain ⟨h0,h1,x,m,hx,hm,hn⟩:=aR1 w s _ c p hf
  exact ⟨x,m,by rw [Option.getD_some,aD8 h0,hx],by rw [Option.getD_some,aD8 h1,hm],hn⟩
end Go.Proofs.Ytahmeibkdhbngaa
namespace Go.Proofs.Ytahmeibkdhbngaa
open Go.RowKit
set_option linter.unusedVariables false
end Go.Proofs.Ytahmeibkdhbngaa
namespace Go.Proofs.Ytahmeibkdhbngaa
open Go.RowKit
set_option linter.unusedVariables false
theorem aC4 {α:Type} {b:Bool} {x y:Option α} (hx:b=true→∃r,x=some r) (hy:b=false→∃r,y=some r):∃r,(bif b then x else y)=some r:=by
 cases b
 ·exact hy rfl
 ·exact hx rfl
theorem aR2 {α β:Type} {x:Option α} {f:α→Option β} (hx:∃a,x=some a) (hf:∀a,x=some a→∃r,f a=some r):∃r,x.bind f=some r:=by
 obtain ⟨a,rfl⟩:=hx
 exact hf a rfl
def nmB (u:UInt8):Bool:=!decide ((u.toNat:Int) < 33) && !decide (126 < (u.toNat:Int))
def bH0 (s:ByteArray):Bool:=s.data.toList.all nmB && (decide (0 < s.size) && decide (s.size≤12))
theorem b09 (s:ByteArray) (k:Nat):byO s (k:Int)=s.data.toList[k]?:=by
 unfold byO
 rw [decide_eq_true (Int.natCast_nonneg k)]
 show s[k]?=_
 by_cases h:k < s.size
 ·rw [getElem?_pos s k h,List.getElem?_eq_getElem (by simpa using h)]
  rfl
 ·rw [getElem?_neg s k h,List.getElem?_eq_none (by simpa using h)]
theorem aJ7 (N:Nat) (s:ByteArray):∀(n k:Nat),n+k=s.size→O6 N s n k=some (if (s.data.toList.drop k).all nmB=true then .next () else .ret false)
 |0,k,h=>by
  rw [List.drop_eq_nil_of_le (by rw [show s.data.toList.length=s.size from rfl]; omega)]
  rfl
 |n+1,k,h=>by
  have hk:k < s.data.toList.length:=by rw [show s.data.toList.length=s.size from rfl]; omega
  rw [O6,List.drop_eq_getElem_cons hk,b09,List.getElem?_eq_getElem hk,aJ7 N s n (k+1) (by omega)]
  simp only [Option.bind_some,List.all_cons]
  generalize s.data.toList[k]=u
  generalize s.data.toList.drop (k+1)=b
  by_cases h1:(u.toNat:Int) < 33
  ·have e:nmB u=false:=by simp [nmB,h1]
   simp only [h1,e,decide_true,cond_true,Option.bind_some,Bool.false_and]; rfl
  ·by_cases h2:126 < (u.toNat:Int)
   ·have e:nmB u=false:=by simp only [nmB,h1,h2,decide_true,decide_false,Bool.not_true,Bool.and_false]
    simp only [h1,h2,e,decide_true,decide_false,cond_true,cond_false,Option.bind_some,Bool.false_and]; rfl
   ·have e:nmB u=true:=by simp only [nmB,h1,h2,decide_false,Bool.not_false,Bool.and_true]
    simp only [h1,h2,e,decide_false,cond_false,Option.bind_some,Bool.true_and]
theorem aC2 (N:Nat) (s:ByteArray):V8 N s=some (bH0 s):=by
 unfold V8 bH0
 have e:((s.size:Int) - ((0:Nat):Int)).toNat=s.size:=by omega
 rw [e,aJ7 N s s.size 0 (by omega),List.drop_zero]
 cases h:s.data.toList.all nmB
 ·simp
 ·by_cases h1:0 < s.size
  ·by_cases h2:s.size≤12
   ·have h1':(0:Int) < (s.size:Int):=by omega
    have h2':(s.size:Int)≤12:=by omega
    simp [h1,h2,h2']
   ·have h2':¬(s.size:Int)≤12:=by omega
    have h1':(0:Int) < (s.size:Int):=by omega
    simp [h2,h2']
  ·have h1':¬(0:Int) < (s.size:Int):=by omega
   simp [h1]
theorem aU4 (N:Nat) (w:Wd) (c:Int) (m:Me) (i:Ins) (hN:1048578≤N) (hs:w.classes.length≤1048576):∃r,M0 N w c m i=some r:=by
 unfold M0
 simp only [aF6 N w c hN hs,aC2]
 repeat (first|exact ⟨_,rfl⟩|refine aC4 (fun _=>?_) (fun _=>?_)|refine aR2 ?_ (fun a _=>?_)|split)
theorem aU7 (N:Nat) (w:Wd) (c:Int) (m:Me) (i:Ins) (h:M0 N w c m i=some 0) (ho:i.op=14):0≤i.a∧i.a≤4:=by
 unfold M0 at h
 simp only [ho,aC2,show ((14:Int)=1)=False by decide,show ((14:Int)=2)=False by decide,show ((14:Int)=3)=False by decide,show ((14:Int)=4)=False by decide,show ((14:Int)=5)=False by decide,show ((14:Int)=6)=False by decide,show ((14:Int)=7)=False by decide,show ((14:Int)=8)=False by decide,show ((14:Int)=9)=False by decide,show ((14:Int)=10)=False by decide,show ((14:Int)=11)=False by decide,show ((14:Int)=12)=False by decide,show ((14:Int)=13)=False by decide,show ((14:Int)=17)=False by decide,decide_true,decide_false,cond_true,cond_false,Option.bind_some] at h
 by_cases h1:i.a < 0
 ·simp [h1] at h
 ·by_cases h2:4 < i.a
  ·simp [h1,h2] at h
  ·omega
def bH6 (m:Me):Prop:=∀i∈m.code,i.op=14→0≤i.a∧i.a≤4
def Y7 (i:Ins) (p:Int):Int×Int×List Int :=
 if i.op=9∨i.op=11∨i.op=12 then (1,-1,[wr (p+1)]) else if i.op=10 then (1,1,[wr (p+1)])
 else if i.op=14 then (wr (i.a+1),-i.a,[wr (p+1)]) else if i.op=15 then (0,0,[i.a])
 else if i.op=16 then (1,-1,[wr (p+1),i.a]) else if i.op=17 then (1,-1,[]) else (0,1,[wr (p+1)])
theorem bM8 (i:Ins) (p:Int):(Y7 i p).2.2.length≤2:=by
 unfold Y7
 (repeat' split)<;>simp
theorem bE4 (N:Nat) (i:Ins) (p:Int) (h:i.op=14→0≤i.a∧i.a≤4):aC8 N i p=some (Y7 i p):=by
 unfold aC8 Y7
 by_cases h1:i.op=9
 ·simp [h1]
 by_cases h2:i.op=11
 ·simp [h2]
 by_cases h3:i.op=12
 ·simp [h3]
 by_cases h4:i.op=10
 ·simp [h4]
 by_cases h5:i.op=14
 ·have:=h h5
  have e:decide (J6 (-i.a))=true:=decide_eq_true (by unfold J6; omega)
  simp only [h5,e,decide_true,cond_true,show ((14:Int)=9)=False by decide,show ((14:Int)=11)=False by decide,show ((14:Int)=12)=False by decide,show ((14:Int)=10)=False by decide,decide_false,cond_false,Option.bind_some,or_self,if_false,if_true]
 by_cases h6:i.op=15
 ·simp [h6]
 by_cases h7:i.op=16
 ·simp [h7]
 by_cases h8:i.op=17
 ·simp [h8]
 simp [h1,h2,h3,h4,h5,h6,h7,h8]
theorem bF0 {i:Ins} {p:Int} {x:Int} (h0:0≤x) (h12:x≤12) (hn:¬x < (Y7 i p).1) (hm:¬12 < wr (x+(Y7 i p).2.1)) (hi:i.op=14→0≤i.a∧i.a≤4) :
  0≤wr (x+(Y7 i p).2.1)∧wr (x+(Y7 i p).2.1)≤12∧wr (x+(Y7 i p).2.1)=x+(Y7 i p).2.1:=by
 unfold Y7 at hn hm ⊢
 split at hn
 ·rename_i h1
  simp only [h1,if_true] at hm ⊢
  rw [aD4 (by unfold J6; omega)]; omega
 ·rename_i h1
  simp only [h1,if_false] at hm ⊢
  split at hn
  ·rename_i h2
   simp only [h2,if_true] at hm ⊢
   rw [aD4 (by unfold J6; omega)] at hm ⊢; omega
  ·rename_i h2
   simp only [h2,if_false] at hm ⊢
   split at hn
   ·rename_i h3
    have hi:=hi h3
    simp only [h3,if_true] at hm ⊢
    simp only at hn
    rw [aD4 (by unfold J6; omega)] at hn hm ⊢; omega
   ·rename_i h3
    simp only [h3,if_false] at hm ⊢
    split at hn
    ·rename_i h4
     simp only [h4,if_true] at hm ⊢
     rw [aD4 (by unfold J6; omega)] at hm ⊢; omega
    ·rename_i h4
     simp only [h4,if_false] at hm ⊢
     split at hn
     ·rename_i h5
      simp only [h5,if_true] at hm ⊢
      rw [aD4 (by unfold J6; omega)] at hm ⊢; omega
     ·rename_i h5
      simp only [h5,if_false] at hm ⊢
      split at hn
      ·rename_i h6
       simp only [h6,if_true] at hm ⊢
       rw [aD4 (by unfold J6; omega)] at hm ⊢; omega
      ·rename_i h6
       simp only [h6,if_false] at hm ⊢
       rw [aD4 (by unfold J6; omega)] at hm ⊢; omega
theorem aF0 (N:Nat):∀(n k:Nat) (v:List Int),n+k=v.length→I5 N n k v=some (v.take k++List.replicate n (-1))
 |0,k,v,h=>by rw [I5,List.take_of_length_le (by omega)]; simp
 |n+1,k,v,h=>by
  have hk:k < v.length:=by omega
  rw [I5,K4,List.getElem?_eq_getElem hk]
  simp only [Option.bind_some,Int.toNat_natCast]
  rw [aF0 N n (k+1) _ (by simp; omega)]
  congr 1
  rw [List.take_add_one,List.take_set_of_le (Nat.le_refl _),List.getElem?_set_self hk,List.replicate_succ]
  simp
theorem aF4 (N:Nat) (x:Int) (r:Int×Int×List Int):∀(l:List Int) (k:Nat) (a b:List Int),l=r.2.2.drop k→a.length+l.length≤17592186044416→b.length+l.length≤17592186044416 →
  I6 N x r l k a b=some (a++l,b++List.replicate l.length (wr (x+r.2.1)))
 |[],k,a,b,_,_,_=>by simp [I6]
 |y::l,k,a,b,h,ha,hb=>by
  obtain ⟨h1,h2,_⟩:=D5 h
  simp only [List.length_cons] at ha hb
  rw [I6]
  have e1:Nat.ble ((a.length+[y].length)*8) 140737488355328=true:=Z4 (by simp; omega)
  have e2:Nat.ble ((b.length+[wr (x+r.2.1)].length)*8) 140737488355328=true:=Z4 (by simp; omega)
  simp only [K4,h1,Option.bind_some,e1,e2,cond_true]
  rw [aF4 N x r l (k+1) _ _ h2 (by simp; omega) (by simp; omega)]
  simp [List.replicate_succ]
def aN6 (h:List Int):Nat:=h.countP fun x=>decide (x < 0)
theorem bF5 {h:List Int} {i:Nat} {x y:Int} (hi:h[i]?=some x) (hx:x < 0) (hy:0≤y):aN6 (h.set i y)+1=aN6 h:=by
 induction h generalizing i with
 |nil=>simp at hi
 |cons a h ih =>
  cases i with
  |zero =>
   simp only [List.getElem?_cons_zero,Option.some.injEq] at hi
   subst hi
   have:¬y < 0:=by omega
   simp [aN6,hx,this]
  |succ i =>
   have:=ih (i:=i) (by simpa using hi)
   simp only [aN6,List.set_cons_succ,List.countP_cons] at this ⊢
   omega
def hgt (m:Me):Nat→List Int→List (Int×Int)→Option (G8 (List Int×K3) (List Int))
 |0,_,_=>none
 |_+1,h,[]=>some (.next h)
 |n+1,h,(p,x)::r =>
  if (m.code.length:Int)≤p∨p < 0 then some (.ret ([],⟨9,m.code.length⟩)) else
  match h[p.toNat]?,m.code[p.toNat]? with
  |some y,some i =>
   if 0≤y then (if y=x then hgt m n h r else some (.ret ([],⟨8,p⟩)))
   else if x < (Y7 i p).1∨(i.op=17∧x≠1) then some (.ret ([],⟨8,p⟩))
   else if 12 < wr (x+(Y7 i p).2.1) then some (.ret ([],⟨4,p⟩))
   else hgt m n (h.set p.toNat x) (r++(Y7 i p).2.2.map fun q=>(q,wr (x+(Y7 i p).2.1)))
  |_,_=>none
def hOk (l:List (Int×Int)):Prop:=∀q∈l,0≤q.2∧q.2≤12
theorem a00 (m:Me) (hm:bH6 m):∀(n:Nat) (h:List Int) (l:List (Int×Int)),h.length=m.code.length→hOk l→l.length+3*aN6 h < n→∃r,hgt m n h l=some r
 |0,h,l,_,_,hn=>by omega
 |n+1,h,[],_,_,_=>⟨_,rfl⟩
 |n+1,h,(p,x)::r,hh,hl,hn=>by
  rw [hgt]
  simp only [List.length_cons] at hn
  have hx:=hl (p,x) (by simp)
  have hr:hOk r:=fun q hq=>hl q (by simp [hq])
  by_cases h1:(m.code.length:Int)≤p∨p < 0
  ·rw [if_pos h1]; exact ⟨_,rfl⟩
  rw [if_neg h1]
  have hp:p.toNat < m.code.length:=by omega
  have e1:h[p.toNat]?=some (h[p.toNat]'(by omega)):=List.getElem?_eq_getElem (by omega)
  have e2:m.code[p.toNat]?=some m.code[p.toNat]:=List.getElem?_eq_getElem hp
  generalize h[p.toNat]'(by omega)=y at e1
  have hi:=hm _ (List.getElem_mem hp)
  generalize m.code[p.toNat]=i at e2 hi
  rw [e1,e2]
  simp only
  by_cases h2:0≤y
  ·rw [if_pos h2]
   by_cases h3:y=x
   ·rw [if_pos h3]; exact a00 m hm n h r hh hr (by omega)
   ·rw [if_neg h3]; exact ⟨_,rfl⟩
  rw [if_neg h2]
  by_cases h3:x < (Y7 i p).1∨(i.op=17∧x≠1)
  ·rw [if_pos h3]; exact ⟨_,rfl⟩
  rw [if_neg h3]
  by_cases h4:12 < wr (x+(Y7 i p).2.1)
  ·rw [if_pos h4]; exact ⟨_,rfl⟩
  rw [if_neg h4]
  have hb:=bF0 hx.1 hx.2 (fun h=>h3 (Or.inl h)) h4 hi
  have hu:=bF5 (y:=x) e1 (by omega) hx.1
  have hl2:=bM8 i p
  refine a00 m hm n _ _ (by simpa using hh) (fun q hq=>?_) (by simp; omega)
  rcases List.mem_append.1 hq with hq|hq
  ·exact hr q hq
  ·obtain ⟨z,_,rfl⟩:=List.mem_map.1 hq
   exact ⟨hb.1,hb.2.1⟩
theorem Z7 (N:Nat) (m:Me) (hm:bH6 m) (hc:m.code.length≤1048576):∀(n:Nat) (h:List Int) (ats hs:List Int) (k:Nat),ats.length=hs.length→k≤ats.length→ats.length+2*aN6 h≤4194304→h.length=m.code.length →
  hOk ((ats.drop k).zip (hs.drop k))→I4 N m n h ats hs (k:Int)=hgt m n h ((ats.drop k).zip (hs.drop k))
 |0,_,_,_,_,_,_,_,_,_=>rfl
 |n+1,h,ats,hs,k,hl,hk,hb,hh,ho=>by
  rw [I4]
  by_cases hlt:k < ats.length
  ·have hlt':(k:Int) < (ats.length:Int):=by omega
   have hlt2:k < hs.length:=by omega
   have ea:ats[k]?=some ats[k]:=List.getElem?_eq_getElem hlt
   have eh:hs[k]?=some hs[k]:=List.getElem?_eq_getElem hlt2
   have ed:(ats.drop k).zip (hs.drop k)=(ats[k],hs[k])::(ats.drop (k+1)).zip (hs.drop (k+1)):=by
    rw [List.drop_eq_getElem_cons hlt,List.drop_eq_getElem_cons hlt2]; rfl
   have hx:=ho (ats[k],hs[k]) (by rw [ed]; simp)
   have hr:hOk ((ats.drop (k+1)).zip (hs.drop (k+1))):=fun q hq=>ho q (by rw [ed]; simp [hq])
   have wk:wr ((k:Int)+1)=((k+1:Nat):Int):=by rw [aD4 (by unfold J6; omega)]; omega
   rw [ed,hgt]
   generalize hp:ats[k]=p at ea hx
   generalize hxx:hs[k]=x at eh hx
   simp only [hlt',decide_true,cond_true,K4,ea,eh,Option.bind_some,wk]
   by_cases h1:(m.code.length:Int)≤p
   ·simp only [h1,decide_true,cond_true,Option.bind_some,true_or,if_true]
   by_cases h1':p < 0
   ·simp only [h1,h1',decide_true,decide_false,cond_true,cond_false,Option.bind_some,or_true,if_true]
   simp only [h1,h1',decide_false,cond_false,Option.bind_some,or_self,if_false]
   have hpl:p.toNat < m.code.length:=by omega
   have hp0:0≤p:=by omega
   have e1:h[p.toNat]?=some (h[p.toNat]'(by omega)):=List.getElem?_eq_getElem (by omega)
   have e2:m.code[p.toNat]?=some m.code[p.toNat]:=List.getElem?_eq_getElem hpl
   generalize h[p.toNat]'(by omega)=y at e1
   have hi:=hm _ (List.getElem_mem hpl)
   generalize m.code[p.toNat]=i at e2 hi
   have n1:C9 h p=some y:=by rw [aD8 hp0,e1]
   have n2:C9 m.code p=some i:=by rw [aD8 hp0,e2]
   simp only [n1,n2,e1,e2,Option.bind_some,bE4 N i p hi]
   by_cases h2:0≤y
   ·simp only [h2,decide_true,cond_true,if_true]
    by_cases h3:y=x
    ·simp only [h3,decide_true,Bool.not_true,cond_false,Option.bind_some,if_true]
     exact Z7 N m hm hc n h ats hs (k+1) hl (by omega) hb hh hr
    ·simp only [h3,decide_false,Bool.not_false,cond_true,Option.bind_some,if_false]
   simp only [h2,decide_false,cond_false,if_false]
   by_cases h3:x < (Y7 i p).1
   ·simp only [h3,decide_true,cond_true,Option.bind_some,true_or,if_true]
   by_cases h4:i.op=17∧x≠1
   ·simp only [h3,h4.1,h4.2,decide_true,decide_false,cond_true,cond_false,Option.bind_some,Bool.not_false,or_true,if_true,ne_eq,not_false_eq_true,and_self]
   have hq:((bif decide (i.op=(17:Int)) then some ((!decide (x=(1:Int)))) else some (false)):Option Bool)=some false:=by
    by_cases h5:i.op=17
    ·by_cases h6:x=1
     ·simp [h6]
     ·exact absurd ⟨h5,h6⟩ h4
    ·simp [h5]
   simp only [h3,h4,hq,decide_false,cond_false,Option.bind_some,or_self,if_false]
   by_cases h5:12 < wr (x+(Y7 i p).2.1)
   ·simp only [h5,decide_true,cond_true,Option.bind_some,if_true]
   simp only [h5,decide_false,cond_false,if_false]
   have hb2:=bF0 hx.1 hx.2 h3 h5 hi
   have hu:=bF5 (y:=x) e1 (by omega) hx.1
   have hl2:=bM8 i p
   rw [aF4 N x (Y7 i p) (Y7 i p).2.2 0 ats hs rfl (by omega) (by omega)]
   simp only [Option.bind_some]
   have ez:((ats++(Y7 i p).2.2).drop (k+1)).zip ((hs++List.replicate (Y7 i p).2.2.length (wr (x+(Y7 i p).2.1))).drop (k+1)) =
     (ats.drop (k+1)).zip (hs.drop (k+1))++(Y7 i p).2.2.map fun q=>(q,wr (x+(Y7 i p).2.1)):=by
    rw [List.drop_append_of_le_length (by omega),List.drop_append_of_le_length (by omega),List.zip_append (by simp; omega)]
    congr 1
    generalize (Y7 i p).2.2=L
    induction L with
    |nil=>rfl
    |cons a L ih=>simp [List.replicate_succ,ih]
   rw [Z7 N m hm hc n _ _ _ (k+1) (by simp; omega) (by simp; omega) (by simp; omega) (by simpa using hh) (by
    rw [ez]
    intro q hq
    rcases List.mem_append.1 hq with hq|hq
    ·exact hr q hq
    ·obtain ⟨z,_,rfl⟩:=List.mem_map.1 hq
     exact ⟨hb2.1,hb2.2.1⟩),ez]
  ·have hlt':¬(k:Int) < (ats.length:Int):=by omega
   have ed:(ats.drop k).zip (hs.drop k)=[]:=by rw [List.drop_eq_nil_of_le (by omega)]; rfl
   rw [ed,hgt]
   simp only [hlt',decide_false,cond_false]
def cA3 (o:G8 (List Int×K3) (List Int)):List Int×K3:=match o with|.ret r=>r|.next h=>(h,⟨0,0⟩)
theorem bE5 (n:Nat):aN6 (List.replicate n (-1))=n:=by
 induction n with
 |zero=>rfl
 |succ n ih=>simp only [aN6,List.replicate_succ,List.countP_cons] at ih ⊢; rw [ih]; rfl
theorem aX5 (N:Nat) (m:Me) (hm:bH6 m) (hc:m.code.length≤1048576):Q7 N m=(hgt m N (List.replicate m.code.length (-1)) [(0,0)]).map cA3:=by
 unfold Q7
 have e0:(decide (0≤(m.code.length:Int)) && decide ((m.code.length:Int)≤140737488355328) && decide ((m.code.length:Int)*8≤140737488355328))=true:=by
  simp only [Bool.and_eq_true,decide_eq_true_eq]; omega
 have e1:(((List.replicate (m.code.length:Int).toNat (0:Int)).length:Int) - ((0:Nat):Int)).toNat=m.code.length:=by simp
 rw [e0,e1,aF0 N _ 0 _ (by simp)]
 simp only [cond_true,Option.bind_some,List.take_zero,List.nil_append]
 have h:=Z7 N m hm hc N (List.replicate m.code.length (-1)) [0] [0] 0 rfl (by simp) (by rw [bE5]; simp; omega) (by simp) (by
  intro q hq
  simp only [List.drop_zero,List.zip_cons_cons,List.zip_nil_right,List.mem_cons,List.not_mem_nil,or_false] at hq
  subst hq; decide)
 have h':I4 N m N (List.replicate m.code.length (-1)) [(0:Int)] [(0:Int)] (0:Int)=hgt m N (List.replicate m.code.length (-1)) [(0,0)]:=h
 rw [h']
 cases hgt m N (List.replicate m.code.length (-1)) [(0,0)] with
 |none=>rfl
 |some o=>cases o<;>rfl
theorem aU6 (N:Nat) (m:Me) (hN:4194304≤N) (hm:bH6 m) (hc:m.code.length≤1048576):∃r,Q7 N m=some r:=by
 rw [aX5 N m hm hc]
 obtain ⟨o,ho⟩:=a00 m hm N (List.replicate m.code.length (-1)) [(0,0)] (by simp) (by
  intro q hq
  simp only [List.mem_cons,List.not_mem_nil,or_false] at hq
  subst hq; decide) (by rw [bE5]; simp; omega)
 rw [ho]
 exact ⟨_,rfl⟩
end Go.Proofs.Ytahmeibkdhbngaa
namespace Go.Proofs.Ytahmeibkdhbngaa
open Go.RowKit
set_option linter.unusedVariables false
theorem aF8 (N:Nat) (w:Wd) (c:Int) (m:Me) (hN:1048578≤N) (hs:w.classes.length≤1048576):∀(l:List Ins) (k:Nat),∃o,N9 N w c m l k=some o∧(o=.next ()→∀i∈l,M0 N w c m i=some 0)
 |[],k=>⟨_,rfl,fun _ i hi=>by cases hi⟩
 |x::l,k=>by
  obtain ⟨r,hr⟩:=aU4 N w c m x hN hs
  rw [N9,hr]
  simp only [Option.bind_some]
  by_cases h:r=0
  ·subst h
   simp only [decide_true,Bool.not_true,cond_false]
   obtain ⟨o,h1,h2⟩:=aF8 N w c m hN hs l (k+1)
   refine ⟨o,h1,fun e i hi=>?_⟩
   rcases List.mem_cons.1 hi with rfl|hi
   ·exact hr
   ·exact h2 e i hi
  ·simp only [h,decide_false,Bool.not_false,cond_true]
   exact ⟨_,rfl,fun e=>by cases e⟩
theorem aX6 (N:Nat) (w:Wd) (c:Int) (m:Me) (hN:4194304≤N) (hs:w.classes.length≤1048576) (hc:m.code.length≤1048576):∃f,Q8 N w c m=some f:=by
 unfold Q8
 simp only [aC2,Option.bind_some]
 refine aR2 ?_ fun a _=>?_
 ·repeat (first|exact ⟨_,rfl⟩|refine aC4 (fun _=>?_) (fun _=>?_))
 refine aC4 (fun _=>⟨_,rfl⟩) fun _=>?_
 refine aC4 (fun _=>⟨_,rfl⟩) fun _=>?_
 refine aR2 ?_ fun a _=>?_
 ·repeat (first|exact ⟨_,rfl⟩|refine aC4 (fun _=>?_) (fun _=>?_))
 refine aC4 (fun _=>⟨_,rfl⟩) fun _=>?_
 refine aC4 (fun _=>⟨_,rfl⟩) fun _=>?_
 refine aR2 ?_ fun a _=>?_
 ·repeat (first|exact ⟨_,rfl⟩|refine aC4 (fun _=>?_) (fun _=>?_))
 refine aC4 (fun _=>⟨_,rfl⟩) fun _=>?_
 obtain ⟨o,h1,h2⟩:=aF8 N w c m (by omega) hs m.code 0
 rw [h1]
 simp only [Option.bind_some]
 cases o with
 |ret r=>exact ⟨_,rfl⟩
 |next u =>
  obtain ⟨r,hr⟩:=aU6 N m hN (fun i hi ho=>aU7 N w c m i (h2 rfl i hi) ho) hc
  simp only [hr,Option.bind_some]
  exact ⟨_,rfl⟩
def Good (x:Option (G8 Int Unit)) (P:Prop):Prop:=∃o,x=some o∧(∀r,o=.ret r→r≠0)∧(o=.next ()→P)
theorem Good.ret {r:Int} {P:Prop} (h:r≠0):Good (some (.ret r)) P:=⟨.ret r,rfl,(fun r e=>by cases e; exact h),fun e=>by cases e⟩
theorem Good.next {P:Prop} (h:P):Good (some (.next ())) P:=⟨.next (),rfl,(fun r e=>by cases e),fun _=>h⟩
theorem Good.bind {x:Option (G8 Int Unit)} {P Q:Prop} {y:Option (G8 Int Unit)} (h:Good x P) (hy:P→Good y Q):Good (x.bind fun o=>match o with|.ret r=>some (.ret r)|.next ()=>y) Q:=by
 obtain ⟨o,rfl,h1,h2⟩:=h
 cases o with
 |ret r=>exact Good.ret (h1 r rfl)
 |next u=>exact hy (h2 rfl)
theorem Good.imp {x:Option (G8 Int Unit)} {P Q:Prop} (h:Good x P) (hq:P→Q):Good x Q:=by
 obtain ⟨o,h0,h1,h2⟩:=h
 exact ⟨o,h0,h1,fun e=>hq (h2 e)⟩
theorem aT1 (N:Nat) (x:Cl):∀(l:List Cl) (k:Nat),Good (K5 N x l k) (∀d∈l,d.name≠x.name)
 |[],k=>Good.next fun d hd=>by cases hd
 |d::l,k=>by
  rw [K5]
  by_cases h:d.name=x.name
  ·simp only [h,decide_true,cond_true]; exact Good.ret (by decide)
  ·simp only [h,decide_false,cond_false]
   exact (aT1 N x l (k+1)).imp fun hl e he=>by
    rcases List.mem_cons.1 he with rfl|he
    ·exact h
    ·exact hl e he
def bA9 (w:Wd) (k:Nat) (c:Cl):Prop:=bH0 c.name=true∧(∀d∈w.classes.take k,d.name≠c.name) ∧
 (k < 4→∃f,aC6.classes[k]?=some f∧c.name=f.name∧c.super=f.super∧c.slots=0) ∧
 (4≤k→0≤c.super∧c.super < k∧(0 < c.super→4≤c.super))∧0≤c.slots∧c.slots≤6
theorem aT7 (N:Nat) (w:Wd):∀(l:List Cl) (k:Nat),l=w.classes.drop k→Good (I9 N w aC6 l k) (∀j c,k≤j→w.classes[j]?=some c→bA9 w j c)
 |[],k,h=>Good.next fun j c hj hc=>by
   have h1:=(List.getElem?_eq_some_iff.1 hc).1
   have h2:=List.drop_eq_nil_iff.1 h.symm
   omega
 |c::l,k,h=>by
  obtain ⟨hc,hl,hlt⟩:=D5 h
  have hlt:=of_decide_eq_true hlt
  rw [I9,aC2]
  simp only [Option.bind_some]
  cases hn:bH0 c.name with
  |false=>simp only [Bool.not_false,cond_true,Option.bind_some]; exact Good.ret (by decide)
  |true =>
   simp only [Bool.not_true,cond_false]
   have hg:(decide (0≤(k:Int)) && decide ((k:Int)≤(w.classes.length:Int)))=true:=by simp only [Bool.and_eq_true,decide_eq_true_eq]; omega
   have step:∀(P:Prop) (y:Option (G8 Int Unit)),((∀d∈w.classes.take k,d.name≠c.name)→Good y P) →
     Good ((bif (decide (0≤(k:Int)) && decide ((k:Int)≤(w.classes.length:Int))) then ((K5 N c (w.classes.take (k:Int).toNat) 0).bind fun o=>match o with|.ret r=>some (.ret r)|.next ()=>y) else none)) P:=by
    intro P y hy
    rw [hg]
    exact (aT1 N c _ 0).bind fun hd=>hy (by simpa using hd)
   have rest:∀(P:Prop),bA9 w k c→Good (I9 N w aC6 l (k+1)) (∀j c,k≤j→w.classes[j]?=some c→bA9 w j c):=fun _ hk =>
    (aT7 N w l (k+1) hl).imp fun ih j d hj hd=>by
     rcases Nat.eq_or_lt_of_le hj with rfl|hj
     ·rw [hc] at hd; cases hd; exact hk
     ·exact ih j d hj hd
   by_cases h4:k < 4
   ·have h4':(k:Int) < 4:=by omega
    obtain ⟨f,hf⟩:∃f,aC6.classes[k]?=some f:=⟨_,List.getElem?_eq_getElem (by simpa [aC6] using h4)⟩
    simp only [h4',decide_true,cond_true,K4,hf,Option.bind_some]
    by_cases he:c.name=f.name
    ·simp only [he,decide_true,Bool.not_true,cond_false]
     refine step _ _ fun hd=>?_
     by_cases h5:c.super=f.super
     ·simp only [h5,decide_true,Bool.not_true,cond_false,Option.bind_some]
      by_cases h6:c.slots < 0
      ·simp only [h6,decide_true,cond_true,Option.bind_some]; exact Good.ret (by decide)
      ·by_cases h7:0 < c.slots
       ·simp only [h6,h7,decide_true,decide_false,cond_true,cond_false,Option.bind_some]; exact Good.ret (by decide)
       ·simp only [h6,h7,decide_false,cond_false,Option.bind_some]
        exact rest True ⟨hn,hd,fun _=>⟨f,hf,he,h5,by omega⟩,fun h=>by omega,by omega,by omega⟩
     ·simp only [h5,decide_false,Bool.not_false,cond_true,Option.bind_some]; exact Good.ret (by decide)
    ·simp only [he,decide_false,Bool.not_false,cond_true]; exact Good.ret (by decide)
   ·have h4':¬(k:Int) < 4:=by omega
    simp only [h4',decide_false,cond_false,Option.bind_some]
    refine step _ _ fun hd=>?_
    by_cases h5:c.super < 0
    ·simp only [h5,decide_true,cond_true,Option.bind_some]; exact Good.ret (by decide)
    by_cases h6:(k:Int)≤c.super
    ·simp only [h5,h6,decide_true,decide_false,cond_true,cond_false,Option.bind_some]; exact Good.ret (by decide)
    have tail:(0 < c.super→4≤c.super)→Good (((bif decide (c.slots < (0:Int)) then some (true) else some (decide ((6:Int) < c.slots))):Option Bool).bind fun v63=>(bif v63 then some (.ret (3:Int)) else I9 N w aC6 l (k+1))) (∀j c,k≤j→w.classes[j]?=some c→bA9 w j c):=by
     intro hq
     by_cases h7:c.slots < 0
     ·simp only [h7,decide_true,cond_true,Option.bind_some]; exact Good.ret (by decide)
     ·by_cases h8:6 < c.slots
      ·simp only [h7,h8,decide_true,decide_false,cond_true,cond_false,Option.bind_some]; exact Good.ret (by decide)
      ·simp only [h7,h8,decide_false,cond_false,Option.bind_some]
       exact rest True ⟨hn,hd,fun h=>by omega,fun _=>⟨by omega,by omega,hq⟩,by omega,by omega⟩
    by_cases h7:0 < c.super
    ·by_cases h8:c.super < 4
     ·simp only [h5,h6,h7,h8,decide_true,decide_false,cond_true,cond_false,Option.bind_some]; exact Good.ret (by decide)
     ·simp only [h5,h6,h7,h8,decide_true,decide_false,cond_true,cond_false,Option.bind_some]
      exact tail fun _=>by omega
    ·simp only [h5,h6,h7,decide_false,cond_false,Option.bind_some]
     exact tail fun h=>absurd h h7
def bP7 (k:Nat) (m:Me):Prop:=k=3∧∃p∈aA6,p.name=m.name∧p.prim=m.prim∧m.args=1∧m.temps=0∧m.code=[]
theorem aT0 (N:Nat) (k:Nat) (m:Me):∀(l:List Me) (j:Nat) (b:Bool),(∀p∈l,p∈aA6)→(b=true→bP7 k m)→∃b',K7 N k m l j b=some b'∧(b'=true→bP7 k m)
 |[],j,b,_,hb=>⟨b,rfl,hb⟩
 |p::l,j,b,hl,hb=>by
  rw [K7]
  have go:=aT0 N k m l (j+1)
  have hl':∀p∈l,p∈aA6:=fun q hq=>hl q (by simp [hq])
  cases b with
  |true=>simp only [cond_true,Option.bind_some]; exact go true hl' (fun _=>hb rfl)
  |false =>
   have gf:=go false hl' (fun h=>by cases h)
   simp only [cond_false]
   by_cases h1:(k:Int)=3
   ·by_cases h2:p.name=m.name
    ·by_cases h3:p.prim=m.prim
     ·by_cases h4:m.args=1
      ·by_cases h5:m.temps=0
       ·by_cases h6:m.code=[]
        ·simp only [h1,h2,h3,h4,h5,h6,decide_true,cond_true,Option.bind_some]
         exact go _ hl' fun _=>⟨by omega,p,hl p (by simp),h2,h3,h4,h5,h6⟩
        ·have h6':¬(m.code.length:Int)=0:=fun e=>h6 (List.eq_nil_of_length_eq_zero (by omega))
         simp only [h1,h2,h3,h4,h5,h6',decide_true,decide_false,cond_true,Option.bind_some]; exact gf
       ·simp only [h1,h2,h3,h4,h5,decide_true,decide_false,cond_true,cond_false,Option.bind_some]; exact gf
      ·simp only [h1,h2,h3,h4,decide_true,decide_false,cond_true,cond_false,Option.bind_some]; exact gf
     ·simp only [h1,h2,h3,decide_true,decide_false,cond_true,cond_false,Option.bind_some]; exact gf
    ·simp only [h1,h2,decide_true,decide_false,cond_true,cond_false,Option.bind_some]; exact gf
   ·simp only [h1,decide_false,cond_false,Option.bind_some]; exact gf
def bC5 (N:Nat) (w:Wd) (k:Nat) (m:Me):Prop:=bP7 k m∨∃f,Q8 N w (k:Int) m=some f∧f.err=0
theorem aT2 (N:Nat) (w:Wd) (k:Nat) (c:Cl) (hN:4194304≤N) (hs:aD1 w) (hc:c∈w.classes):∀(l:List Me) (j:Nat),l=c.methods.drop j →
  Good (I8 N w aC6 k c l j) (∀i m,j≤i→c.methods[i]?=some m→bC5 N w k m∧∀p,0 < i→c.methods[i - 1]?=some p→G6 p.name m.name=true)
 |[],j,h=>Good.next fun i m hj hm=>by
   have h1:=(List.getElem?_eq_some_iff.1 hm).1
   have h2:=List.drop_eq_nil_iff.1 h.symm
   omega
 |m::l,j,h=>by
  obtain ⟨hm,hl,hlt⟩:=D5 h
  have hlt:=of_decide_eq_true hlt
  have hml:=(hs.2.2.1 c hc).1
  rw [I8]
  have h3:C9 aC6.classes 3=some ⟨⟨#[73,110,116]⟩,0,0,aA6⟩:=rfl
  have hcl:=(hs.2.2.1 c hc).2 m (List.mem_of_getElem? hm)
  obtain ⟨b,hb1,hb2⟩:=aT0 N k m aA6 0 false (fun p hp=>hp) (fun h=>by cases h)
  obtain ⟨f,hf⟩:=aX6 N w (k:Int) m hN hs.1 hcl
  have tail:(∀p,0 < j→c.methods[j - 1]?=some p→G6 p.name m.name=true)→Good ((C9 aC6.classes (3:Int)).bind fun x100=>((K7 N k m x100.methods 0 false).bind fun v106=>((Q8 N w (k:Int) m).bind fun r125=>(((bif (!v106) then some ((!decide (r125.err=(0:Int)))) else some (false)):Option Bool).bind fun v127=>(bif v127 then some (.ret r125.err) else I8 N w aC6 k c l (j+1))))))
    (∀i m,j≤i→c.methods[i]?=some m→bC5 N w k m∧∀p,0 < i→c.methods[i - 1]?=some p→G6 p.name m.name=true):=by
   intro hp
   have rest:bC5 N w k m→Good (I8 N w aC6 k c l (j+1)) (∀i m,j≤i→c.methods[i]?=some m→bC5 N w k m∧∀p,0 < i→c.methods[i - 1]?=some p→G6 p.name m.name=true):=fun hk =>
    (aT2 N w k c hN hs hc l (j+1) hl).imp fun ih i d hj hd=>by
     rcases Nat.eq_or_lt_of_le hj with rfl|hj
     ·rw [hm] at hd; cases hd; exact ⟨hk,hp⟩
     ·exact ih i d hj hd
   rw [h3]
   simp only [Option.bind_some,hb1,hf]
   cases b with
   |true=>simp only [Bool.not_true,cond_false,Option.bind_some]; exact rest (Or.inl (hb2 rfl))
   |false =>
    simp only [Bool.not_false,cond_true,Option.bind_some]
    by_cases he:f.err=0
    ·simp only [he,decide_true,Bool.not_true,cond_false]; exact rest (Or.inr ⟨f,hf,he⟩)
    ·simp only [he,decide_false,Bool.not_false,cond_true]; exact Good.ret he
  by_cases h0:0 < j
  ·have h0':(0:Int) < (j:Int):=by omega
   have wk:wr ((j:Int) - 1)=((j - 1:Nat):Int):=by rw [aD4 (by unfold J6; omega)]; omega
   obtain ⟨p,hp⟩:∃p,c.methods[j - 1]?=some p:=⟨_,List.getElem?_eq_getElem (by omega)⟩
   simp only [h0',decide_true,cond_true,wk,K4,hp,Option.bind_some]
   cases hq:G6 p.name m.name with
   |true=>simp only [Bool.not_true,cond_false]; exact tail fun p' _ hp'=>by rw [hp] at hp'; cases hp'; exact hq
   |false=>simp only [Bool.not_false,cond_true]; exact Good.ret (by decide)
  ·have h0':¬(0:Int) < (j:Int):=by omega
   simp only [h0',decide_false,cond_false,Option.bind_some]
   exact tail fun p hp=>absurd hp h0
theorem aT9 (N:Nat) (w:Wd) (hN:4194304≤N) (hs:aD1 w):∀(l:List Cl) (k:Nat),l=w.classes.drop k →
  Good (M8 N w aC6 l k) (∀j c,k≤j→w.classes[j]?=some c→aF7 w (j:Int)≤6∧c.methods.length≤8∧aH0 c.methods∧∀m∈c.methods,bC5 N w j m)
 |[],k,h=>Good.next fun j c hj hc=>by
   have h1:=(List.getElem?_eq_some_iff.1 hc).1
   have h2:=List.drop_eq_nil_iff.1 h.symm
   omega
 |c::l,k,h=>by
  obtain ⟨hc,hl,hlt⟩:=D5 h
  rw [M8,aF6 N w _ (by omega) hs.1]
  simp only [Option.bind_some]
  by_cases h1:6 < aF7 w (k:Int)
  ·simp only [h1,decide_true,cond_true]; exact Good.ret (by decide)
  by_cases h2:(8:Int) < (c.methods.length:Int)
  ·simp only [h1,h2,decide_true,decide_false,cond_true,cond_false]; exact Good.ret (by decide)
  simp only [h1,h2,decide_false,cond_false]
  refine (aT2 N w k c hN hs (List.mem_of_getElem? hc) c.methods 0 rfl).bind fun hm=>?_
  refine (aT9 N w hN hs l (k+1) hl).imp fun ih j d hj hd=>?_
  rcases Nat.eq_or_lt_of_le hj with rfl|hj
  ·rw [hc] at hd; cases hd
   refine ⟨by omega,by omega,b46 fun i m p hi hmi hpi=>(hm i m (by omega) hmi).2 p hi hpi,fun m hmm=>?_⟩
   obtain ⟨i,hi⟩:=List.mem_iff_getElem?.1 hmm
   exact (hm i m (by omega) hi).1
  ·exact ih j d hj hd
theorem aS8 (N:Nat) (w:Wd):∀(l:List V) (k:Nat),Good (K8 N w l k) (∀v∈l,aV9 v (w.heap.length:Int)=0)
 |[],k=>Good.next fun v hv=>by cases hv
 |v::l,k=>by
  rw [K8,a99]
  simp only [Option.bind_some]
  by_cases h:aV9 v (w.heap.length:Int)=0
  ·simp only [h,decide_true,Bool.not_true,cond_false]
   exact (aS8 N w l (k+1)).imp fun ih u hu=>by
    rcases List.mem_cons.1 hu with rfl|hu
    ·exact h
    ·exact ih u hu
  ·simp only [h,decide_false,Bool.not_false,cond_true]; exact Good.ret h
def bU6 (w:Wd) (o:Ob):Prop:=0≤o.cls∧(0 < o.cls→4≤o.cls)∧o.cls < w.classes.length∧(o.slots.length:Int)=aF7 w o.cls∧∀v∈o.slots,aV9 v (w.heap.length:Int)=0
theorem aT8 (N:Nat) (w:Wd) (hN:4194304≤N) (hs:aD1 w):∀(l:List Ob) (k:Nat),Good (K6 N w l k) (∀o∈l,bU6 w o)
 |[],k=>Good.next fun o ho=>by cases ho
 |o::l,k=>by
  rw [K6]
  have rest:(0≤o.cls∧(0 < o.cls→4≤o.cls)∧o.cls < w.classes.length∧(o.slots.length:Int)=aF7 w o.cls)→Good ((K8 N w o.slots 0).bind fun o=>match o with|.ret r=>some (.ret r)|.next ()=>K6 N w l (k+1)) (∀x∈o::l,bU6 w x):=fun h =>
   (aS8 N w o.slots 0).bind fun hv=>(aT8 N w hN hs l (k+1)).imp fun ih x hx=>by
    rcases List.mem_cons.1 hx with rfl|hx
    ·exact ⟨h.1,h.2.1,h.2.2.1,h.2.2.2,hv⟩
    ·exact ih x hx
  by_cases h1:o.cls < 0
  ·simp only [h1,decide_true,cond_true,Option.bind_some]; exact Good.ret (by decide)
  have hsl:=aF6 N w o.cls (by omega) hs.1
  by_cases h2:0 < o.cls
  ·by_cases h3:o.cls < 4
   ·simp only [h1,h2,h3,decide_true,decide_false,cond_true,cond_false,Option.bind_some]; exact Good.ret (by decide)
   ·by_cases h4:(w.classes.length:Int)≤o.cls
    ·simp only [h1,h2,h3,h4,decide_true,decide_false,cond_true,cond_false,Option.bind_some]; exact Good.ret (by decide)
    ·by_cases h5:(o.slots.length:Int)=aF7 w o.cls
     ·simp only [h1,h2,h3,h4,hsl,h5,decide_true,decide_false,cond_true,cond_false,Option.bind_some,Bool.not_true]
      exact rest ⟨by omega,fun _=>by omega,by omega,h5⟩
     ·simp only [h1,h2,h3,h4,hsl,h5,decide_true,decide_false,cond_true,cond_false,Option.bind_some,Bool.not_false]; exact Good.ret (by decide)
  ·by_cases h4:(w.classes.length:Int)≤o.cls
   ·simp only [h1,h2,h4,decide_true,decide_false,cond_true,cond_false,Option.bind_some]; exact Good.ret (by decide)
   ·by_cases h5:(o.slots.length:Int)=aF7 w o.cls
    ·simp only [h1,h2,h4,hsl,h5,decide_true,decide_false,cond_false,Option.bind_some,Bool.not_true]
     exact rest ⟨by omega,fun h=>absurd h h2,by omega,h5⟩
    ·simp only [h1,h2,h4,hsl,h5,decide_false,cond_true,cond_false,Option.bind_some,Bool.not_false]; exact Good.ret (by decide)
structure bI1 (N:Nat) (w:Wd):Prop where
 many:4≤w.classes.length∧w.classes.length≤12∧w.heap.length≤60
 epoch:0≤w.epoch∧w.epoch≤1073741824
 cls:∀(j:Nat) c,w.classes[j]?=some c→bA9 w j c
 meth:∀(j:Nat) c,w.classes[j]?=some c→aF7 w (j:Int)≤6∧c.methods.length≤8∧aH0 c.methods∧∀m∈c.methods,bC5 N w j m
 obj:∀o∈w.heap,bU6 w o
theorem Good.end_ {x:Option (G8 Int Unit)} {P:Prop} {y:Option Int} {Q:Prop} (h:Good x P) (hy:P→∃r,y=some r∧(r=0→Q)):∃r,(x.bind fun o=>match o with|.ret r=>some r|.next ()=>y)=some r∧(r=0→Q):=by
 obtain ⟨o,rfl,h1,h2⟩:=h
 cases o with
 |ret r=>exact ⟨r,rfl,fun e=>absurd e (h1 r rfl)⟩
 |next u=>exact hy (h2 rfl)
theorem bO9 (N:Nat) (w:Wd) (hN:4194304≤N) (hs:aD1 w):∃r,aB9 N w=some r∧(r=0→bI1 N w):=by
 unfold aB9 aS5
 simp only [Option.bind_some]
 by_cases h1:(w.classes.length:Int) < 4
 ·exact ⟨5,by simp [h1],fun h=>by cases h⟩
 by_cases h2:(12:Int) < (w.classes.length:Int)
 ·exact ⟨5,by simp [h1,h2],fun h=>by cases h⟩
 by_cases h3:(60:Int) < (w.heap.length:Int)
 ·exact ⟨5,by simp [h1,h2,h3],fun h=>by cases h⟩
 by_cases h4:w.epoch < 0
 ·exact ⟨3,by simp [h1,h2,h3,h4],fun h=>by cases h⟩
 by_cases h5:1073741824 < w.epoch
 ·exact ⟨3,by simp [h1,h2,h3,h4,h5],fun h=>by cases h⟩
 simp only [h1,h2,h3,h4,h5,decide_false,cond_false,Option.bind_some]
 refine (aT7 N w w.classes 0 rfl).end_ fun c1=>?_
 refine (aT9 N w hN hs w.classes 0 rfl).end_ fun c3=>?_
 refine (aT8 N w hN hs w.heap 0).end_ fun c6=>?_
 exact ⟨0,rfl,fun _=>⟨by omega,by omega,fun j c hc=>c1 j c (by omega) hc,fun j c hc=>c3 j c (by omega) hc,c6⟩⟩
theorem bI1.rise {N:Nat} {w:Wd} (h:bI1 N w):bA8 w:=fun c hc=>by
 obtain ⟨i,hi⟩:=List.mem_iff_getElem?.1 hc
 exact (h.meth i c hi).2.2.1
end Go.Proofs.Ytahmeibkdhbngaa
namespace Go.Proofs.Ytahmeibkdhbngaa
open Go.RowKit
set_option linter.unusedVariables false
theorem bY9 {w:Wd} (h:bB5 w≤1048576):aD1 w:=by
 unfold bB5 at h
 have h1:=aK8 (bk:=aR8) (fun a=>bU0 a) w.classes
 have h2:=aK8 (bk:=aS0) (fun a=>bX9 a) w.heap
 refine ⟨by omega,by omega,fun c hc=>?_,fun o ho=>?_⟩
 ·have h3:=bE0 (bk:=aR8) hc
  have e3:aR8 c=bkS c.name+bkI c.super+bkI c.slots+(bkL aH8) c.methods+1:=rfl
  have h4:=aK8 (bk:=aH8) (fun a=>bW9 a) c.methods
  refine ⟨by omega,fun m hm=>?_⟩
  have h5:=bE0 (bk:=aH8) hm
  have e5:aH8 m=bkS m.name+bkI m.args+bkI m.temps+bkI m.prim+(bkL aK2) m.code+1:=rfl
  have h6:=aK8 (bk:=aK2) (fun a=>bG1 a) m.code
  omega
 ·have h3:=bE0 (bk:=aS0) ho
  have e3:aS0 o=bkI o.cls+(bkL bkV) o.slots+1:=rfl
  have h4:=aK8 (bk:=bkV) (fun a=>b25 a) o.slots
  omega
end Go.Proofs.Ytahmeibkdhbngaa
namespace Go.Proofs.Ytahmeibkdhbngaa
open Go.RowKit
set_option linter.unusedVariables false
end Go.Proofs.Ytahmeibkdhbngaa
namespace Go.Proofs.Ytahmeibkdhbngaa
open Go.RowKit
set_option linter.unusedVariables false
end Go.Proofs.Ytahmeibkdhbngaa
namespace Go.Proofs.Ytahmeibkdhbngaa
open Go.RowKit
set_option linter.unusedVariables false
end Go.Proofs.Ytahmeibkdhbngaa
