import Derived.Test.YtahmeibkdhbngaaMir
import Derived.Test.YtahmeibkdhbngaaOk
/- Plain laws of the mirrors: the same, own copies. No program in sight. -/
namespace Go.Proofs.Ytahmeibkdhbngaa
open Go.RowKit
set_option linter.unusedVariables false
theorem c99 (a b:V):aF1 (eV a) (eV b)=decide (a=b):=eqV a b
theorem cH8 (a b:St):aF1 (eSt a) (eSt b)=decide (a=b):=cS3 a b
theorem c22 (a b:Ln):aF1 (K7 a) (K7 b)=decide (a=b):=dB8 a b
theorem cX6 (a b:Ins):aF1 (aO2 a) (aO2 b)=decide (a=b):=dA6 a b
end Go.Proofs.Ytahmeibkdhbngaa
namespace Go.Proofs.Ytahmeibkdhbngaa
open Go.RowKit
set_option linter.unusedVariables false
theorem J5 {a b:Nat} (h:a≤b):Nat.ble a b=true:=by rw [Nat.ble_eq]; exact h
theorem bS6 {α:Type} {l:List α} {i:Int} (h:¬(i < l.length)):l[i.toNat]?=none:=List.getElem?_eq_none (by omega)
theorem aR6 {α:Type} {l:List α} {i:Int} (h:0≤i):w9 l i=l[i.toNat]?:=by
 unfold w9; rw [decide_eq_true h]; rfl
theorem aC1 {α:Type} {l:List α} {i:Int} (h:0≤i) (h2:i < l.length):∃x,l[i.toNat]?=some x∧w9 l i=some x:=by
 have hl:i.toNat < l.length:=by omega
 exact ⟨l[i.toNat],List.getElem?_eq_getElem hl,by rw [aR6 h,List.getElem?_eq_getElem hl]⟩
def V8 (v:V) (n:Int):Int :=
 if v.k=0∨v.k=1∨v.k=2 then (if v.n=0 then 0 else 2)
 else if v.k=3 then (if v.n < -1073741824∨1073741824 < v.n then 3 else 0)
 else if v.k=4 then (if v.n < 0∨n≤v.n then 6 else 0) else 1
theorem b23 (N:Nat) (v:V) (n:Int):aQ6 N v n=some (V8 v n):=by
 unfold aQ6 V8
 by_cases h0:v.k=0
 ·by_cases h:v.n=0<;>simp [h0,h]
 by_cases h1:v.k=1
 ·by_cases h:v.n=0<;>simp [h1,h]
 by_cases h2:v.k=2
 ·by_cases h:v.n=0<;>simp [h2,h]
 by_cases h3:v.k=3
 ·by_cases h:v.n < -1073741824<;>by_cases h':1073741824 < v.n<;>simp [h3,h,h']
 by_cases h4:v.k=4
 ·by_cases h:v.n < 0<;>by_cases h':n≤v.n<;>simp [h4,h,h']
 simp [h0,h1,h2,h3,h4]
theorem bW8 (N:Nat) (v:V) (n:Int):aN9 N v n=some (V8 v n):=by
 unfold aN9 V8
 by_cases h0:v.k=0
 ·by_cases h:v.n=0<;>simp [h0,h]
 by_cases h1:v.k=1
 ·by_cases h:v.n=0<;>simp [h1,h]
 by_cases h2:v.k=2
 ·by_cases h:v.n=0<;>simp [h2,h]
 by_cases h3:v.k=3
 ·by_cases h:v.n < -1073741824<;>by_cases h':1073741824 < v.n<;>simp [h3,h,h']
 by_cases h4:v.k=4
 ·by_cases h:v.n < 0<;>by_cases h':n≤v.n<;>simp [h4,h,h']
 by_cases h5:v.k < 0
 ·simp [h0,h1,h2,h3,h4,h5]
 ·have h6:4 < v.k:=by omega
  simp [h0,h1,h2,h3,h4,h5,h6]
def M3 (h:List Ob) (v:V):Int :=
 if v.k=0 then 1 else if v.k=1∨v.k=2 then 2 else if v.k=3 then 3
 else if v.k=4∧0≤v.n then (match h[v.n.toNat]? with|some o=>o.cls|none=>0) else 0
theorem aW0 (N:Nat) (h:List Ob) (v:V):aH8 N h v=some (M3 h v):=by
 unfold aH8 M3
 by_cases h0:v.k=0
 ·simp [h0]
 by_cases h1:v.k=1
 ·simp [h1]
 by_cases h2:v.k=2
 ·simp [h2]
 by_cases h3:v.k=3
 ·simp [h3]
 by_cases h4:v.k=4
 ·by_cases h5:0≤v.n
  ·by_cases h6:v.n < h.length
   ·obtain ⟨x,hx,hy⟩:=aC1 h5 h6
    simp [h4,h5,h6,hy]
    exact (congrArg Ob.cls (List.getElem?_eq_some_iff.1 hx).2).symm
   ·simp [h4,h5,h6]
  ·simp [h4,h5]
 ·simp [h0,h1,h2,h3,h4]
def bQ3 (h:List Ob) (v:V) (n:Int):V :=
 if v.k=4∧0≤v.n∧0≤n then (match h[v.n.toNat]? with|some o=>o.slots.getD n.toNat ⟨0,0⟩|none=>⟨0,0⟩) else ⟨0,0⟩
theorem bK6 (N:Nat) (h:List Ob) (v:V) (n:Int):aO5 N h v n=some (bQ3 h v n):=by
 unfold aO5 bQ3
 by_cases h4:v.k=4
 ·by_cases h5:0≤v.n
  ·have h5':¬v.n < 0:=by omega
   by_cases h6:v.n < h.length
   ·have h6':¬((h.length:Int)≤v.n):=by omega
    obtain ⟨x,hx,hy⟩:=aC1 h5 h6
    by_cases h7:0≤n
    ·have h7':¬n < 0:=by omega
     by_cases h8:n < x.slots.length
     ·have h8':¬((x.slots.length:Int)≤n):=by omega
      obtain ⟨y,hy1,hy2⟩:=aC1 h7 h8
      simp [h4,h5,h5',h6',h7,h7',hx,hy,h8',hy1,hy2,List.getD_eq_getElem?_getD]
     ·have h8':((x.slots.length:Int)≤n):=by omega
      simp [h4,h5,h5',h6',h7,h7',hx,hy,h8',List.getD_eq_getElem?_getD]
    ·have h7':n < 0:=by omega
     simp [h4,h5,h5',h6',h7,h7']
   ·have h6':((h.length:Int)≤v.n):=by omega
    simp [h4,h5,h5',h6']
  ·have h5':v.n < 0:=by omega
   simp [h4,h5,h5']
 ·simp [h4]
theorem aZ9 (N:Nat) (b:Bool):aP0 N b=some (if b=true then ⟨2,0⟩ else ⟨1,0⟩):=by cases b<;>rfl
theorem aQ1 (N:Nat) {l:List V} (h:l.length≤1048576):aD9 N l=some l:=by
 unfold aD9
 rw [J5 (by omega)]
 rfl
theorem bC5 (N:Nat):∀(l:List Ob) (k:Nat) (acc:List Ob),(∀o∈l,o.slots.length≤1048576)→acc.length+l.length≤1048576→aB5 N l k acc=some (acc++l)
 |[],k,acc,_,_=>by simp [aB5]
 |x::l,k,acc,h,hl=>by
  rw [aB5,aQ1 N (h x (by simp))]
  simp only [Option.bind_some]
  rw [J5 (by simp at hl ⊢; omega)]
  simp only [cond_true]
  rw [bC5 N l (k+1) _ (fun o ho=>h o (by simp [ho])) (by simp at hl ⊢; omega)]
  simp
theorem bO3 (N:Nat) {l:List Ob} (h:∀o∈l,o.slots.length≤1048576) (hl:l.length≤1048576):aS0 N l=some l:=by
 unfold aS0
 rw [bC5 N l 0 [] h (by simpa using hl)]
 rfl
theorem cC2 (N:Nat) {l:List Ob} (c s:Int) (h:∀o∈l,o.slots.length≤1048576) (hl:l.length≤1048575) (h0:0≤s) (h1:s≤1000) :
  aY9 N l c s=some (if 60≤l.length then ([],⟨0,0⟩,15) else (l++[⟨c,List.replicate s.toNat ⟨0,0⟩⟩],⟨4,(l.length:Int)⟩,0)):=by
 unfold aY9
 have hm:max s 0=s:=by omega
 by_cases h6:60≤l.length
 ·have h6':(60:Int)≤l.length:=by omega
  simp [h6,h6']
 ·have h6':¬(60:Int)≤l.length:=by omega
  rw [bO3 N h (by omega),hm]
  have e1:(decide (0≤s) && decide (s≤140737488355328) && decide (s*16≤140737488355328))=true:=by
   simp only [Bool.and_eq_true,decide_eq_true_eq]; omega
  rw [e1]
  simp only [Option.bind_some,cond_true]
  rw [J5 (by simp; omega)]
  simp [h6,h6']
def bZ7 (n:Int):V:=⟨3,n.tmod 1073741825⟩
def aI1 (p:Int) (a b:V):V×Int :=
 if a.k≠3∨b.k≠3 then (⟨0,0⟩,12)
 else if p=1 then (bZ7 (a.n+b.n),0) else if p=2 then (bZ7 (a.n - b.n),0) else if p=3 then (bZ7 (a.n*b.n),0)
 else if p=4 then (if a.n < b.n then ⟨2,0⟩ else ⟨1,0⟩,0) else if p=5 then (if a.n=b.n then ⟨2,0⟩ else ⟨1,0⟩,0) else (⟨0,0⟩,1)
theorem c08 (n:Int):F9 (n.tmod 1073741825):=by
 have h1:=Int.tmod_lt_of_pos n (show (0:Int) < 1073741825 by omega)
 have h2:-1073741825 < n.tmod 1073741825:=by
  rcases Int.le_total 0 n with h|h
  ·have:=Int.tmod_nonneg (1073741825:Int) h; omega
  ·have:=Int.tmod_lt_of_pos (-n) (show (0:Int) < 1073741825 by omega)
   rw [Int.neg_tmod] at this
   omega
 exact ⟨by omega,by omega⟩
theorem bX5 (N:Nat) (n:Int):aE2 N n=some (bZ7 n):=by
 unfold aE2 bZ7
 have:=c08 n
 simp [this]
def aR0 (n:Int):Prop:=-1073741824≤n∧n≤1073741824
theorem c30 {a b:Int} (ha:aR0 a) (hb:aR0 b):-1152921504606846976≤a*b∧a*b≤1152921504606846976:=by
 have h:(a*b).natAbs≤1073741824*1073741824:=by
  rw [Int.natAbs_mul]
  exact Nat.mul_le_mul (by have:=ha.1; have:=ha.2; omega) (by have:=hb.1; have:=hb.2; omega)
 omega
theorem b81 (N:Nat) (p:Int) (a b:V) (ha:a.k=3→aR0 a.n) (hb:b.k=3→aR0 b.n):aU4 N p a b=some (aI1 p a b):=by
 unfold aU4 aI1
 by_cases h1:a.k=3
 ·by_cases h2:b.k=3
  ·have ha:=ha h1
   have hb:=hb h2
   have hm:=c30 ha hb
   have w1:wr (a.n+b.n)=a.n+b.n:=I4 (by unfold F9; unfold aR0 at ha hb; omega)
   have w2:wr (a.n - b.n)=a.n - b.n:=I4 (by unfold F9; unfold aR0 at ha hb; omega)
   have w3:wr (a.n*b.n)=a.n*b.n:=I4 (by unfold F9; omega)
   simp only [h1,h2,w1,w2,w3,bX5,aZ9,Option.bind_some,Option.bind_none,cond_true,cond_false,Bool.cond_decide,c99,cH8,c22,cX6,Bool.not_true,Bool.not_false,N7,decide_true,decide_eq_true_eq,ne_eq,not_true_eq_false,or_self,if_false]
   by_cases e1:p=1
   ·simp [e1]
   by_cases e2:p=2
   ·simp [e2]
   by_cases e3:p=3
   ·simp [e3]
   by_cases e4:p=4
   ·simp [e4]
   by_cases e5:p=5
   ·simp [e5]
   simp [e1,e2,e3,e4,e5]
  ·simp [h1,h2]
 ·simp [h1]
end Go.Proofs.Ytahmeibkdhbngaa
namespace Go.Proofs.Ytahmeibkdhbngaa
open Go.RowKit
set_option linter.unusedVariables false
theorem cO2 : ∀a:List UInt8,Op.bytesLess a a=false
 |[]=>rfl
 |a::x=>by simp [Op.bytesLess,cO2 x]
theorem cE2 : ∀a b c:List UInt8,Op.bytesLess a b=true→Op.bytesLess b c=true→Op.bytesLess a c=true
 |_,[],_,h,_=>by simp [Op.bytesLess] at h
 |_,_::_,[],_,h=>by simp [Op.bytesLess] at h
 |[],_::_,_::_,_,_=>rfl
 |a::x,b::y,c::z,h,h'=>by
  simp only [Op.bytesLess,Bool.or_eq_true,Bool.and_eq_true,decide_eq_true_eq,beq_iff_eq] at h h' ⊢
  rcases h with h|⟨rfl,h⟩
  ·rcases h' with h'|⟨rfl,_⟩
   ·exact Or.inl (UInt8.lt_trans h h')
   ·exact Or.inl h
  ·rcases h' with h'|⟨rfl,h'⟩
   ·exact Or.inl h'
   ·exact Or.inr ⟨rfl,cE2 x y z h h'⟩
theorem b44 (b:ByteArray):b.toList=b.data.toList:=by
 have:∀(n i:Nat) (r:List UInt8),n=b.size - i→ByteArray.toList.loop b i r=r.reverse++b.data.toList.drop i:=by
  intro n
  induction n with
  |zero =>
   intro i r h
   unfold ByteArray.toList.loop
   rw [if_neg (by omega)]
   have:b.data.toList.length≤i:=by simpa using (show b.size≤i by omega)
   rw [List.drop_eq_nil_of_le this]; simp
  |succ n ih =>
   intro i r h
   have hi:i < b.size:=by omega
   have hi':i < b.data.toList.length:=by simpa using hi
   unfold ByteArray.toList.loop
   rw [if_pos hi,ih (i+1) _ (by omega),List.drop_eq_getElem_cons hi']
   have e:b.get! i=b.data.toList[i]:=by
    show b.data[i]! = _
    rw [getElem!_pos b.data i hi,Array.getElem_toList]
   simp [e]
 have:=this b.size 0 [] (by omega)
 simpa [ByteArray.toList] using this
theorem toList_inj {a b:ByteArray} (h:a.toList=b.toList):a=b:=by
 rw [b44,b44] at h
 cases a; cases b
 congr
 exact Array.toList_inj.1 h
theorem bO7 (a:ByteArray):Z6 a a=false:=cO2 _
theorem lt_trans {a b c:ByteArray} (h:Z6 a b=true) (h':Z6 b c=true):Z6 a c=true:=cE2 _ _ _ h h'
def bM6 (ms:List Me):Prop:=ms.Pairwise fun a b=>Z6 a.name b.name=true
def ixN (s:ByteArray):List Me→Option Nat
 |[]=>none
 |m::r=>if m.name=s then some 0 else (ixN s r).map (·+1)
theorem aV9 {s:ByteArray}:∀{ms:List Me} {i:Nat},ixN s ms=some i→∃m,ms[i]?=some m∧m.name=s
 |m::r,i,h=>by
  unfold ixN at h
  by_cases e:m.name=s
  ·rw [if_pos e] at h; cases h; exact ⟨m,rfl,e⟩
  ·rw [if_neg e] at h
   cases hr:ixN s r with
   |none=>rw [hr] at h; cases h
   |some j=>rw [hr] at h; cases h; obtain ⟨m',h1,h2⟩:=aV9 hr; exact ⟨m',h1,h2⟩
theorem cG8 {s:ByteArray}:∀{ms:List Me},ixN s ms=none→∀m∈ms,m.name≠s
 |[],_=>fun m hm=>by cases hm
 |m::r,h=>by
  unfold ixN at h
  by_cases e:m.name=s
  ·rw [if_pos e] at h; cases h
  ·rw [if_neg e] at h
   cases hr:ixN s r with
   |some j=>rw [hr] at h; cases h
   |none =>
    intro x hx
    rcases List.mem_cons.1 hx with rfl|hx
    ·exact e
    ·exact cG8 hr x hx
theorem a19 {ms:List Me} (h:bM6 ms) {i j:Nat} {a b:Me} (hi:ms[i]?=some a) (hj:ms[j]?=some b) (hij:i < j):Z6 a.name b.name=true:=by
 obtain ⟨hi1,rfl⟩:=List.getElem?_eq_some_iff.1 hi
 obtain ⟨hj1,rfl⟩:=List.getElem?_eq_some_iff.1 hj
 exact List.pairwise_iff_getElem.1 h i j hi1 hj1 hij
theorem cJ0 {ms:List Me} (h:bM6 ms) {i:Nat} {m:Me} (hm:ms[i]?=some m):ixN m.name ms=some i:=by
 cases hx:ixN m.name ms with
 |none=>exact absurd rfl (cG8 hx m (List.mem_of_getElem? hm))
 |some j =>
  obtain ⟨m',h1,h2⟩:=aV9 hx
  rcases Nat.lt_trichotomy i j with hij|hij|hij
  ·have:=a19 h hm h1 hij; rw [h2,bO7] at this; cases this
  ·rw [hij]
  ·have:=a19 h h1 hm hij; rw [h2,bO7] at this; cases this
theorem bF1 (N:Nat) (m:Me) (s:ByteArray):aB0 N m s=some (if Z6 m.name s=true then -1 else if m.name=s then 0 else 1):=by
 unfold aB0 aH2 cmp_isNaN_string
 cases h:Z6 m.name s
 ·by_cases e:m.name=s<;>simp [e]
 ·simp
theorem bJ2 (N:Nat) (ms:List Me) (s:ByteArray) (hl:ms.length≤1048576) (hr:bM6 ms):∀(n:Nat) (a b:Nat),a≤b→b≤ms.length→b - a < n →
  (∀i m,i < a→ms[i]?=some m→Z6 m.name s=true)→(∀i m,b≤i→ms[i]?=some m→Z6 m.name s=false) →
  ∃v:Nat,y5 N ms s (fun x0_ x1_=>aB0 N x0_ x1_) n (a:Int) (b:Int)=some (v:Int)∧v≤ms.length ∧
   (∀i m,i < v→ms[i]?=some m→Z6 m.name s=true)∧(∀i m,v≤i→ms[i]?=some m→Z6 m.name s=false)
 |0,a,b,_,_,h,_,_=>by omega
 |n+1,a,b,hab,hb,hn,ha,hbb=>by
  rw [y5]
  by_cases hlt:a < b
  ·have hlt':(a:Int) < (b:Int):=by omega
   have w1:wr ((a:Int)+(b:Int))=((a+b:Nat):Int):=by rw [I4 (by unfold F9; omega)]; omega
   have w2:((a+b:Nat):Int) / 2=(((a+b) / 2:Nat):Int):=by omega
   have w3:decide (F9 ((((a+b) / 2:Nat):Int)))=true:=decide_eq_true (by unfold F9; omega)
   have w4:wr ((((a+b) / 2:Nat):Int)+1)=(((a+b) / 2+1:Nat):Int):=by rw [I4 (by unfold F9; omega)]; omega
   have hmid:(a+b) / 2 < ms.length:=by omega
   obtain ⟨x,hx⟩:∃x,ms[(a+b) / 2]?=some x:=⟨_,List.getElem?_eq_getElem hmid⟩
   have w5:(0:Int)≤((a+b:Nat):Int):=by omega
   have ho:=bF1 N x s
   simp only [w1,w2,w3,w4,w5,hlt',N7,hx,ho,decide_true,cond_true,Option.bind_some]
   cases hc:Z6 x.name s with
   |true =>
    simp only [if_true,show ((-1:Int) < 0)=True by simp,decide_true,cond_true,Option.bind_some]
    refine bJ2 N ms s hl hr n _ b (by omega) hb (by omega) (fun i m hi hm=>?_) hbb
    rcases Nat.lt_or_ge i ((a+b) / 2) with h|h
    ·exact lt_trans (a19 hr hm hx h) hc
    ·have e:i=(a+b) / 2:=by omega
     subst e; rw [hx] at hm; cases hm; exact hc
   |false =>
    have hd:∀i m,(a+b) / 2≤i→ms[i]?=some m→Z6 m.name s=false:=by
     intro i m hi hm
     rcases Nat.lt_or_ge ((a+b) / 2) i with h|h
     ·cases hq:Z6 m.name s with
      |false=>rfl
      |true=>have:=lt_trans (a19 hr hx hm h) hq; rw [hc] at this; cases this
     ·have e:i=(a+b) / 2:=by omega
      subst e; rw [hx] at hm; cases hm; exact hc
    have hz:decide ((if false=true then (-1:Int) else if x.name=s then 0 else 1) < 0)=false:=by
     by_cases e:x.name=s<;>simp [e]
    rw [hz]
    simp only [cond_false,Option.bind_some]
    exact bJ2 N ms s hl hr n a _ (by omega) (by omega) (by omega) ha hd
  ·have hlt':¬(a:Int) < (b:Int):=by omega
   simp only [hlt',decide_false,cond_false]
   have e:a=b:=by omega
   subst e
   exact ⟨a,rfl,hb,ha,hbb⟩
theorem bsearch_eq (N:Nat) (ms:List Me) (s:ByteArray) (hN:1048577≤N) (hl:ms.length≤1048576) (hr:bM6 ms) :
  ∃v:Int,E9 N ms s (fun x0_ x1_=>aB0 N x0_ x1_)=some (v,(ixN s ms).isSome)∧∀i,ixN s ms=some i→v=i:=by
 obtain ⟨v,hv,hle,h1,h2⟩:=bJ2 N ms s hl hr N 0 ms.length (by omega) (by omega) (by omega) (fun i m h=>absurd h (by omega)) (fun i m h hm=>by
  have:=(List.getElem?_eq_some_iff.1 hm).1; omega)
 refine ⟨(v:Int),?_,?_⟩
 ·unfold E9
  have hv':y5 N ms s (fun x0_ x1_=>aB0 N x0_ x1_) N (0:Int) (ms.length:Int)=some (v:Int):=hv
  rw [hv']
  simp only [Option.bind_some]
  by_cases hlt:v < ms.length
  ·have hlt':(v:Int) < (ms.length:Int):=by omega
   obtain ⟨x,hx⟩:∃x,ms[v]?=some x:=⟨_,List.getElem?_eq_getElem hlt⟩
   have hf:=h2 v x (Nat.le_refl _) hx
   simp only [hlt',decide_true,cond_true,N7,hx,Option.bind_some,bF1,hf]
   by_cases e:x.name=s
   ·have:=cJ0 hr hx
    rw [e] at this
    simp [e,this]
   ·cases hi:ixN s ms with
    |none=>simp [e]
    |some i =>
     obtain ⟨m',hm1,hm2⟩:=aV9 hi
     rcases Nat.lt_trichotomy i v with h|h|h
     ·have:=h1 i m' h hm1; rw [hm2,bO7] at this; cases this
     ·subst h; rw [hx] at hm1; cases hm1; exact absurd hm2 e
     ·have:=a19 hr hx hm1 h
      rw [hm2] at this; rw [hf] at this; cases this
  ·have hlt':¬(v:Int) < (ms.length:Int):=by omega
   simp only [hlt',decide_false,cond_false,Option.bind_some]
   cases hi:ixN s ms with
   |none=>rfl
   |some i =>
    obtain ⟨m',hm1,hm2⟩:=aV9 hi
    have:=(List.getElem?_eq_some_iff.1 hm1).1
    have:=h1 i m' (by omega) hm1
    rw [hm2,bO7] at this; cases this
 ·intro i hi
  obtain ⟨m',hm1,hm2⟩:=aV9 hi
  have hlen:=(List.getElem?_eq_some_iff.1 hm1).1
  rcases Nat.lt_trichotomy i v with h|h|h
  ·have:=h1 i m' h hm1; rw [hm2,bO7] at this; cases this
  ·rw [h]
  ·obtain ⟨x,hx⟩:∃x,ms[v]?=some x:=⟨ms[v]'(by omega),List.getElem?_eq_getElem (by omega)⟩
   have:=a19 hr hx hm1 h
   rw [hm2] at this
   rw [h2 v x (Nat.le_refl _) hx] at this; cases this
def aF8 (w:Wd) (s:ByteArray):Nat→Int→Option (Int×Int)
 |0,_=>none
 |n+1,c=>if 0≤c then (match w.classes[c.toNat]? with
  |some x=>(match ixN s x.methods with|some i=>some (c,(i:Int))|none=>aF8 w s n x.super)
  |none=>none) else none
def F5 (w:Wd) (s:ByteArray) (c:Int):Int×Int:=(aF8 w s (w.classes.length+1) c).getD (-1,-1)
def aO6 (w:Wd):Prop:=∀x∈w.classes,bM6 x.methods
def Y1 (w:Wd):Prop:=w.classes.length≤1048576∧w.heap.length≤1048576∧(∀x∈w.classes,x.methods.length≤1048576∧∀m∈x.methods,m.code.length≤1048576)∧∀o∈w.heap,o.slots.length≤1048576
def c97 {σ:Type} (o:Option (Int×Int)) (s:σ):D9 (Int×Int) σ:=match o with|some p=>.ret p|none=>.next s
theorem bA2 (N:Nat) (w:Wd) (s:ByteArray) (hN:1048577≤N) (hw:aO6 w) (hs:Y1 w):∀(n:Nat) (k:Nat) (c:Int),k≤w.classes.length+1→w.classes.length+1 - k < n →
  Z4 N w s n c (k:Int)=some (c97 (aF8 w s (w.classes.length+1 - k) c) ())
 |0,k,c,_,h=>by omega
 |n+1,k,c,hk,hn=>by
  rw [Z4]
  by_cases h0:0≤c
  ·by_cases h1:c < w.classes.length
   ·obtain ⟨x,hx,hnth⟩:=aC1 h0 h1
    by_cases h2:k≤w.classes.length
    ·have h2':(k:Int)≤(w.classes.length:Int):=by omega
     have hxm:=List.mem_of_getElem? hx
     obtain ⟨v,hv,hvi⟩:=bsearch_eq N x.methods s hN (hs.2.2.1 x hxm).1 (hw x hxm)
     have e:w.classes.length+1 - k=(w.classes.length+1 - (k+1))+1:=by omega
     have wk:wr ((k:Int)+1)=((k+1:Nat):Int):=by rw [I4 (by have:=hs.1; unfold F9; omega)]; omega
     rw [e,aF8]
     simp only [h0,h1,h2',decide_true,cond_true,Option.bind_some,hnth,hv,hx,if_true,wk]
     cases hi:ixN s x.methods with
     |some i=>have:=hvi i hi; subst this; rfl
     |none =>
      simp only [Option.isSome_none,cond_false]
      exact bA2 N w s hN hw hs n (k+1) x.super (by omega) (by omega)
    ·have h2':¬(k:Int)≤(w.classes.length:Int):=by omega
     have e:w.classes.length+1 - k=0:=by omega
     simp only [h0,h1,h2',decide_true,decide_false,cond_true,cond_false,Option.bind_some,e]
     rfl
   ·have:aF8 w s (w.classes.length+1 - k) c=none:=by
     cases w.classes.length+1 - k with
     |zero=>rfl
     |succ n=>rw [aF8,if_pos h0,bS6 h1]
    simp only [h0,h1,decide_true,decide_false,cond_true,cond_false,Option.bind_some,this]
    rfl
  ·have:aF8 w s (w.classes.length+1 - k) c=none:=by
    cases w.classes.length+1 - k with
    |zero=>rfl
    |succ n=>rw [aF8,if_neg h0]
   simp only [h0,decide_false,cond_false,Option.bind_some,this]
   rfl
theorem bK2 (N:Nat) (w:Wd) (c:Int) (s:ByteArray) (hN:1048578≤N) (hw:aO6 w) (hs:Y1 w):aG5 N w c s=some (F5 w s c):=by
 unfold aG5 F5
 have h:=bA2 N w s (by omega) hw hs N 0 c (by omega) (by have:=hs.1; omega)
 have h':Z4 N w s N c (0:Int)=some (c97 (aF8 w s (w.classes.length+1) c) ()):=h
 rw [h']
 cases aF8 w s (w.classes.length+1) c<;>rfl
def aD3 (w:Wd):Nat→Int→List Int
 |0,_=>[]
 |n+1,c=>if 0≤c then (match w.classes[c.toNat]? with|some x=>c::aD3 w n x.super|none=>[]) else []
theorem bS7 (w:Wd):∀(n:Nat) (c:Int),(aD3 w n c).length≤n
 |0,_=>Nat.le_refl _
 |n+1,c=>by
  rw [aD3]
  split
  ·split
   ·have:=bS7 w n; simp only [List.length_cons]; exact Nat.succ_le_succ (this _)
   ·simp
  ·simp
theorem cI6 (w:Wd):∀(n:Nat) (c:Int),∀k∈aD3 w n c,0≤k∧k < w.classes.length
 |0,_,k,h=>by cases h
 |n+1,c,k,h=>by
  rw [aD3] at h
  split at h
  ·split at h
   ·rename_i h0 _ x hx
    rcases List.mem_cons.1 h with rfl|h
    ·exact ⟨h0,by have:=(List.getElem?_eq_some_iff.1 hx).1; omega⟩
    ·exact cI6 w n _ k h
   ·cases h
  ·cases h
theorem bA8 (N:Nat) (w:Wd) (hs:w.classes.length≤1048576):∀(n:Nat) (c:Int) (acc:List Int),acc.length≤w.classes.length+1→w.classes.length+1 - acc.length < n →
  aC7 N w n c acc=some (acc++aD3 w (w.classes.length+1 - acc.length) c)
 |0,c,acc,_,h=>by omega
 |n+1,c,acc,hk,hn=>by
  rw [aC7]
  by_cases h0:0≤c
  ·by_cases h1:c < w.classes.length
   ·obtain ⟨x,hx,hnth⟩:=aC1 h0 h1
    by_cases h2:acc.length≤w.classes.length
    ·have h2':(acc.length:Int)≤(w.classes.length:Int):=by omega
     have e:w.classes.length+1 - acc.length=(w.classes.length+1 - (acc++[c]).length)+1:=by simp; omega
     have hb:Nat.ble ((acc.length+[c].length)*8) 140737488355328=true:=J5 (by simp; omega)
     rw [e,aD3]
     simp only [h0,h1,h2',decide_true,cond_true,Option.bind_some,hnth,hx,if_true,hb]
     rw [bA8 N w hs n x.super (acc++[c]) (by simp; omega) (by simp; omega)]
     simp
    ·have h2':¬(acc.length:Int)≤(w.classes.length:Int):=by omega
     have e:w.classes.length+1 - acc.length=0:=by omega
     simp [h0,h1,h2',e,aD3]
   ·have:aD3 w (w.classes.length+1 - acc.length) c=[]:=by
     cases w.classes.length+1 - acc.length with
     |zero=>rfl
     |succ n=>rw [aD3,if_pos h0,bS6 h1]
    simp [h0,h1,this]
  ·have:aD3 w (w.classes.length+1 - acc.length) c=[]:=by
    cases w.classes.length+1 - acc.length with
    |zero=>rfl
    |succ n=>rw [aD3,if_neg h0]
   simp [h0,this]
theorem b80 (N:Nat) (w:Wd) (c:Int) (hN:1048578≤N) (hs:w.classes.length≤1048576):aU8 N w c=some (aD3 w (w.classes.length+1) c):=by
 unfold aU8
 rw [bA8 N w hs N c [] (by simp) (by simp; omega)]
 rfl
def F8 (w:Wd) (c:Int):Int:=(aD3 w (w.classes.length+1) c).foldl (fun n k=>match w.classes[k.toNat]? with|some x=>wr (n+x.slots)|none=>n) 0
theorem aY0 (N:Nat) (w:Wd) (L:List Int) (hL:∀k∈L,0≤k∧k < w.classes.length):∀(l:List Int) (k:Nat) (n:Int),l=L.drop k →
  Y3 N w L l k n=some (l.foldl (fun n k=>match w.classes[k.toNat]? with|some x=>wr (n+x.slots)|none=>n) n)
 |[],k,n,_=>rfl
 |c::l,k,n,h=>by
  obtain ⟨h1,h2,_⟩:=H9 h
  obtain ⟨c0,c1⟩:=hL c (List.mem_of_getElem? h1)
  obtain ⟨x,hx,hnth⟩:=aC1 c0 c1
  rw [Y3]
  simp only [N7,h1,Option.bind_some,hnth,List.foldl_cons,hx]
  exact aY0 N w L hL l (k+1) _ h2
theorem aM6 (N:Nat) (w:Wd) (c:Int) (hN:1048578≤N) (hs:w.classes.length≤1048576):X0 N w c=some (F8 w c):=by
 unfold X0 F8
 rw [b80 N w c hN hs]
 simp only [Option.bind_some]
 rw [aY0 N w _ (cI6 w _ c) (aD3 w (w.classes.length+1) c) 0 0 rfl]
 rfl
theorem cB7 (w:Wd) (s:ByteArray):∀(n:Nat) (c:Int) (p:Int×Int),aF8 w s n c=some p→0≤p.1∧0≤p.2∧∃x m,w.classes[p.1.toNat]?=some x∧x.methods[p.2.toNat]?=some m∧m.name=s
 |0,c,p,h=>by cases h
 |n+1,c,p,h=>by
  rw [aF8] at h
  by_cases h0:0≤c
  ·rw [if_pos h0] at h
   cases hx:w.classes[c.toNat]? with
   |none=>rw [hx] at h; cases h
   |some x =>
    rw [hx] at h
    simp only at h
    cases hi:ixN s x.methods with
    |none=>rw [hi] at h; exact cB7 w s n _ p h
    |some i =>
     rw [hi] at h
     cases h
     obtain ⟨m,h1,h2⟩:=aV9 hi
     exact ⟨h0,Int.natCast_nonneg _,x,m,hx,h1,h2⟩
  ·rw [if_neg h0] at h; cases h
theorem bI6 {w:Wd} {s:ByteArray} {c:Int} (h:0≤(F5 w s c).2):∃x m,w9 w.classes (F5 w s c).1=some x∧w9 x.methods (F5 w s c).2=some m∧m.name=s:=by
 unfold F5 at h ⊢
 cases hf:aF8 w s (w.classes.length+1) c with
 |none=>rw [hf] at h; exact absurd h (by decide)
 |some p =>
  obtain ⟨h0,h1,x,m,hx,hm,hn⟩:=cB7 w s _ c p hf
  exact ⟨x,m,by rw [Option.getD_some,aR6 h0,hx],by rw [Option.getD_some,aR6 h1,hm],hn⟩
end Go.Proofs.Ytahmeibkdhbngaa
namespace Go.Proofs.Ytahmeibkdhbngaa
open Go.RowKit
set_option linter.unusedVariables false
def sends (i:Ins):Bool:=decide (i.op=14) || decide (i.op=13)
end Go.Proofs.Ytahmeibkdhbngaa
namespace Go.Proofs.Ytahmeibkdhbngaa
open Go.RowKit
set_option linter.unusedVariables false
theorem aO3 {α:Type} {b:Bool} {x y:Option α} (hx:b=true→∃r,x=some r) (hy:b=false→∃r,y=some r):∃r,(bif b then x else y)=some r:=by
 cases b
 ·exact hy rfl
 ·exact hx rfl
theorem bH7 {α β:Type} {x:Option α} {f:α→Option β} (hx:∃a,x=some a) (hf:∀a,x=some a→∃r,f a=some r):∃r,x.bind f=some r:=by
 obtain ⟨a,rfl⟩:=hx
 exact hf a rfl
def nmB (u:UInt8):Bool:=!decide ((u.toNat:Int) < 33) && !decide (126 < (u.toNat:Int))
def aF6 (s:ByteArray):Bool:=s.data.toList.all nmB && (decide (0 < s.size) && decide (s.size≤12))
theorem cI5 (s:ByteArray) (k:Nat):byO s (k:Int)=s.data.toList[k]?:=by
 unfold byO
 rw [decide_eq_true (Int.natCast_nonneg k)]
 show s[k]?=_
 by_cases h:k < s.size
 ·rw [getElem?_pos s k h,List.getElem?_eq_getElem (by simpa using h)]
  rfl
 ·rw [getElem?_neg s k h,List.getElem?_eq_none (by simpa using h)]
theorem a03 (N:Nat) (s:ByteArray):∀(n k:Nat),n+k=s.size→aA5 N s n k=some (if (s.data.toList.drop k).all nmB=true then .next () else .ret false)
 |0,k,h=>by
  rw [List.drop_eq_nil_of_le (by rw [show s.data.toList.length=s.size from rfl]; omega)]
  rfl
 |n+1,k,h=>by
  have hk:k < s.data.toList.length:=by rw [show s.data.toList.length=s.size from rfl]; omega
  rw [aA5,List.drop_eq_getElem_cons hk,cI5,List.getElem?_eq_getElem hk,a03 N s n (k+1) (by omega)]
  simp only [Option.bind_some,List.all_cons]
  generalize s.data.toList[k]=u
  generalize s.data.toList.drop (k+1)=b
  by_cases h1:(u.toNat:Int) < 33
  ·have e:nmB u=false:=by simp [nmB,h1]
   simp only [h1,e,decide_true,cond_true,Option.bind_some,Bool.false_and]; rfl
  ·by_cases h2:126 < (u.toNat:Int)
   ·have e:nmB u=false:=by simp only [nmB,h1,h2,decide_true,decide_false,Bool.not_true,Bool.and_false]
    simp only [h1,h2,e,decide_true,decide_false,cond_true,cond_false,Option.bind_some,Bool.false_and]; rfl
   ·have e:nmB u=true:=by simp only [nmB,h1,h2,decide_false,Bool.not_false,Bool.and_true]
    simp only [h1,h2,e,decide_false,cond_false,Option.bind_some,Bool.true_and]
theorem aA7 (N:Nat) (s:ByteArray):aD6 N s=some (aF6 s):=by
 unfold aD6 aF6
 have e:((s.size:Int) - ((0:Nat):Int)).toNat=s.size:=by omega
 rw [e,a03 N s s.size 0 (by omega),List.drop_zero]
 cases h:s.data.toList.all nmB
 ·simp
 ·by_cases h1:0 < s.size
  ·by_cases h2:s.size≤12
   ·have h1':(0:Int) < (s.size:Int):=by omega
    have h2':(s.size:Int)≤12:=by omega
    simp [h1,h2,h2']
   ·have h2':¬(s.size:Int)≤12:=by omega
    have h1':(0:Int) < (s.size:Int):=by omega
    simp [h2,h2']
  ·have h1':¬(0:Int) < (s.size:Int):=by omega
   simp [h1]
theorem aV1 (N:Nat) (w:Wd) (c:Int) (m:Me) (i:Ins) (hN:1048578≤N) (hs:w.classes.length≤1048576):∃r,J9 N w c m i=some r:=by
 unfold J9
 simp only [aM6 N w c hN hs,aA7]
 repeat (first|exact ⟨_,rfl⟩|refine aO3 (fun _=>?_) (fun _=>?_)|refine bH7 ?_ (fun a _=>?_)|split)
theorem bL3 (N:Nat) (w:Wd) (c:Int) (m:Me) (i:Ins) (h:J9 N w c m i=some 0) (ho:i.op=14):0≤i.a∧i.a≤4:=by
 unfold J9 at h
 simp only [ho,aA7,show ((14:Int)=1)=False by decide,show ((14:Int)=2)=False by decide,show ((14:Int)=3)=False by decide,show ((14:Int)=4)=False by decide,show ((14:Int)=5)=False by decide,show ((14:Int)=6)=False by decide,show ((14:Int)=7)=False by decide,show ((14:Int)=8)=False by decide,show ((14:Int)=9)=False by decide,show ((14:Int)=10)=False by decide,show ((14:Int)=11)=False by decide,show ((14:Int)=12)=False by decide,show ((14:Int)=13)=False by decide,show ((14:Int)=17)=False by decide,decide_true,decide_false,cond_true,cond_false,Option.bind_some] at h
 by_cases h1:i.a < 0
 ·simp [h1] at h
 ·by_cases h2:4 < i.a
  ·simp [h1,h2] at h
  ·omega
def bQ1 (m:Me):Prop:=∀i∈m.code,i.op=14→0≤i.a∧i.a≤4
def O3 (i:Ins) (p:Int):Int×Int×List Int :=
 if i.op=9∨i.op=11∨i.op=12 then (1,-1,[wr (p+1)]) else if i.op=10 then (1,1,[wr (p+1)])
 else if i.op=14 then (wr (i.a+1),-i.a,[wr (p+1)]) else if i.op=15 then (0,0,[i.a])
 else if i.op=16 then (1,-1,[wr (p+1),i.a]) else if i.op=17 then (1,-1,[]) else (0,1,[wr (p+1)])
theorem cI9 (i:Ins) (p:Int):(O3 i p).2.2.length≤2:=by
 unfold O3
 (repeat' split)<;>simp
theorem b37 (N:Nat) (i:Ins) (p:Int) (h:i.op=14→0≤i.a∧i.a≤4):aQ8 N i p=some (O3 i p):=by
 unfold aQ8 O3
 by_cases h1:i.op=9
 ·simp [h1]
 by_cases h2:i.op=11
 ·simp [h2]
 by_cases h3:i.op=12
 ·simp [h3]
 by_cases h4:i.op=10
 ·simp [h4]
 by_cases h5:i.op=14
 ·have:=h h5
  have e:decide (F9 (-i.a))=true:=decide_eq_true (by unfold F9; omega)
  simp only [h5,e,decide_true,cond_true,show ((14:Int)=9)=False by decide,show ((14:Int)=11)=False by decide,show ((14:Int)=12)=False by decide,show ((14:Int)=10)=False by decide,decide_false,cond_false,Option.bind_some,or_self,if_false,if_true]
 by_cases h6:i.op=15
 ·simp [h6]
 by_cases h7:i.op=16
 ·simp [h7]
 by_cases h8:i.op=17
 ·simp [h8]
 simp [h1,h2,h3,h4,h5,h6,h7,h8]
theorem bO4 {i:Ins} {p:Int} {x:Int} (h0:0≤x) (h12:x≤12) (hn:¬x < (O3 i p).1) (hm:¬12 < wr (x+(O3 i p).2.1)) (hi:i.op=14→0≤i.a∧i.a≤4) :
  0≤wr (x+(O3 i p).2.1)∧wr (x+(O3 i p).2.1)≤12∧wr (x+(O3 i p).2.1)=x+(O3 i p).2.1:=by
 unfold O3 at hn hm ⊢
 split at hn
 ·rename_i h1
  simp only [h1,if_true] at hm ⊢
  rw [I4 (by unfold F9; omega)]; omega
 ·rename_i h1
  simp only [h1,if_false] at hm ⊢
  split at hn
  ·rename_i h2
   simp only [h2,if_true] at hm ⊢
   rw [I4 (by unfold F9; omega)] at hm ⊢; omega
  ·rename_i h2
   simp only [h2,if_false] at hm ⊢
   split at hn
   ·rename_i h3
    have hi:=hi h3
    simp only [h3,if_true] at hm ⊢
    simp only at hn
    rw [I4 (by unfold F9; omega)] at hn hm ⊢; omega
   ·rename_i h3
    simp only [h3,if_false] at hm ⊢
    split at hn
    ·rename_i h4
     simp only [h4,if_true] at hm ⊢
     rw [I4 (by unfold F9; omega)] at hm ⊢; omega
    ·rename_i h4
     simp only [h4,if_false] at hm ⊢
     split at hn
     ·rename_i h5
      simp only [h5,if_true] at hm ⊢
      rw [I4 (by unfold F9; omega)] at hm ⊢; omega
     ·rename_i h5
      simp only [h5,if_false] at hm ⊢
      split at hn
      ·rename_i h6
       simp only [h6,if_true] at hm ⊢
       rw [I4 (by unfold F9; omega)] at hm ⊢; omega
      ·rename_i h6
       simp only [h6,if_false] at hm ⊢
       rw [I4 (by unfold F9; omega)] at hm ⊢; omega
theorem aS7 (N:Nat):∀(n k:Nat) (v:List Int),n+k=v.length→P9 N n k v=some (v.take k++List.replicate n (-1))
 |0,k,v,h=>by rw [P9,List.take_of_length_le (by omega)]; simp
 |n+1,k,v,h=>by
  have hk:k < v.length:=by omega
  rw [P9,N7,List.getElem?_eq_getElem hk]
  simp only [Option.bind_some,Int.toNat_natCast]
  rw [aS7 N n (k+1) _ (by simp; omega)]
  congr 1
  rw [List.take_add_one,List.take_set_of_le (Nat.le_refl _),List.getElem?_set_self hk,List.replicate_succ]
  simp
theorem aS9 (N:Nat) (x:Int) (r:Int×Int×List Int):∀(l:List Int) (k:Nat) (a b:List Int),l=r.2.2.drop k→a.length+l.length≤17592186044416→b.length+l.length≤17592186044416 →
  P8 N x r l k a b=some (a++l,b++List.replicate l.length (wr (x+r.2.1)))
 |[],k,a,b,_,_,_=>by simp [P8]
 |y::l,k,a,b,h,ha,hb=>by
  obtain ⟨h1,h2,_⟩:=H9 h
  simp only [List.length_cons] at ha hb
  rw [P8]
  have e1:Nat.ble ((a.length+[y].length)*8) 140737488355328=true:=J5 (by simp; omega)
  have e2:Nat.ble ((b.length+[wr (x+r.2.1)].length)*8) 140737488355328=true:=J5 (by simp; omega)
  simp only [N7,h1,Option.bind_some,e1,e2,cond_true]
  rw [aS9 N x r l (k+1) _ _ h2 (by simp; omega) (by simp; omega)]
  simp [List.replicate_succ]
def bD3 (h:List Int):Nat:=h.countP fun x=>decide (x < 0)
theorem b68 {h:List Int} {i:Nat} {x y:Int} (hi:h[i]?=some x) (hx:x < 0) (hy:0≤y):bD3 (h.set i y)+1=bD3 h:=by
 induction h generalizing i with
 |nil=>simp at hi
 |cons a h ih =>
  cases i with
  |zero =>
   simp only [List.getElem?_cons_zero,Option.some.injEq] at hi
   subst hi
   have:¬y < 0:=by omega
   simp [bD3,hx,this]
  |succ i =>
   have:=ih (i:=i) (by simpa using hi)
   simp only [bD3,List.set_cons_succ,List.countP_cons] at this ⊢
   omega
def hgt (m:Me):Nat→List Int→List (Int×Int)→Option (D9 (List Int×M0) (List Int))
 |0,_,_=>none
 |_+1,h,[]=>some (.next h)
 |n+1,h,(p,x)::r =>
  if (m.code.length:Int)≤p∨p < 0 then some (.ret ([],⟨9,m.code.length⟩)) else
  match h[p.toNat]?,m.code[p.toNat]? with
  |some y,some i =>
   if 0≤y then (if y=x then hgt m n h r else some (.ret ([],⟨8,p⟩)))
   else if x < (O3 i p).1∨(i.op=17∧x≠1) then some (.ret ([],⟨8,p⟩))
   else if 12 < wr (x+(O3 i p).2.1) then some (.ret ([],⟨4,p⟩))
   else hgt m n (h.set p.toNat x) (r++(O3 i p).2.2.map fun q=>(q,wr (x+(O3 i p).2.1)))
  |_,_=>none
def hOk (l:List (Int×Int)):Prop:=∀q∈l,0≤q.2∧q.2≤12
theorem bU9 (m:Me) (hm:bQ1 m):∀(n:Nat) (h:List Int) (l:List (Int×Int)),h.length=m.code.length→hOk l→l.length+3*bD3 h < n→∃r,hgt m n h l=some r
 |0,h,l,_,_,hn=>by omega
 |n+1,h,[],_,_,_=>⟨_,rfl⟩
 |n+1,h,(p,x)::r,hh,hl,hn=>by
  rw [hgt]
  simp only [List.length_cons] at hn
  have hx:=hl (p,x) (by simp)
  have hr:hOk r:=fun q hq=>hl q (by simp [hq])
  by_cases h1:(m.code.length:Int)≤p∨p < 0
  ·rw [if_pos h1]; exact ⟨_,rfl⟩
  rw [if_neg h1]
  have hp:p.toNat < m.code.length:=by omega
  have e1:h[p.toNat]?=some (h[p.toNat]'(by omega)):=List.getElem?_eq_getElem (by omega)
  have e2:m.code[p.toNat]?=some m.code[p.toNat]:=List.getElem?_eq_getElem hp
  generalize h[p.toNat]'(by omega)=y at e1
  have hi:=hm _ (List.getElem_mem hp)
  generalize m.code[p.toNat]=i at e2 hi
  rw [e1,e2]
  simp only
  by_cases h2:0≤y
  ·rw [if_pos h2]
   by_cases h3:y=x
   ·rw [if_pos h3]; exact bU9 m hm n h r hh hr (by omega)
   ·rw [if_neg h3]; exact ⟨_,rfl⟩
  rw [if_neg h2]
  by_cases h3:x < (O3 i p).1∨(i.op=17∧x≠1)
  ·rw [if_pos h3]; exact ⟨_,rfl⟩
  rw [if_neg h3]
  by_cases h4:12 < wr (x+(O3 i p).2.1)
  ·rw [if_pos h4]; exact ⟨_,rfl⟩
  rw [if_neg h4]
  have hb:=bO4 hx.1 hx.2 (fun h=>h3 (Or.inl h)) h4 hi
  have hu:=b68 (y:=x) e1 (by omega) hx.1
  have hl2:=cI9 i p
  refine bU9 m hm n _ _ (by simpa using hh) (fun q hq=>?_) (by simp; omega)
  rcases List.mem_append.1 hq with hq|hq
  ·exact hr q hq
  ·obtain ⟨z,_,rfl⟩:=List.mem_map.1 hq
   exact ⟨hb.1,hb.2.1⟩
theorem aK3 (N:Nat) (m:Me) (hm:bQ1 m) (hc:m.code.length≤1048576):∀(n:Nat) (h:List Int) (ats hs:List Int) (k:Nat),ats.length=hs.length→k≤ats.length→ats.length+2*bD3 h≤4194304→h.length=m.code.length →
  hOk ((ats.drop k).zip (hs.drop k))→P7 N m n h ats hs (k:Int)=hgt m n h ((ats.drop k).zip (hs.drop k))
 |0,_,_,_,_,_,_,_,_,_=>rfl
 |n+1,h,ats,hs,k,hl,hk,hb,hh,ho=>by
  rw [P7]
  by_cases hlt:k < ats.length
  ·have hlt':(k:Int) < (ats.length:Int):=by omega
   have hlt2:k < hs.length:=by omega
   have ea:ats[k]?=some ats[k]:=List.getElem?_eq_getElem hlt
   have eh:hs[k]?=some hs[k]:=List.getElem?_eq_getElem hlt2
   have ed:(ats.drop k).zip (hs.drop k)=(ats[k],hs[k])::(ats.drop (k+1)).zip (hs.drop (k+1)):=by
    rw [List.drop_eq_getElem_cons hlt,List.drop_eq_getElem_cons hlt2]; rfl
   have hx:=ho (ats[k],hs[k]) (by rw [ed]; simp)
   have hr:hOk ((ats.drop (k+1)).zip (hs.drop (k+1))):=fun q hq=>ho q (by rw [ed]; simp [hq])
   have wk:wr ((k:Int)+1)=((k+1:Nat):Int):=by rw [I4 (by unfold F9; omega)]; omega
   rw [ed,hgt]
   generalize hp:ats[k]=p at ea hx
   generalize hxx:hs[k]=x at eh hx
   simp only [hlt',decide_true,cond_true,N7,ea,eh,Option.bind_some,wk]
   by_cases h1:(m.code.length:Int)≤p
   ·simp only [h1,decide_true,cond_true,Option.bind_some,true_or,if_true]
   by_cases h1':p < 0
   ·simp only [h1,h1',decide_true,decide_false,cond_true,cond_false,Option.bind_some,or_true,if_true]
   simp only [h1,h1',decide_false,cond_false,Option.bind_some,or_self,if_false]
   have hpl:p.toNat < m.code.length:=by omega
   have hp0:0≤p:=by omega
   have e1:h[p.toNat]?=some (h[p.toNat]'(by omega)):=List.getElem?_eq_getElem (by omega)
   have e2:m.code[p.toNat]?=some m.code[p.toNat]:=List.getElem?_eq_getElem hpl
   generalize h[p.toNat]'(by omega)=y at e1
   have hi:=hm _ (List.getElem_mem hpl)
   generalize m.code[p.toNat]=i at e2 hi
   have n1:w9 h p=some y:=by rw [aR6 hp0,e1]
   have n2:w9 m.code p=some i:=by rw [aR6 hp0,e2]
   simp only [n1,n2,e1,e2,Option.bind_some,b37 N i p hi]
   by_cases h2:0≤y
   ·simp only [h2,decide_true,cond_true,if_true]
    by_cases h3:y=x
    ·simp only [h3,decide_true,Bool.not_true,cond_false,Option.bind_some,if_true]
     exact aK3 N m hm hc n h ats hs (k+1) hl (by omega) hb hh hr
    ·simp only [h3,decide_false,Bool.not_false,cond_true,Option.bind_some,if_false]
   simp only [h2,decide_false,cond_false,if_false]
   by_cases h3:x < (O3 i p).1
   ·simp only [h3,decide_true,cond_true,Option.bind_some,true_or,if_true]
   by_cases h4:i.op=17∧x≠1
   ·simp only [h3,h4.1,h4.2,decide_true,decide_false,cond_true,cond_false,Option.bind_some,Bool.not_false,or_true,if_true,ne_eq,not_false_eq_true,and_self]
   have hq:((bif decide (i.op=(17:Int)) then some ((!decide (x=(1:Int)))) else some (false)):Option Bool)=some false:=by
    by_cases h5:i.op=17
    ·by_cases h6:x=1
     ·simp [h6]
     ·exact absurd ⟨h5,h6⟩ h4
    ·simp [h5]
   simp only [h3,h4,hq,decide_false,cond_false,Option.bind_some,or_self,if_false]
   by_cases h5:12 < wr (x+(O3 i p).2.1)
   ·simp only [h5,decide_true,cond_true,Option.bind_some,if_true]
   simp only [h5,decide_false,cond_false,if_false]
   have hb2:=bO4 hx.1 hx.2 h3 h5 hi
   have hu:=b68 (y:=x) e1 (by omega) hx.1
   have hl2:=cI9 i p
   rw [aS9 N x (O3 i p) (O3 i p).2.2 0 ats hs rfl (by omega) (by omega)]
   simp only [Option.bind_some]
   have ez:((ats++(O3 i p).2.2).drop (k+1)).zip ((hs++List.replicate (O3 i p).2.2.length (wr (x+(O3 i p).2.1))).drop (k+1)) =
     (ats.drop (k+1)).zip (hs.drop (k+1))++(O3 i p).2.2.map fun q=>(q,wr (x+(O3 i p).2.1)):=by
    rw [List.drop_append_of_le_length (by omega),List.drop_append_of_le_length (by omega),List.zip_append (by simp; omega)]
    congr 1
    generalize (O3 i p).2.2=L
    induction L with
    |nil=>rfl
    |cons a L ih=>simp [List.replicate_succ,ih]
   rw [aK3 N m hm hc n _ _ _ (k+1) (by simp; omega) (by simp; omega) (by simp; omega) (by simpa using hh) (by
    rw [ez]
    intro q hq
    rcases List.mem_append.1 hq with hq|hq
    ·exact hr q hq
    ·obtain ⟨z,_,rfl⟩:=List.mem_map.1 hq
     exact ⟨hb2.1,hb2.2.1⟩),ez]
  ·have hlt':¬(k:Int) < (ats.length:Int):=by omega
   have ed:(ats.drop k).zip (hs.drop k)=[]:=by rw [List.drop_eq_nil_of_le (by omega)]; rfl
   rw [ed,hgt]
   simp only [hlt',decide_false,cond_false]
def cU7 (o:D9 (List Int×M0) (List Int)):List Int×M0:=match o with|.ret r=>r|.next h=>(h,⟨0,0⟩)
theorem b47 (n:Nat):bD3 (List.replicate n (-1))=n:=by
 induction n with
 |zero=>rfl
 |succ n ih=>simp only [bD3,List.replicate_succ,List.countP_cons] at ih ⊢; rw [ih]; rfl
theorem a06 (N:Nat) (m:Me) (hm:bQ1 m) (hc:m.code.length≤1048576):aD8 N m=(hgt m N (List.replicate m.code.length (-1)) [(0,0)]).map cU7:=by
 unfold aD8
 have e0:(decide (0≤(m.code.length:Int)) && decide ((m.code.length:Int)≤140737488355328) && decide ((m.code.length:Int)*8≤140737488355328))=true:=by
  simp only [Bool.and_eq_true,decide_eq_true_eq]; omega
 have e1:(((List.replicate (m.code.length:Int).toNat (0:Int)).length:Int) - ((0:Nat):Int)).toNat=m.code.length:=by simp
 rw [e0,e1,aS7 N _ 0 _ (by simp)]
 simp only [cond_true,Option.bind_some,List.take_zero,List.nil_append]
 have h:=aK3 N m hm hc N (List.replicate m.code.length (-1)) [0] [0] 0 rfl (by simp) (by rw [b47]; simp; omega) (by simp) (by
  intro q hq
  simp only [List.drop_zero,List.zip_cons_cons,List.zip_nil_right,List.mem_cons,List.not_mem_nil,or_false] at hq
  subst hq; decide)
 have h':P7 N m N (List.replicate m.code.length (-1)) [(0:Int)] [(0:Int)] (0:Int)=hgt m N (List.replicate m.code.length (-1)) [(0,0)]:=h
 rw [h']
 cases hgt m N (List.replicate m.code.length (-1)) [(0,0)] with
 |none=>rfl
 |some o=>cases o<;>rfl
theorem bL8 (N:Nat) (m:Me) (hN:4194304≤N) (hm:bQ1 m) (hc:m.code.length≤1048576):∃r,aD8 N m=some r:=by
 rw [a06 N m hm hc]
 obtain ⟨o,ho⟩:=bU9 m hm N (List.replicate m.code.length (-1)) [(0,0)] (by simp) (by
  intro q hq
  simp only [List.mem_cons,List.not_mem_nil,or_false] at hq
  subst hq; decide) (by rw [b47]; simp; omega)
 rw [ho]
 exact ⟨_,rfl⟩
end Go.Proofs.Ytahmeibkdhbngaa
namespace Go.Proofs.Ytahmeibkdhbngaa
open Go.RowKit
set_option linter.unusedVariables false
theorem aJ6 (N:Nat) (w:Wd) (c:Int) (m:Me) (hN:1048578≤N) (hs:w.classes.length≤1048576):∀(l:List Ins) (k:Nat),∃o,K5 N w c m l k=some o∧(o=.next ()→∀i∈l,J9 N w c m i=some 0)
 |[],k=>⟨_,rfl,fun _ i hi=>by cases hi⟩
 |x::l,k=>by
  obtain ⟨r,hr⟩:=aV1 N w c m x hN hs
  rw [K5,hr]
  simp only [Option.bind_some]
  by_cases h:r=0
  ·subst h
   simp only [decide_true,Bool.not_true,cond_false]
   obtain ⟨o,h1,h2⟩:=aJ6 N w c m hN hs l (k+1)
   refine ⟨o,h1,fun e i hi=>?_⟩
   rcases List.mem_cons.1 hi with rfl|hi
   ·exact hr
   ·exact h2 e i hi
  ·simp only [h,decide_false,Bool.not_false,cond_true]
   exact ⟨_,rfl,fun e=>by cases e⟩
theorem bQ9 (N:Nat) (w:Wd) (c:Int) (m:Me) (hN:4194304≤N) (hs:w.classes.length≤1048576) (hc:m.code.length≤1048576):∃f,T9 N w c m=some f:=by
 unfold T9
 simp only [aA7,Option.bind_some]
 refine bH7 ?_ fun a _=>?_
 ·repeat (first|exact ⟨_,rfl⟩|refine aO3 (fun _=>?_) (fun _=>?_))
 refine aO3 (fun _=>⟨_,rfl⟩) fun _=>?_
 refine aO3 (fun _=>⟨_,rfl⟩) fun _=>?_
 refine bH7 ?_ fun a _=>?_
 ·repeat (first|exact ⟨_,rfl⟩|refine aO3 (fun _=>?_) (fun _=>?_))
 refine aO3 (fun _=>⟨_,rfl⟩) fun _=>?_
 refine aO3 (fun _=>⟨_,rfl⟩) fun _=>?_
 refine bH7 ?_ fun a _=>?_
 ·repeat (first|exact ⟨_,rfl⟩|refine aO3 (fun _=>?_) (fun _=>?_))
 refine aO3 (fun _=>⟨_,rfl⟩) fun _=>?_
 obtain ⟨o,h1,h2⟩:=aJ6 N w c m (by omega) hs m.code 0
 rw [h1]
 simp only [Option.bind_some]
 cases o with
 |ret r=>exact ⟨_,rfl⟩
 |next u =>
  obtain ⟨r,hr⟩:=bL8 N m hN (fun i hi ho=>bL3 N w c m i (h2 rfl i hi) ho) hc
  simp only [hr,Option.bind_some]
  exact ⟨_,rfl⟩
def Good (x:Option (D9 Int Unit)) (P:Prop):Prop:=∃o,x=some o∧(∀r,o=.ret r→r≠0)∧(o=.next ()→P)
theorem Good.ret {r:Int} {P:Prop} (h:r≠0):Good (some (.ret r)) P:=⟨.ret r,rfl,(fun r e=>by cases e; exact h),fun e=>by cases e⟩
theorem Good.next {P:Prop} (h:P):Good (some (.next ())) P:=⟨.next (),rfl,(fun r e=>by cases e),fun _=>h⟩
theorem Good.bind {x:Option (D9 Int Unit)} {P Q:Prop} {y:Option (D9 Int Unit)} (h:Good x P) (hy:P→Good y Q):Good (x.bind fun o=>match o with|.ret r=>some (.ret r)|.next ()=>y) Q:=by
 obtain ⟨o,rfl,h1,h2⟩:=h
 cases o with
 |ret r=>exact Good.ret (h1 r rfl)
 |next u=>exact hy (h2 rfl)
theorem Good.imp {x:Option (D9 Int Unit)} {P Q:Prop} (h:Good x P) (hq:P→Q):Good x Q:=by
 obtain ⟨o,h0,h1,h2⟩:=h
 exact ⟨o,h0,h1,fun e=>hq (h2 e)⟩
theorem bL1 (N:Nat) (x:Cl):∀(l:List Cl) (k:Nat),Good (U6 N x l k) (∀d∈l,d.name≠x.name)
 |[],k=>Good.next fun d hd=>by cases hd
 |d::l,k=>by
  rw [U6]
  by_cases h:d.name=x.name
  ·simp only [h,decide_true,cond_true]; exact Good.ret (by decide)
  ·simp only [h,decide_false,cond_false]
   exact (bL1 N x l (k+1)).imp fun hl e he=>by
    rcases List.mem_cons.1 he with rfl|he
    ·exact h
    ·exact hl e he
def bW0 (w:Wd) (k:Nat) (c:Cl):Prop:=aF6 c.name=true∧(∀d∈w.classes.take k,d.name≠c.name) ∧
 (k < 4→∃f,aT4.classes[k]?=some f∧c.name=f.name∧c.super=f.super∧c.slots=0) ∧
 (4≤k→0≤c.super∧c.super < k∧(0 < c.super→4≤c.super))∧0≤c.slots∧c.slots≤6
theorem bJ6 (N:Nat) (w:Wd):∀(l:List Cl) (k:Nat),l=w.classes.drop k→Good (Q8 N w aT4 l k) (∀j c,k≤j→w.classes[j]?=some c→bW0 w j c)
 |[],k,h=>Good.next fun j c hj hc=>by
   have h1:=(List.getElem?_eq_some_iff.1 hc).1
   have h2:=List.drop_eq_nil_iff.1 h.symm
   omega
 |c::l,k,h=>by
  obtain ⟨hc,hl,hlt⟩:=H9 h
  have hlt:=of_decide_eq_true hlt
  rw [Q8,aA7]
  simp only [Option.bind_some]
  cases hn:aF6 c.name with
  |false=>simp only [Bool.not_false,cond_true,Option.bind_some]; exact Good.ret (by decide)
  |true =>
   simp only [Bool.not_true,cond_false]
   have hg:(decide (0≤(k:Int)) && decide ((k:Int)≤(w.classes.length:Int)))=true:=by simp only [Bool.and_eq_true,decide_eq_true_eq]; omega
   have step:∀(P:Prop) (y:Option (D9 Int Unit)),((∀d∈w.classes.take k,d.name≠c.name)→Good y P) →
     Good ((bif (decide (0≤(k:Int)) && decide ((k:Int)≤(w.classes.length:Int))) then ((U6 N c (w.classes.take (k:Int).toNat) 0).bind fun o=>match o with|.ret r=>some (.ret r)|.next ()=>y) else none)) P:=by
    intro P y hy
    rw [hg]
    exact (bL1 N c _ 0).bind fun hd=>hy (by simpa using hd)
   have rest:∀(P:Prop),bW0 w k c→Good (Q8 N w aT4 l (k+1)) (∀j c,k≤j→w.classes[j]?=some c→bW0 w j c):=fun _ hk =>
    (bJ6 N w l (k+1) hl).imp fun ih j d hj hd=>by
     rcases Nat.eq_or_lt_of_le hj with rfl|hj
     ·rw [hc] at hd; cases hd; exact hk
     ·exact ih j d hj hd
   by_cases h4:k < 4
   ·have h4':(k:Int) < 4:=by omega
    obtain ⟨f,hf⟩:∃f,aT4.classes[k]?=some f:=⟨_,List.getElem?_eq_getElem (by simpa [aT4] using h4)⟩
    simp only [h4',decide_true,cond_true,N7,hf,Option.bind_some]
    by_cases he:c.name=f.name
    ·simp only [he,decide_true,Bool.not_true,cond_false]
     refine step _ _ fun hd=>?_
     by_cases h5:c.super=f.super
     ·simp only [h5,decide_true,Bool.not_true,cond_false,Option.bind_some]
      by_cases h6:c.slots < 0
      ·simp only [h6,decide_true,cond_true,Option.bind_some]; exact Good.ret (by decide)
      ·by_cases h7:0 < c.slots
       ·simp only [h6,h7,decide_true,decide_false,cond_true,cond_false,Option.bind_some]; exact Good.ret (by decide)
       ·simp only [h6,h7,decide_false,cond_false,Option.bind_some]
        exact rest True ⟨hn,hd,fun _=>⟨f,hf,he,h5,by omega⟩,fun h=>by omega,by omega,by omega⟩
     ·simp only [h5,decide_false,Bool.not_false,cond_true,Option.bind_some]; exact Good.ret (by decide)
    ·simp only [he,decide_false,Bool.not_false,cond_true]; exact Good.ret (by decide)
   ·have h4':¬(k:Int) < 4:=by omega
    simp only [h4',decide_false,cond_false,Option.bind_some]
    refine step _ _ fun hd=>?_
    by_cases h5:c.super < 0
    ·simp only [h5,decide_true,cond_true,Option.bind_some]; exact Good.ret (by decide)
    by_cases h6:(k:Int)≤c.super
    ·simp only [h5,h6,decide_true,decide_false,cond_true,cond_false,Option.bind_some]; exact Good.ret (by decide)
    have tail:(0 < c.super→4≤c.super)→Good (((bif decide (c.slots < (0:Int)) then some (true) else some (decide ((6:Int) < c.slots))):Option Bool).bind fun v63=>(bif v63 then some (.ret (3:Int)) else Q8 N w aT4 l (k+1))) (∀j c,k≤j→w.classes[j]?=some c→bW0 w j c):=by
     intro hq
     by_cases h7:c.slots < 0
     ·simp only [h7,decide_true,cond_true,Option.bind_some]; exact Good.ret (by decide)
     ·by_cases h8:6 < c.slots
      ·simp only [h7,h8,decide_true,decide_false,cond_true,cond_false,Option.bind_some]; exact Good.ret (by decide)
      ·simp only [h7,h8,decide_false,cond_false,Option.bind_some]
       exact rest True ⟨hn,hd,fun h=>by omega,fun _=>⟨by omega,by omega,hq⟩,by omega,by omega⟩
    by_cases h7:0 < c.super
    ·by_cases h8:c.super < 4
     ·simp only [h5,h6,h7,h8,decide_true,decide_false,cond_true,cond_false,Option.bind_some]; exact Good.ret (by decide)
     ·simp only [h5,h6,h7,h8,decide_true,decide_false,cond_true,cond_false,Option.bind_some]
      exact tail fun _=>by omega
    ·simp only [h5,h6,h7,decide_false,cond_false,Option.bind_some]
     exact tail fun h=>absurd h h7
def cK0 (k:Nat) (m:Me):Prop:=k=3∧∃p∈aM2,p.name=m.name∧p.prim=m.prim∧m.args=1∧m.temps=0∧m.code=[]
theorem bJ8 (N:Nat) (k:Nat) (m:Me):∀(l:List Me) (j:Nat) (b:Bool),(∀p∈l,p∈aM2)→(b=true→cK0 k m)→∃b',U5 N k m l j b=some b'∧(b'=true→cK0 k m)
 |[],j,b,_,hb=>⟨b,rfl,hb⟩
 |p::l,j,b,hl,hb=>by
  rw [U5]
  have go:=bJ8 N k m l (j+1)
  have hl':∀p∈l,p∈aM2:=fun q hq=>hl q (by simp [hq])
  cases b with
  |true=>simp only [cond_true,Option.bind_some]; exact go true hl' (fun _=>hb rfl)
  |false =>
   have gf:=go false hl' (fun h=>by cases h)
   simp only [cond_false]
   by_cases h1:(k:Int)=3
   ·by_cases h2:p.name=m.name
    ·by_cases h3:p.prim=m.prim
     ·by_cases h4:m.args=1
      ·by_cases h5:m.temps=0
       ·by_cases h6:m.code=[]
        ·simp only [h1,h2,h3,h4,h5,h6,decide_true,cond_true,Option.bind_some]
         exact go _ hl' fun _=>⟨by omega,p,hl p (by simp),h2,h3,h4,h5,h6⟩
        ·have h6':¬(m.code.length:Int)=0:=fun e=>h6 (List.eq_nil_of_length_eq_zero (by omega))
         simp only [h1,h2,h3,h4,h5,h6',decide_true,decide_false,cond_true,Option.bind_some]; exact gf
       ·simp only [h1,h2,h3,h4,h5,decide_true,decide_false,cond_true,cond_false,Option.bind_some]; exact gf
      ·simp only [h1,h2,h3,h4,decide_true,decide_false,cond_true,cond_false,Option.bind_some]; exact gf
     ·simp only [h1,h2,h3,decide_true,decide_false,cond_true,cond_false,Option.bind_some]; exact gf
    ·simp only [h1,h2,decide_true,decide_false,cond_true,cond_false,Option.bind_some]; exact gf
   ·simp only [h1,decide_false,cond_false,Option.bind_some]; exact gf
def b06 (N:Nat) (w:Wd) (k:Nat) (m:Me):Prop:=cK0 k m∨∃f,T9 N w (k:Int) m=some f∧f.err=0
theorem bK5 (N:Nat) (w:Wd) (k:Nat) (c:Cl) (hN:4194304≤N) (hs:Y1 w) (hc:c∈w.classes):∀(l:List Me) (j:Nat),l=c.methods.drop j →
  Good (Q5 N w aT4 k c l j) (∀i m,j≤i→c.methods[i]?=some m→b06 N w k m∧∀p,0 < i→c.methods[i - 1]?=some p→Z6 p.name m.name=true)
 |[],j,h=>Good.next fun i m hj hm=>by
   have h1:=(List.getElem?_eq_some_iff.1 hm).1
   have h2:=List.drop_eq_nil_iff.1 h.symm
   omega
 |m::l,j,h=>by
  obtain ⟨hm,hl,hlt⟩:=H9 h
  have hlt:=of_decide_eq_true hlt
  have hml:=(hs.2.2.1 c hc).1
  rw [Q5]
  have h3:w9 aT4.classes 3=some ⟨⟨#[73,110,116]⟩,0,0,aM2⟩:=rfl
  have hcl:=(hs.2.2.1 c hc).2 m (List.mem_of_getElem? hm)
  obtain ⟨b,hb1,hb2⟩:=bJ8 N k m aM2 0 false (fun p hp=>hp) (fun h=>by cases h)
  obtain ⟨f,hf⟩:=bQ9 N w (k:Int) m hN hs.1 hcl
  have tail:(∀p,0 < j→c.methods[j - 1]?=some p→Z6 p.name m.name=true)→Good ((w9 aT4.classes (3:Int)).bind fun x100=>((U5 N k m x100.methods 0 false).bind fun v106=>((T9 N w (k:Int) m).bind fun r125=>(((bif (!v106) then some ((!decide (r125.err=(0:Int)))) else some (false)):Option Bool).bind fun v127=>(bif v127 then some (.ret r125.err) else Q5 N w aT4 k c l (j+1))))))
    (∀i m,j≤i→c.methods[i]?=some m→b06 N w k m∧∀p,0 < i→c.methods[i - 1]?=some p→Z6 p.name m.name=true):=by
   intro hp
   have rest:b06 N w k m→Good (Q5 N w aT4 k c l (j+1)) (∀i m,j≤i→c.methods[i]?=some m→b06 N w k m∧∀p,0 < i→c.methods[i - 1]?=some p→Z6 p.name m.name=true):=fun hk =>
    (bK5 N w k c hN hs hc l (j+1) hl).imp fun ih i d hj hd=>by
     rcases Nat.eq_or_lt_of_le hj with rfl|hj
     ·rw [hm] at hd; cases hd; exact ⟨hk,hp⟩
     ·exact ih i d hj hd
   rw [h3]
   simp only [Option.bind_some,hb1,hf]
   cases b with
   |true=>simp only [Bool.not_true,cond_false,Option.bind_some]; exact rest (Or.inl (hb2 rfl))
   |false =>
    simp only [Bool.not_false,cond_true,Option.bind_some]
    by_cases he:f.err=0
    ·simp only [he,decide_true,Bool.not_true,cond_false]; exact rest (Or.inr ⟨f,hf,he⟩)
    ·simp only [he,decide_false,Bool.not_false,cond_true]; exact Good.ret he
  by_cases h0:0 < j
  ·have h0':(0:Int) < (j:Int):=by omega
   have wk:wr ((j:Int) - 1)=((j - 1:Nat):Int):=by rw [I4 (by unfold F9; omega)]; omega
   obtain ⟨p,hp⟩:∃p,c.methods[j - 1]?=some p:=⟨_,List.getElem?_eq_getElem (by omega)⟩
   simp only [h0',decide_true,cond_true,wk,N7,hp,Option.bind_some]
   cases hq:Z6 p.name m.name with
   |true=>simp only [Bool.not_true,cond_false]; exact tail fun p' _ hp'=>by rw [hp] at hp'; cases hp'; exact hq
   |false=>simp only [Bool.not_false,cond_true]; exact Good.ret (by decide)
  ·have h0':¬(0:Int) < (j:Int):=by omega
   simp only [h0',decide_false,cond_false,Option.bind_some]
   exact tail fun p hp=>absurd hp h0
theorem c29 {ms:List Me} (h:∀i m p,0 < i→ms[i]?=some m→ms[i - 1]?=some p→Z6 p.name m.name=true):bM6 ms:=by
 have key:∀(d i:Nat) (a b:Me),ms[i]?=some a→ms[i+d+1]?=some b→Z6 a.name b.name=true:=by
  intro d
  induction d with
  |zero=>intro i a b ha hb; exact h (i+1) b a (by omega) hb (by simpa using ha)
  |succ d ih =>
   intro i a b ha hb
   have hlt:=(List.getElem?_eq_some_iff.1 hb).1
   obtain ⟨x,hx⟩:∃x,ms[i+d+1]?=some x:=⟨_,List.getElem?_eq_getElem (by omega)⟩
   exact lt_trans (ih i a x ha hx) (h (i+(d+1)+1) b x (by omega) hb (by rw [show i+(d+1)+1 - 1=i+d+1 by omega]; exact hx))
 refine List.pairwise_iff_getElem.2 fun i j hi hj hij=>?_
 refine key (j - i - 1) i _ _ (List.getElem?_eq_getElem hi) ?_
 rw [show i+(j - i - 1)+1=j by omega]
 exact List.getElem?_eq_getElem hj
theorem bK7 (N:Nat) (w:Wd) (hN:4194304≤N) (hs:Y1 w):∀(l:List Cl) (k:Nat),l=w.classes.drop k →
  Good (Y2 N w aT4 l k) (∀j c,k≤j→w.classes[j]?=some c→F8 w (j:Int)≤6∧c.methods.length≤8∧bM6 c.methods∧∀m∈c.methods,b06 N w j m)
 |[],k,h=>Good.next fun j c hj hc=>by
   have h1:=(List.getElem?_eq_some_iff.1 hc).1
   have h2:=List.drop_eq_nil_iff.1 h.symm
   omega
 |c::l,k,h=>by
  obtain ⟨hc,hl,hlt⟩:=H9 h
  rw [Y2,aM6 N w _ (by omega) hs.1]
  simp only [Option.bind_some]
  by_cases h1:6 < F8 w (k:Int)
  ·simp only [h1,decide_true,cond_true]; exact Good.ret (by decide)
  by_cases h2:(8:Int) < (c.methods.length:Int)
  ·simp only [h1,h2,decide_true,decide_false,cond_true,cond_false]; exact Good.ret (by decide)
  simp only [h1,h2,decide_false,cond_false]
  refine (bK5 N w k c hN hs (List.mem_of_getElem? hc) c.methods 0 rfl).bind fun hm=>?_
  refine (bK7 N w hN hs l (k+1) hl).imp fun ih j d hj hd=>?_
  rcases Nat.eq_or_lt_of_le hj with rfl|hj
  ·rw [hc] at hd; cases hd
   refine ⟨by omega,by omega,c29 fun i m p hi hmi hpi=>(hm i m (by omega) hmi).2 p hi hpi,fun m hmm=>?_⟩
   obtain ⟨i,hi⟩:=List.mem_iff_getElem?.1 hmm
   exact (hm i m (by omega) hi).1
  ·exact ih j d hj hd
theorem bJ7 (N:Nat) (w:Wd):∀(l:List V) (k:Nat),Good (U8 N w l k) (∀v∈l,V8 v (w.heap.length:Int)=0)
 |[],k=>Good.next fun v hv=>by cases hv
 |v::l,k=>by
  rw [U8,bW8]
  simp only [Option.bind_some]
  by_cases h:V8 v (w.heap.length:Int)=0
  ·simp only [h,decide_true,Bool.not_true,cond_false]
   exact (bJ7 N w l (k+1)).imp fun ih u hu=>by
    rcases List.mem_cons.1 hu with rfl|hu
    ·exact h
    ·exact ih u hu
  ·simp only [h,decide_false,Bool.not_false,cond_true]; exact Good.ret h
def cX2 (w:Wd) (o:Ob):Prop:=0≤o.cls∧(0 < o.cls→4≤o.cls)∧o.cls < w.classes.length∧(o.slots.length:Int)=F8 w o.cls∧∀v∈o.slots,V8 v (w.heap.length:Int)=0
theorem bK8 (N:Nat) (w:Wd) (hN:4194304≤N) (hs:Y1 w):∀(l:List Ob) (k:Nat),Good (U7 N w l k) (∀o∈l,cX2 w o)
 |[],k=>Good.next fun o ho=>by cases ho
 |o::l,k=>by
  rw [U7]
  have rest:(0≤o.cls∧(0 < o.cls→4≤o.cls)∧o.cls < w.classes.length∧(o.slots.length:Int)=F8 w o.cls)→Good ((U8 N w o.slots 0).bind fun o=>match o with|.ret r=>some (.ret r)|.next ()=>U7 N w l (k+1)) (∀x∈o::l,cX2 w x):=fun h =>
   (bJ7 N w o.slots 0).bind fun hv=>(bK8 N w hN hs l (k+1)).imp fun ih x hx=>by
    rcases List.mem_cons.1 hx with rfl|hx
    ·exact ⟨h.1,h.2.1,h.2.2.1,h.2.2.2,hv⟩
    ·exact ih x hx
  by_cases h1:o.cls < 0
  ·simp only [h1,decide_true,cond_true,Option.bind_some]; exact Good.ret (by decide)
  have hsl:=aM6 N w o.cls (by omega) hs.1
  by_cases h2:0 < o.cls
  ·by_cases h3:o.cls < 4
   ·simp only [h1,h2,h3,decide_true,decide_false,cond_true,cond_false,Option.bind_some]; exact Good.ret (by decide)
   ·by_cases h4:(w.classes.length:Int)≤o.cls
    ·simp only [h1,h2,h3,h4,decide_true,decide_false,cond_true,cond_false,Option.bind_some]; exact Good.ret (by decide)
    ·by_cases h5:(o.slots.length:Int)=F8 w o.cls
     ·simp only [h1,h2,h3,h4,hsl,h5,decide_true,decide_false,cond_true,cond_false,Option.bind_some,Bool.not_true]
      exact rest ⟨by omega,fun _=>by omega,by omega,h5⟩
     ·simp only [h1,h2,h3,h4,hsl,h5,decide_true,decide_false,cond_true,cond_false,Option.bind_some,Bool.not_false]; exact Good.ret (by decide)
  ·by_cases h4:(w.classes.length:Int)≤o.cls
   ·simp only [h1,h2,h4,decide_true,decide_false,cond_true,cond_false,Option.bind_some]; exact Good.ret (by decide)
   ·by_cases h5:(o.slots.length:Int)=F8 w o.cls
    ·simp only [h1,h2,h4,hsl,h5,decide_true,decide_false,cond_false,Option.bind_some,Bool.not_true]
     exact rest ⟨by omega,fun h=>absurd h h2,by omega,h5⟩
    ·simp only [h1,h2,h4,hsl,h5,decide_false,cond_true,cond_false,Option.bind_some,Bool.not_false]; exact Good.ret (by decide)
structure aG6 (N:Nat) (w:Wd):Prop where
 many:4≤w.classes.length∧w.classes.length≤12∧w.heap.length≤60
 epoch:0≤w.epoch∧w.epoch≤1073741824
 cls:∀(j:Nat) c,w.classes[j]?=some c→bW0 w j c
 meth:∀(j:Nat) c,w.classes[j]?=some c→F8 w (j:Int)≤6∧c.methods.length≤8∧bM6 c.methods∧∀m∈c.methods,b06 N w j m
 obj:∀o∈w.heap,cX2 w o
theorem Good.end_ {x:Option (D9 Int Unit)} {P:Prop} {y:Option Int} {Q:Prop} (h:Good x P) (hy:P→∃r,y=some r∧(r=0→Q)):∃r,(x.bind fun o=>match o with|.ret r=>some r|.next ()=>y)=some r∧(r=0→Q):=by
 obtain ⟨o,rfl,h1,h2⟩:=h
 cases o with
 |ret r=>exact ⟨r,rfl,fun e=>absurd e (h1 r rfl)⟩
 |next u=>exact hy (h2 rfl)
theorem cM3 (N:Nat) (w:Wd) (hN:4194304≤N) (hs:Y1 w):∃r,aN7 N w=some r∧(r=0→aG6 N w):=by
 unfold aN7 a15
 simp only [Option.bind_some]
 by_cases h1:(w.classes.length:Int) < 4
 ·exact ⟨5,by simp [h1],fun h=>by cases h⟩
 by_cases h2:(12:Int) < (w.classes.length:Int)
 ·exact ⟨5,by simp [h1,h2],fun h=>by cases h⟩
 by_cases h3:(60:Int) < (w.heap.length:Int)
 ·exact ⟨5,by simp [h1,h2,h3],fun h=>by cases h⟩
 by_cases h4:w.epoch < 0
 ·exact ⟨3,by simp [h1,h2,h3,h4],fun h=>by cases h⟩
 by_cases h5:1073741824 < w.epoch
 ·exact ⟨3,by simp [h1,h2,h3,h4,h5],fun h=>by cases h⟩
 simp only [h1,h2,h3,h4,h5,decide_false,cond_false,Option.bind_some]
 refine (bJ6 N w w.classes 0 rfl).end_ fun c1=>?_
 refine (bK7 N w hN hs w.classes 0 rfl).end_ fun c3=>?_
 refine (bK8 N w hN hs w.heap 0).end_ fun c6=>?_
 exact ⟨0,rfl,fun _=>⟨by omega,by omega,fun j c hc=>c1 j c (by omega) hc,fun j c hc=>c3 j c (by omega) hc,c6⟩⟩
theorem aG6.rise {N:Nat} {w:Wd} (h:aG6 N w):aO6 w:=fun c hc=>by
 obtain ⟨i,hi⟩:=List.mem_iff_getElem?.1 hc
 exact (h.meth i c hi).2.2.1
end Go.Proofs.Ytahmeibkdhbngaa
namespace Go.Proofs.Ytahmeibkdhbngaa
open Go.RowKit
set_option linter.unusedVariables false
theorem cW8 {w:Wd} (h:bZ1 w≤1048576):Y1 w:=by
 unfold bZ1 at h
 have h1:=bF5 (bk:=bH6) (fun a=>cS1 a) w.classes
 have h2:=bF5 (bk:=bH4) (fun a=>cY2 a) w.heap
 refine ⟨by omega,by omega,fun c hc=>?_,fun o ho=>?_⟩
 ·have h3:=b31 (bk:=bH6) hc
  have e3:bH6 c=bkS c.name+bkI c.super+bkI c.slots+(bkL bD7) c.methods+1:=rfl
  have h4:=bF5 (bk:=bD7) (fun a=>cY7 a) c.methods
  refine ⟨by omega,fun m hm=>?_⟩
  have h5:=b31 (bk:=bD7) hm
  have e5:bD7 m=bkS m.name+bkI m.args+bkI m.temps+bkI m.prim+(bkL bC4) m.code+1:=rfl
  have h6:=bF5 (bk:=bC4) (fun a=>cQ1 a) m.code
  omega
 ·have h3:=b31 (bk:=bH4) ho
  have e3:bH4 o=bkI o.cls+(bkL bkV) o.slots+1:=rfl
  have h4:=bF5 (bk:=bkV) (fun a=>cZ9 a) o.slots
  omega
end Go.Proofs.Ytahmeibkdhbngaa
namespace Go.Proofs.Ytahmeibkdhbngaa
open Go.RowKit
set_option linter.unusedVariables false
def aP2 (c:Int):List Ln→List Ln×Bool
 |[]=>([],false)
 |x::l=>if x.cls=c then (⟨x.cls,wr (x.found+1)⟩::l,true) else (x::(aP2 c l).1,(aP2 c l).2)
def bP9 (c:Int) (l:List Ln):List Ln:=if (aP2 c l).2=true then (aP2 c l).1 else (aP2 c l).1++[⟨c,1⟩]
def aK2 (s:St) (c:Int):List Tl→List Tl×Bool
 |[]=>([],false)
 |x::l=>if x.site=s then (⟨x.site,bP9 c x.classes⟩::l,true) else (x::(aK2 s c l).1,(aK2 s c l).2)
def bI5 (s:St) (c:Int) (l:List Tl):List Tl:=if (aK2 s c l).2=true then (aK2 s c l).1 else (aK2 s c l).1++[⟨s,[⟨c,1⟩]⟩]
theorem b56 (c:Int):∀l,(aP2 c l).1.length=l.length
 |[]=>rfl
 |x::l=>by
  unfold aP2
  split
  ·rfl
  ·simp [b56 c l]
theorem cO3 (c:Int) (l:List Ln):(bP9 c l).length≤l.length+1:=by
 unfold bP9
 have:=b56 c l
 split<;>simp<;>omega
theorem b67 (s:St) (c:Int):∀l,(aK2 s c l).1.length=l.length
 |[]=>rfl
 |x::l=>by
  unfold aK2
  split
  ·rfl
  ·simp [b67 s c l]
theorem cJ1 (c:Int) (l:List Ln):aR1 c l=bP9 c l:=by
 unfold aR1 bP9 ixd
 have key:∀l:List Ln,(match l.findIdx? (fun x=>decide (x.cls=c)) with|some k=>(aP2 c l).2=true∧l.modify k (fun x=>⟨x.cls,wr (x.found+1)⟩)=(aP2 c l).1|none=>(aP2 c l).2=false∧(aP2 c l).1=l):=by
  intro l
  induction l with
  |nil=>exact ⟨rfl,rfl⟩
  |cons x l ih =>
   rw [List.findIdx?_cons]
   by_cases hc:x.cls=c
   ·simp [hc,aP2]
   ·simp only [hc,decide_false,Bool.false_eq_true,if_false,aP2]
    cases hf:l.findIdx? (fun x=>decide (x.cls=c)) with
    |none=>rw [hf] at ih; exact ⟨ih.1,by rw [ih.2]⟩
    |some k=>rw [hf] at ih; exact ⟨ih.1,by simp only [List.modify_succ_cons]; rw [ih.2]⟩
 have:=key l
 cases hf:l.findIdx? (fun x=>decide (x.cls=c)) with
 |some k=>rw [hf] at this; simp only [this.1,if_true]; exact this.2
 |none =>
  rw [hf] at this
  have w1:wr ((0:Int)+1)=1:=by decide
  simp only [this.1,this.2,if_false,Bool.false_eq_true]
  have hm:∀(l:List Ln) (y:Ln) (f:Ln→Ln),(l++[y]).modify l.length f=l++[f y]:=by
   intro l y f
   induction l with
   |nil=>rfl
   |cons a l ih=>simp only [List.cons_append,List.length_cons,List.modify_succ_cons,ih]
  rw [hm,w1]
theorem c35 (s:St) (c:Int) (l:List Tl):cD9 s c l=bI5 s c l:=by
 unfold cD9 bI5 ixd
 have key:∀l:List Tl,(match l.findIdx? (fun x=>decide (x.site=s)) with|some k=>(aK2 s c l).2=true∧l.modify k (fun x=>⟨x.site,aR1 c x.classes⟩)=(aK2 s c l).1|none=>(aK2 s c l).2=false∧(aK2 s c l).1=l):=by
  intro l
  induction l with
  |nil=>exact ⟨rfl,rfl⟩
  |cons x l ih =>
   rw [List.findIdx?_cons]
   by_cases hc:x.site=s
   ·simp [hc,aK2,cJ1]
   ·simp only [hc,decide_false,Bool.false_eq_true,if_false,aK2]
    cases hf:l.findIdx? (fun x=>decide (x.site=s)) with
    |none=>rw [hf] at ih; exact ⟨ih.1,by rw [ih.2]⟩
    |some k=>rw [hf] at ih; exact ⟨ih.1,by simp only [List.modify_succ_cons]; rw [ih.2]⟩
 have:=key l
 cases hf:l.findIdx? (fun x=>decide (x.site=s)) with
 |some k=>rw [hf] at this; simp only [this.1,if_true]; exact this.2
 |none =>
  rw [hf] at this
  simp only [this.1,this.2,if_false,Bool.false_eq_true]
  have hm:∀(l:List Tl) (y:Tl) (f:Tl→Tl),(l++[y]).modify l.length f=l++[f y]:=by
   intro l y f
   induction l with
   |nil=>rfl
   |cons a l ih=>simp only [List.cons_append,List.length_cons,List.modify_succ_cons,ih]
  rw [hm,cJ1]
  rfl
theorem cC7 (N:Nat) (l:List Tl) (s:St) (c:Int) (hl:∀t∈l,t.classes.length≤1099511627776) (h:l.length≤1099511627776):aY4 N l s c=some (bI5 s c l):=by
 unfold aY4
 have e:(Nat.ble ((l.length+1)*56) 140737488355328 && l.all fun t=>Nat.ble ((t.classes.length+1)*16) 140737488355328)=true:=by
  rw [Bool.and_eq_true,List.all_eq_true]
  exact ⟨J5 (by omega),fun t ht=>J5 (by have:=hl t ht; omega)⟩
 rw [e,c35]
 rfl
theorem bM8 (N:Nat) {l:List Ln} (h:l.length≤1099511627776):M4 N l=some l:=by
 unfold M4
 rw [J5 (by omega)]
 rfl
theorem bB9 (N:Nat):∀(l:List Tl) (k:Nat) (acc:List Tl),(∀t∈l,t.classes.length≤1099511627776)→acc.length+l.length≤1099511627776→aB3 N l k acc=some (acc++l)
 |[],k,acc,_,_=>by simp [aB3]
 |x::l,k,acc,h,hl=>by
  rw [aB3,bM8 N (h x (by simp))]
  simp only [Option.bind_some]
  rw [J5 (by simp at hl ⊢; omega)]
  simp only [cond_true]
  rw [bB9 N l (k+1) _ (fun o ho=>h o (by simp [ho])) (by simp at hl ⊢; omega)]
  simp
theorem cD4 (N:Nat) {l:List Tl} (h:∀t∈l,t.classes.length≤1099511627776) (hl:l.length≤1099511627776):aX7 N l=some l:=by
 unfold aX7
 rw [bB9 N l 0 [] h (by simpa using hl)]
 rfl
end Go.Proofs.Ytahmeibkdhbngaa
namespace Go.Proofs.Ytahmeibkdhbngaa
open Go.RowKit
set_option linter.unusedVariables false
def aT1 (c:Int):List Ln→Int
 |[]=>-1
 |y::l=>if y.cls=c then y.found else aT1 c l
def Q9 (s:St) (e c:Int):List Ce→Int
 |[]=>-1
 |x::l=>if x.site=s then (if x.epoch=e then aT1 c x.lines else -1) else Q9 s e c l
theorem cP9 (N:Nat) (s:St):∀(l:List Ce) (k:Nat),y8 N (fun x=>Y9 N x s) l k=some (match l.findIdx? (fun t=>decide (t.site=s)) with|some i=>.ret ((k+i:Nat):Int)|none=>.next ())
 |[],k=>rfl
 |x::l,k=>by
  rw [y8,aR8,cP9 N s l (k+1)]
  unfold Y9
  rw [cH8]
  by_cases e:x.site=s
  ·simp [e]
  ·cases l.findIdx? (fun t=>decide (t.site=s))<;>simp [e]; omega
theorem b05 (N:Nat) (l:List Ce) (s:St):aH6 N l s=some (ixf (fun t=>decide (t.site=s)) l):=by
 unfold aH6 I6 ixf
 rw [cP9]
 cases l.findIdx? (fun t=>decide (t.site=s))<;>simp
theorem bC6 (N:Nat) (c:Int):∀(l:List Ln) (k:Nat),∃o,aE7 N c l k=some o∧(match o with|.ret r=>r|.next ()=>-1)=aT1 c l
 |[],k=>⟨.next (),rfl,rfl⟩
 |y::l,k=>by
  rw [aE7,aT1]
  by_cases h:y.cls=c
  ·exact ⟨.ret y.found,by simp [h],by simp [h]⟩
  ·obtain ⟨o,h1,h2⟩:=bC6 N c l (k+1)
   exact ⟨o,by simp [h,h1],by rw [if_neg h]; exact h2⟩
theorem b89 (s:St) (e c:Int):∀l:List Ce,Q9 s e c l=match l.findIdx? (fun t=>decide (t.site=s)) with
   |some i=>(match l[i]? with|some x=>(if x.epoch=e then aT1 c x.lines else -1)|none=>-1)|none=>-1
 |[]=>rfl
 |x::l=>by
  rw [Q9,aR8]
  by_cases h:x.site=s
  ·simp [h]
  ·simp only [h,decide_false,Bool.false_eq_true,if_false]
   rw [b89 s e c l]
   cases l.findIdx? (fun t=>decide (t.site=s))<;>simp
theorem cB6 (N:Nat) (l:List Ce) (s:St) (e c:Int):aY1 N l s e c=some (Q9 s e c l):=by
 unfold aY1
 rw [b05,b89]
 simp only [Option.bind_some]
 rcases bP1 (fun t:Ce=>decide (t.site=s)) l with ⟨k,x,e1,e2,e3,e4⟩|⟨e1,e2⟩
 ·rw [e1,e4]
  have h0:¬((k:Int) < 0):=by omega
  simp only [h0,decide_false,cond_false,N7,e2,Option.bind_some]
  by_cases he:x.epoch=e
  ·obtain ⟨o,h1,h2⟩:=bC6 N c x.lines 0
   simp only [he,decide_true,Bool.not_true,cond_false,h1,Option.bind_some,if_true,←h2]
   cases o<;>rfl
  ·simp [he]
 ·rw [e1,e2]
  simp
def b96 (l:List Ce):Prop:=l.length≤1099511627776∧∀x∈l,x.lines.length≤1099511627776
def aG4 (s:St) (e c f:Int):List Ce→List Ce
 |[]=>[aJ0 e c f ⟨s,e,false,[]⟩]
 |x::l=>if x.site=s then aJ0 e c f x::l else x::aG4 s e c f l
theorem cC3 (N:Nat) (l:List Ce) (s:St) (e c f:Int) (h:b96 l):aZ0 N l s e c f=some (aG4 s e c f l):=by
 unfold aZ0
 have hg:(Nat.ble ((l.length+1)*72) 140737488355328 && l.all fun t=>Nat.ble ((t.lines.length+1)*16) 140737488355328)=true:=by
  rw [Bool.and_eq_true,List.all_eq_true]
  exact ⟨J5 (by have:=h.1; omega),fun t ht=>J5 (by have:=h.2 t ht; omega)⟩
 rw [hg]
 simp only [cond_true]
 congr 1
 clear hg h
 unfold ixd
 induction l with
 |nil=>rfl
 |cons x l ih =>
  rw [aR8,aG4]
  by_cases hs:x.site=s
  ·simp [hs]
  ·simp only [hs,decide_false,Bool.false_eq_true,if_false]
   rw [←ih]
   cases l.findIdx? (fun t=>decide (t.site=s)) with
   |none=>simp
   |some i=>simp
theorem bL4 (N:Nat) {l:List Ln} (h:l.length≤1099511627776):M4 N l=some l:=by
 unfold M4
 rw [J5 (by omega)]
 rfl
theorem bD1 (N:Nat):∀(l:List Ce) (k:Nat) (acc:List Ce),(∀t∈l,t.lines.length≤1099511627776)→acc.length+l.length≤1099511627776→aB2 N l k acc=some (acc++l)
 |[],k,acc,_,_=>by simp [aB2]
 |x::l,k,acc,h,hl=>by
  rw [aB2,bL4 N (h x (by simp))]
  simp only [Option.bind_some]
  rw [J5 (by simp at hl ⊢; omega)]
  simp only [cond_true]
  rw [bD1 N l (k+1) _ (fun o ho=>h o (by simp [ho])) (by simp at hl ⊢; omega)]
  simp
theorem bM0 (N:Nat) {l:List Ce} (h:b96 l):aN8 N l=some l:=by
 unfold aN8
 rw [bD1 N l 0 [] h.2 (by simpa using h.1)]
 rfl
def aM9 (w:Wd) (s:St) (c:Int) (name:ByteArray) (l:List Ce):List Ce×Int×Int×Bool :=
 if 0≤Q9 s w.epoch c l∧Q9 s w.epoch c l < w.classes.length then (l,(F5 w name (Q9 s w.epoch c l)).1,(F5 w name (Q9 s w.epoch c l)).2,true)
 else if (F5 w name c).2 < 0 then (l,(F5 w name c).1,(F5 w name c).2,false)
 else (aG4 s w.epoch c (F5 w name c).1 l,(F5 w name c).1,(F5 w name c).2,false)
theorem b73 (N:Nat) (l:List Ce) (w:Wd) (s:St) (c:Int) (name:ByteArray) (hN:1048578≤N) (hw:aO6 w) (hs:Y1 w) (hl:b96 l):aU5 N l w s c name=some (aM9 w s c name l):=by
 unfold aU5 aM9
 rw [cB6]
 simp only [Option.bind_some,bK2 N w _ name hN hw hs,bM0 N hl,cC3 N l s _ _ _ hl]
 by_cases h0:0≤Q9 s w.epoch c l
 ·by_cases h1:Q9 s w.epoch c l < w.classes.length
  ·simp [h0,h1]
  ·by_cases h2:(F5 w name c).2 < 0<;>simp [h0,h1,h2]
 ·by_cases h2:(F5 w name c).2 < 0<;>simp [h0,h2]
theorem bR6 {w:Wd} {s:ByteArray}:∀{n:Nat} {c:Int} {p:Int×Int},aF8 w s n c=some p→∀m,aF8 w s (m+1) p.1=some p
 |0,c,p,h,m=>by cases h
 |n+1,c,p,h,m=>by
  rw [aF8] at h
  by_cases h0:0≤c
  ·rw [if_pos h0] at h
   cases hx:w.classes[c.toNat]? with
   |none=>rw [hx] at h; cases h
   |some x =>
    rw [hx] at h
    simp only at h
    cases hi:ixN s x.methods with
    |none=>rw [hi] at h; exact bR6 h m
    |some i =>
     rw [hi] at h
     cases h
     rw [aF8,if_pos h0,hx]
     simp only [hi]
  ·rw [if_neg h0] at h; cases h
theorem cH0 {w:Wd} {s:ByteArray} {c:Int} (h:0≤(F5 w s c).2):F5 w s (F5 w s c).1=F5 w s c:=by
 unfold F5 at h ⊢
 cases hf:aF8 w s (w.classes.length+1) c with
 |none=>rw [hf] at h; exact absurd h (by decide)
 |some p =>
  rw [Option.getD_some,bR6 hf (w.classes.length),Option.getD_some]
end Go.Proofs.Ytahmeibkdhbngaa
namespace Go.Proofs.Ytahmeibkdhbngaa
open Go.RowKit
set_option linter.unusedVariables false
end Go.Proofs.Ytahmeibkdhbngaa
