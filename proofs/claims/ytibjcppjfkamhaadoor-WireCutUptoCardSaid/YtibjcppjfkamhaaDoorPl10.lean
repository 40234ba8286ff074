import Derived.Test.YtibjcppjfkamhaaDoorMir
import Derived.Test.YtibjcppjfkamhaaDoorOk
/- Plain laws of the mirrors: the same, own copies. No program in sight. -/
namespace Go.Proofs.YtibjcppjfkamhaaDoor
open Go.RowKit
set_option linter.unusedVariables false
end Go.Proofs.YtibjcppjfkamhaaDoor
namespace Go.Proofs.YtibjcppjfkamhaaDoor
open Go.RowKit
set_option linter.unusedVariables false
theorem bO4 {a b:Nat} (h:a≤b):Nat.ble a b=true:=by rw [Nat.ble_eq]; exact h
theorem bS9 {α:Type} {l:List α} {i:Int} (h:¬(i < l.length)):l[i.toNat]?=none:=List.getElem?_eq_none (by omega)
theorem bB6 {α:Type} {l:List α} {i:Int} (h:0≤i):M7 l i=l[i.toNat]?:=by
 unfold M7; rw [decide_eq_true h]; rfl
theorem bV1 {α:Type} {l:List α} {i:Int} (h:0≤i) (h2:i < l.length):∃x,l[i.toNat]?=some x∧M7 l i=some x:=by
 have hl:i.toNat < l.length:=by omega
 exact ⟨l[i.toNat],List.getElem?_eq_getElem hl,by rw [bB6 h,List.getElem?_eq_getElem hl]⟩
def aU2 (v:V) (n:Int):Int :=
 if v.k=0∨v.k=1∨v.k=2 then (if v.n=0 then 0 else 2)
 else if v.k=3 then (if v.n < -1073741824∨1073741824 < v.n then 3 else 0)
 else if v.k=4 then (if v.n < 0∨n≤v.n then 6 else 0) else 1
theorem bH7 (N:Nat) (v:V) (n:Int):aF1 N v n=some (aU2 v n):=by
 unfold aF1 aU2
 by_cases h0:v.k=0
 ·by_cases h:v.n=0<;>simp [h0,h]
 by_cases h1:v.k=1
 ·by_cases h:v.n=0<;>simp [h1,h]
 by_cases h2:v.k=2
 ·by_cases h:v.n=0<;>simp [h2,h]
 by_cases h3:v.k=3
 ·by_cases h:v.n < -1073741824<;>by_cases h':1073741824 < v.n<;>simp [h3,h,h']
 by_cases h4:v.k=4
 ·by_cases h:v.n < 0<;>by_cases h':n≤v.n<;>simp [h4,h,h']
 simp [h0,h1,h2,h3,h4]
end Go.Proofs.YtibjcppjfkamhaaDoor
namespace Go.Proofs.YtibjcppjfkamhaaDoor
open Go.RowKit
set_option linter.unusedVariables false
theorem b69 : ∀a:List UInt8,Op.bytesLess a a=false
 |[]=>rfl
 |a::x=>by simp [Op.bytesLess,b69 x]
theorem bP6 : ∀a b c:List UInt8,Op.bytesLess a b=true→Op.bytesLess b c=true→Op.bytesLess a c=true
 |_,[],_,h,_=>by simp [Op.bytesLess] at h
 |_,_::_,[],_,h=>by simp [Op.bytesLess] at h
 |[],_::_,_::_,_,_=>rfl
 |a::x,b::y,c::z,h,h'=>by
  simp only [Op.bytesLess,Bool.or_eq_true,Bool.and_eq_true,decide_eq_true_eq,beq_iff_eq] at h h' ⊢
  rcases h with h|⟨rfl,h⟩
  ·rcases h' with h'|⟨rfl,_⟩
   ·exact Or.inl (UInt8.lt_trans h h')
   ·exact Or.inl h
  ·rcases h' with h'|⟨rfl,h'⟩
   ·exact Or.inl h'
   ·exact Or.inr ⟨rfl,bP6 x y z h h'⟩
theorem bK8 (b:ByteArray):b.toList=b.data.toList:=by
 have:∀(n i:Nat) (r:List UInt8),n=b.size - i→ByteArray.toList.loop b i r=r.reverse++b.data.toList.drop i:=by
  intro n
  induction n with
  |zero =>
   intro i r h
   unfold ByteArray.toList.loop
   rw [if_neg (by omega)]
   have:b.data.toList.length≤i:=by simpa using (show b.size≤i by omega)
   rw [List.drop_eq_nil_of_le this]; simp
  |succ n ih =>
   intro i r h
   have hi:i < b.size:=by omega
   have hi':i < b.data.toList.length:=by simpa using hi
   unfold ByteArray.toList.loop
   rw [if_pos hi,ih (i+1) _ (by omega),List.drop_eq_getElem_cons hi']
   have e:b.get! i=b.data.toList[i]:=by
    show b.data[i]! = _
    rw [getElem!_pos b.data i hi,Array.getElem_toList]
   simp [e]
 have:=this b.size 0 [] (by omega)
 simpa [ByteArray.toList] using this
theorem toList_inj {a b:ByteArray} (h:a.toList=b.toList):a=b:=by
 rw [bK8,bK8] at h
 cases a; cases b
 congr
 exact Array.toList_inj.1 h
theorem aT7 (a:ByteArray):U9 a a=false:=b69 _
theorem lt_trans {a b c:ByteArray} (h:U9 a b=true) (h':U9 b c=true):U9 a c=true:=bP6 _ _ _ h h'
def aU7 (ms:List Me):Prop:=ms.Pairwise fun a b=>U9 a.name b.name=true
def ixN (s:ByteArray):List Me→Option Nat
 |[]=>none
 |m::r=>if m.name=s then some 0 else (ixN s r).map (·+1)
theorem aJ8 {s:ByteArray}:∀{ms:List Me} {i:Nat},ixN s ms=some i→∃m,ms[i]?=some m∧m.name=s
 |m::r,i,h=>by
  unfold ixN at h
  by_cases e:m.name=s
  ·rw [if_pos e] at h; cases h; exact ⟨m,rfl,e⟩
  ·rw [if_neg e] at h
   cases hr:ixN s r with
   |none=>rw [hr] at h; cases h
   |some j=>rw [hr] at h; cases h; obtain ⟨m',h1,h2⟩:=aJ8 hr; exact ⟨m',h1,h2⟩
theorem bO3 {s:ByteArray}:∀{ms:List Me},ixN s ms=none→∀m∈ms,m.name≠s
 |[],_=>fun m hm=>by cases hm
 |m::r,h=>by
  unfold ixN at h
  by_cases e:m.name=s
  ·rw [if_pos e] at h; cases h
  ·rw [if_neg e] at h
   cases hr:ixN s r with
   |some j=>rw [hr] at h; cases h
   |none =>
    intro x hx
    rcases List.mem_cons.1 hx with rfl|hx
    ·exact e
    ·exact bO3 hr x hx
theorem aN4 {ms:List Me} (h:aU7 ms) {i j:Nat} {a b:Me} (hi:ms[i]?=some a) (hj:ms[j]?=some b) (hij:i < j):U9 a.name b.name=true:=by
 obtain ⟨hi1,rfl⟩:=List.getElem?_eq_some_iff.1 hi
 obtain ⟨hj1,rfl⟩:=List.getElem?_eq_some_iff.1 hj
 exact List.pairwise_iff_getElem.1 h i j hi1 hj1 hij
theorem cE5 {ms:List Me} (h:aU7 ms) {i:Nat} {m:Me} (hm:ms[i]?=some m):ixN m.name ms=some i:=by
 cases hx:ixN m.name ms with
 |none=>exact absurd rfl (bO3 hx m (List.mem_of_getElem? hm))
 |some j =>
  obtain ⟨m',h1,h2⟩:=aJ8 hx
  rcases Nat.lt_trichotomy i j with hij|hij|hij
  ·have:=aN4 h hm h1 hij; rw [h2,aT7] at this; cases this
  ·rw [hij]
  ·have:=aN4 h h1 hm hij; rw [h2,aT7] at this; cases this
theorem aT2 (N:Nat) (m:Me) (s:ByteArray):P5 N m s=some (if U9 m.name s=true then -1 else if m.name=s then 0 else 1):=by
 unfold P5 aA3 cmp_isNaN_string
 cases h:U9 m.name s
 ·by_cases e:m.name=s<;>simp [e]
 ·simp
theorem aV9 (N:Nat) (ms:List Me) (s:ByteArray) (hl:ms.length≤1048576) (hr:aU7 ms):∀(n:Nat) (a b:Nat),a≤b→b≤ms.length→b - a < n →
  (∀i m,i < a→ms[i]?=some m→U9 m.name s=true)→(∀i m,b≤i→ms[i]?=some m→U9 m.name s=false) →
  ∃v:Nat,p8 N ms s (fun x0_ x1_=>P5 N x0_ x1_) n (a:Int) (b:Int)=some (v:Int)∧v≤ms.length ∧
   (∀i m,i < v→ms[i]?=some m→U9 m.name s=true)∧(∀i m,v≤i→ms[i]?=some m→U9 m.name s=false)
 |0,a,b,_,_,h,_,_=>by omega
 |n+1,a,b,hab,hb,hn,ha,hbb=>by
  rw [p8]
  by_cases hlt:a < b
  ·have hlt':(a:Int) < (b:Int):=by omega
   have w1:wr ((a:Int)+(b:Int))=((a+b:Nat):Int):=by rw [Q9 (by unfold z8; omega)]; omega
   have w2:((a+b:Nat):Int) / 2=(((a+b) / 2:Nat):Int):=by omega
   have w3:decide (z8 ((((a+b) / 2:Nat):Int)))=true:=decide_eq_true (by unfold z8; omega)
   have w4:wr ((((a+b) / 2:Nat):Int)+1)=(((a+b) / 2+1:Nat):Int):=by rw [Q9 (by unfold z8; omega)]; omega
   have hmid:(a+b) / 2 < ms.length:=by omega
   obtain ⟨x,hx⟩:∃x,ms[(a+b) / 2]?=some x:=⟨_,List.getElem?_eq_getElem hmid⟩
   have w5:(0:Int)≤((a+b:Nat):Int):=by omega
   have ho:=aT2 N x s
   simp only [w1,w2,w3,w4,w5,hlt',aA4,hx,ho,decide_true,cond_true,Option.bind_some]
   cases hc:U9 x.name s with
   |true =>
    simp only [if_true,show ((-1:Int) < 0)=True by simp,decide_true,cond_true,Option.bind_some]
    refine aV9 N ms s hl hr n _ b (by omega) hb (by omega) (fun i m hi hm=>?_) hbb
    rcases Nat.lt_or_ge i ((a+b) / 2) with h|h
    ·exact lt_trans (aN4 hr hm hx h) hc
    ·have e:i=(a+b) / 2:=by omega
     subst e; rw [hx] at hm; cases hm; exact hc
   |false =>
    have hd:∀i m,(a+b) / 2≤i→ms[i]?=some m→U9 m.name s=false:=by
     intro i m hi hm
     rcases Nat.lt_or_ge ((a+b) / 2) i with h|h
     ·cases hq:U9 m.name s with
      |false=>rfl
      |true=>have:=lt_trans (aN4 hr hx hm h) hq; rw [hc] at this; cases this
     ·have e:i=(a+b) / 2:=by omega
      subst e; rw [hx] at hm; cases hm; exact hc
    have hz:decide ((if false=true then (-1:Int) else if x.name=s then 0 else 1) < 0)=false:=by
     by_cases e:x.name=s<;>simp [e]
    rw [hz]
    simp only [cond_false,Option.bind_some]
    exact aV9 N ms s hl hr n a _ (by omega) (by omega) (by omega) ha hd
  ·have hlt':¬(a:Int) < (b:Int):=by omega
   simp only [hlt',decide_false,cond_false]
   have e:a=b:=by omega
   subst e
   exact ⟨a,rfl,hb,ha,hbb⟩
theorem b07 (N:Nat) (ms:List Me) (s:ByteArray) (hN:1048577≤N) (hl:ms.length≤1048576) (hr:aU7 ms) :
  ∃v:Nat,u6 N ms s (fun x0_ x1_=>P5 N x0_ x1_)=some ((v:Int),(ixN s ms).isSome)∧(∀i:Nat,ixN s ms=some i→(v:Int)=i)∧v≤ms.length ∧
   (∀i m,i < v→ms[i]?=some m→U9 m.name s=true)∧(∀i m,v≤i→ms[i]?=some m→U9 m.name s=false):=by
 obtain ⟨v,hv,hle,h1,h2⟩:=aV9 N ms s hl hr N 0 ms.length (by omega) (by omega) (by omega) (fun i m h=>absurd h (by omega)) (fun i m h hm=>by
  have:=(List.getElem?_eq_some_iff.1 hm).1; omega)
 refine ⟨v,?_,?_,hle,h1,h2⟩
 ·unfold u6
  have hv':p8 N ms s (fun x0_ x1_=>P5 N x0_ x1_) N (0:Int) (ms.length:Int)=some (v:Int):=hv
  rw [hv']
  simp only [Option.bind_some]
  by_cases hlt:v < ms.length
  ·have hlt':(v:Int) < (ms.length:Int):=by omega
   obtain ⟨x,hx⟩:∃x,ms[v]?=some x:=⟨_,List.getElem?_eq_getElem hlt⟩
   have hf:=h2 v x (Nat.le_refl _) hx
   simp only [hlt',decide_true,cond_true,aA4,hx,Option.bind_some,aT2,hf]
   by_cases e:x.name=s
   ·have:=cE5 hr hx
    rw [e] at this
    simp [e,this]
   ·cases hi:ixN s ms with
    |none=>simp [e]
    |some i =>
     obtain ⟨m',hm1,hm2⟩:=aJ8 hi
     rcases Nat.lt_trichotomy i v with h|h|h
     ·have:=h1 i m' h hm1; rw [hm2,aT7] at this; cases this
     ·subst h; rw [hx] at hm1; cases hm1; exact absurd hm2 e
     ·have:=aN4 hr hx hm1 h
      rw [hm2] at this; rw [hf] at this; cases this
  ·have hlt':¬(v:Int) < (ms.length:Int):=by omega
   simp only [hlt',decide_false,cond_false,Option.bind_some]
   cases hi:ixN s ms with
   |none=>rfl
   |some i =>
    obtain ⟨m',hm1,hm2⟩:=aJ8 hi
    have:=(List.getElem?_eq_some_iff.1 hm1).1
    have:=h1 i m' (by omega) hm1
    rw [hm2,aT7] at this; cases this
 ·intro i hi
  obtain ⟨m',hm1,hm2⟩:=aJ8 hi
  have hlen:=(List.getElem?_eq_some_iff.1 hm1).1
  rcases Nat.lt_trichotomy i v with h|h|h
  ·have:=h1 i m' h hm1; rw [hm2,aT7] at this; cases this
  ·rw [h]
  ·obtain ⟨x,hx⟩:∃x,ms[v]?=some x:=⟨ms[v]'(by omega),List.getElem?_eq_getElem (by omega)⟩
   have:=aN4 hr hx hm1 h
   rw [hm2] at this
   rw [h2 v x (Nat.le_refl _) hx] at this; cases this
theorem bsearch_eq (N:Nat) (ms:List Me) (s:ByteArray) (hN:1048577≤N) (hl:ms.length≤1048576) (hr:aU7 ms) :
  ∃v:Int,u6 N ms s (fun x0_ x1_=>P5 N x0_ x1_)=some (v,(ixN s ms).isSome)∧∀i:Nat,ixN s ms=some i→v=i:=by
 obtain ⟨v,h1,h2,_⟩:=b07 N ms s hN hl hr
 exact ⟨_,h1,h2⟩
def aA6 (w:Wd) (s:ByteArray):Nat→Int→Option (Int×Int)
 |0,_=>none
 |n+1,c=>if 0≤c then (match w.classes[c.toNat]? with
  |some x=>(match ixN s x.methods with|some i=>some (c,(i:Int))|none=>aA6 w s n x.super)
  |none=>none) else none
def bN0 (w:Wd) (s:ByteArray) (c:Int):Int×Int:=(aA6 w s (w.classes.length+1) c).getD (-1,-1)
def bY9 (w:Wd):Prop:=∀x∈w.classes,aU7 x.methods
def aO4 (w:Wd):Prop:=w.classes.length≤1048576∧w.heap.length≤1048576∧(∀x∈w.classes,x.methods.length≤1048576∧∀m∈x.methods,m.code.length≤1048576)∧∀o∈w.heap,o.slots.length≤1048576
def cI3 {σ:Type} (o:Option (Int×Int)) (s:σ):J2 (Int×Int) σ:=match o with|some p=>.ret p|none=>.next s
theorem aO9 (N:Nat) (w:Wd) (s:ByteArray) (hN:1048577≤N) (hw:bY9 w) (hs:aO4 w):∀(n:Nat) (k:Nat) (c:Int),k≤w.classes.length+1→w.classes.length+1 - k < n →
  Q7 N w s n c (k:Int)=some (cI3 (aA6 w s (w.classes.length+1 - k) c) ())
 |0,k,c,_,h=>by omega
 |n+1,k,c,hk,hn=>by
  rw [Q7]
  by_cases h0:0≤c
  ·by_cases h1:c < w.classes.length
   ·obtain ⟨x,hx,hnth⟩:=bV1 h0 h1
    by_cases h2:k≤w.classes.length
    ·have h2':(k:Int)≤(w.classes.length:Int):=by omega
     have hxm:=List.mem_of_getElem? hx
     obtain ⟨v,hv,hvi⟩:=bsearch_eq N x.methods s hN (hs.2.2.1 x hxm).1 (hw x hxm)
     have e:w.classes.length+1 - k=(w.classes.length+1 - (k+1))+1:=by omega
     have wk:wr ((k:Int)+1)=((k+1:Nat):Int):=by rw [Q9 (by have:=hs.1; unfold z8; omega)]; omega
     rw [e,aA6]
     simp only [h0,h1,h2',decide_true,cond_true,Option.bind_some,hnth,hv,hx,if_true,wk]
     cases hi:ixN s x.methods with
     |some i=>have:=hvi i hi; subst this; rfl
     |none =>
      simp only [Option.isSome_none,cond_false]
      exact aO9 N w s hN hw hs n (k+1) x.super (by omega) (by omega)
    ·have h2':¬(k:Int)≤(w.classes.length:Int):=by omega
     have e:w.classes.length+1 - k=0:=by omega
     simp only [h0,h1,h2',decide_true,decide_false,cond_true,cond_false,Option.bind_some,e]
     rfl
   ·have:aA6 w s (w.classes.length+1 - k) c=none:=by
     cases w.classes.length+1 - k with
     |zero=>rfl
     |succ n=>rw [aA6,if_pos h0,bS9 h1]
    simp only [h0,h1,decide_true,decide_false,cond_true,cond_false,Option.bind_some,this]
    rfl
  ·have:aA6 w s (w.classes.length+1 - k) c=none:=by
    cases w.classes.length+1 - k with
    |zero=>rfl
    |succ n=>rw [aA6,if_neg h0]
   simp only [h0,decide_false,cond_false,Option.bind_some,this]
   rfl
theorem bL4 (N:Nat) (w:Wd) (c:Int) (s:ByteArray) (hN:1048578≤N) (hw:bY9 w) (hs:aO4 w):aH2 N w c s=some (bN0 w s c):=by
 unfold aH2 bN0
 have h:=aO9 N w s (by omega) hw hs N 0 c (by omega) (by have:=hs.1; omega)
 have h':Q7 N w s N c (0:Int)=some (cI3 (aA6 w s (w.classes.length+1) c) ()):=h
 rw [h']
 cases aA6 w s (w.classes.length+1) c<;>rfl
def bF8 (w:Wd):Nat→Int→List Int
 |0,_=>[]
 |n+1,c=>if 0≤c then (match w.classes[c.toNat]? with|some x=>c::bF8 w n x.super|none=>[]) else []
def aB0 (w:Wd) (c:Int):Int:=(bF8 w (w.classes.length+1) c).foldl (fun n k=>match w.classes[k.toNat]? with|some x=>wr (n+x.slots)|none=>n) 0
end Go.Proofs.YtibjcppjfkamhaaDoor
namespace Go.Proofs.YtibjcppjfkamhaaDoor
open Go.RowKit
set_option linter.unusedVariables false
end Go.Proofs.YtibjcppjfkamhaaDoor
namespace Go.Proofs.YtibjcppjfkamhaaDoor
open Go.RowKit
set_option linter.unusedVariables false
def nmB (u:UInt8):Bool:=!decide ((u.toNat:Int) < 33) && !decide (126 < (u.toNat:Int))
def Z5 (s:ByteArray):Bool:=s.data.toList.all nmB && (decide (0 < s.size) && decide (s.size≤12))
theorem cG3 (s:ByteArray) (k:Nat):byO s (k:Int)=s.data.toList[k]?:=by
 unfold byO
 rw [decide_eq_true (Int.natCast_nonneg k)]
 show s[k]?=_
 by_cases h:k < s.size
 ·rw [getElem?_pos s k h,List.getElem?_eq_getElem (by simpa using h)]
  rfl
 ·rw [getElem?_neg s k h,List.getElem?_eq_none (by simpa using h)]
def bM4 (m:Me):Prop:=∀i∈m.code,i.op=14→0≤i.a∧i.a≤4
def nxN (i:Ins) (p:Int):Int×Int×List Int :=
 if i.op=9∨i.op=11∨i.op=12 then (1,-1,[wr (p+1)]) else if i.op=10 then (1,1,[wr (p+1)])
 else if i.op=14 then (wr (i.a+1),-i.a,[wr (p+1)]) else if i.op=15 then (0,0,[i.a])
 else if i.op=16 then (1,-1,[wr (p+1),i.a]) else if i.op=17 then (1,-1,[]) else (0,1,[wr (p+1)])
theorem bW2 (i:Ins) (p:Int):(nxN i p).2.2.length≤2:=by
 unfold nxN
 (repeat' split)<;>simp
theorem bK9 {i:Ins} {p:Int} {x:Int} (h0:0≤x) (h12:x≤12) (hn:¬x < (nxN i p).1) (hm:¬12 < wr (x+(nxN i p).2.1)) (hi:i.op=14→0≤i.a∧i.a≤4) :
  0≤wr (x+(nxN i p).2.1)∧wr (x+(nxN i p).2.1)≤12∧wr (x+(nxN i p).2.1)=x+(nxN i p).2.1:=by
 unfold nxN at hn hm ⊢
 split at hn
 ·rename_i h1
  simp only [h1,if_true] at hm ⊢
  rw [Q9 (by unfold z8; omega)]; omega
 ·rename_i h1
  simp only [h1,if_false] at hm ⊢
  split at hn
  ·rename_i h2
   simp only [h2,if_true] at hm ⊢
   rw [Q9 (by unfold z8; omega)] at hm ⊢; omega
  ·rename_i h2
   simp only [h2,if_false] at hm ⊢
   split at hn
   ·rename_i h3
    have hi:=hi h3
    simp only [h3,if_true] at hm ⊢
    simp only at hn
    rw [Q9 (by unfold z8; omega)] at hn hm ⊢; omega
   ·rename_i h3
    simp only [h3,if_false] at hm ⊢
    split at hn
    ·rename_i h4
     simp only [h4,if_true] at hm ⊢
     rw [Q9 (by unfold z8; omega)] at hm ⊢; omega
    ·rename_i h4
     simp only [h4,if_false] at hm ⊢
     split at hn
     ·rename_i h5
      simp only [h5,if_true] at hm ⊢
      rw [Q9 (by unfold z8; omega)] at hm ⊢; omega
     ·rename_i h5
      simp only [h5,if_false] at hm ⊢
      split at hn
      ·rename_i h6
       simp only [h6,if_true] at hm ⊢
       rw [Q9 (by unfold z8; omega)] at hm ⊢; omega
      ·rename_i h6
       simp only [h6,if_false] at hm ⊢
       rw [Q9 (by unfold z8; omega)] at hm ⊢; omega
def aQ5 (h:List Int):Nat:=h.countP fun x=>decide (x < 0)
theorem bI9 {h:List Int} {i:Nat} {x y:Int} (hi:h[i]?=some x) (hx:x < 0) (hy:0≤y):aQ5 (h.set i y)+1=aQ5 h:=by
 induction h generalizing i with
 |nil=>simp at hi
 |cons a h ih =>
  cases i with
  |zero =>
   simp only [List.getElem?_cons_zero,Option.some.injEq] at hi
   subst hi
   have:¬y < 0:=by omega
   simp [aQ5,hx,this]
  |succ i =>
   have:=ih (i:=i) (by simpa using hi)
   simp only [aQ5,List.set_cons_succ,List.countP_cons] at this ⊢
   omega
def hgt (m:Me):Nat→List Int→List (Int×Int)→Option (J2 (List Int×J6) (List Int))
 |0,_,_=>none
 |_+1,h,[]=>some (.next h)
 |n+1,h,(p,x)::r =>
  if (m.code.length:Int)≤p∨p < 0 then some (.ret ([],⟨9,m.code.length⟩)) else
  match h[p.toNat]?,m.code[p.toNat]? with
  |some y,some i =>
   if 0≤y then (if y=x then hgt m n h r else some (.ret ([],⟨8,p⟩)))
   else if x < (nxN i p).1∨(i.op=17∧x≠1) then some (.ret ([],⟨8,p⟩))
   else if 12 < wr (x+(nxN i p).2.1) then some (.ret ([],⟨4,p⟩))
   else hgt m n (h.set p.toNat x) (r++(nxN i p).2.2.map fun q=>(q,wr (x+(nxN i p).2.1)))
  |_,_=>none
def hOk (l:List (Int×Int)):Prop:=∀q∈l,0≤q.2∧q.2≤12
theorem bA5 (m:Me) (hm:bM4 m):∀(n:Nat) (h:List Int) (l:List (Int×Int)),h.length=m.code.length→hOk l→l.length+3*aQ5 h < n→∃r,hgt m n h l=some r
 |0,h,l,_,_,hn=>by omega
 |n+1,h,[],_,_,_=>⟨_,rfl⟩
 |n+1,h,(p,x)::r,hh,hl,hn=>by
  rw [hgt]
  simp only [List.length_cons] at hn
  have hx:=hl (p,x) (by simp)
  have hr:hOk r:=fun q hq=>hl q (by simp [hq])
  by_cases h1:(m.code.length:Int)≤p∨p < 0
  ·rw [if_pos h1]; exact ⟨_,rfl⟩
  rw [if_neg h1]
  have hp:p.toNat < m.code.length:=by omega
  have e1:h[p.toNat]?=some (h[p.toNat]'(by omega)):=List.getElem?_eq_getElem (by omega)
  have e2:m.code[p.toNat]?=some m.code[p.toNat]:=List.getElem?_eq_getElem hp
  generalize h[p.toNat]'(by omega)=y at e1
  have hi:=hm _ (List.getElem_mem hp)
  generalize m.code[p.toNat]=i at e2 hi
  rw [e1,e2]
  simp only
  by_cases h2:0≤y
  ·rw [if_pos h2]
   by_cases h3:y=x
   ·rw [if_pos h3]; exact bA5 m hm n h r hh hr (by omega)
   ·rw [if_neg h3]; exact ⟨_,rfl⟩
  rw [if_neg h2]
  by_cases h3:x < (nxN i p).1∨(i.op=17∧x≠1)
  ·rw [if_pos h3]; exact ⟨_,rfl⟩
  rw [if_neg h3]
  by_cases h4:12 < wr (x+(nxN i p).2.1)
  ·rw [if_pos h4]; exact ⟨_,rfl⟩
  rw [if_neg h4]
  have hb:=bK9 hx.1 hx.2 (fun h=>h3 (Or.inl h)) h4 hi
  have hu:=bI9 (y:=x) e1 (by omega) hx.1
  have hl2:=bW2 i p
  refine bA5 m hm n _ _ (by simpa using hh) (fun q hq=>?_) (by simp; omega)
  rcases List.mem_append.1 hq with hq|hq
  ·exact hr q hq
  ·obtain ⟨z,_,rfl⟩:=List.mem_map.1 hq
   exact ⟨hb.1,hb.2.1⟩
def bW6 (o:J2 (List Int×J6) (List Int)):List Int×J6:=match o with|.ret r=>r|.next h=>(h,⟨0,0⟩)
theorem bL0 (n:Nat):aQ5 (List.replicate n (-1))=n:=by
 induction n with
 |zero=>rfl
 |succ n ih=>simp only [aQ5,List.replicate_succ,List.countP_cons] at ih ⊢; rw [ih]; rfl
end Go.Proofs.YtibjcppjfkamhaaDoor
namespace Go.Proofs.YtibjcppjfkamhaaDoor
open Go.RowKit
set_option linter.unusedVariables false
def Good (x:Option (J2 Int Unit)) (P:Prop):Prop:=∃o,x=some o∧(∀r,o=.ret r→r≠0)∧(o=.next ()→P)
theorem Good.ret {r:Int} {P:Prop} (h:r≠0):Good (some (.ret r)) P:=⟨.ret r,rfl,(fun r e=>by cases e; exact h),fun e=>by cases e⟩
theorem Good.next {P:Prop} (h:P):Good (some (.next ())) P:=⟨.next (),rfl,(fun r e=>by cases e),fun _=>h⟩
theorem Good.bind {x:Option (J2 Int Unit)} {P Q:Prop} {y:Option (J2 Int Unit)} (h:Good x P) (hy:P→Good y Q):Good (x.bind fun o=>match o with|.ret r=>some (.ret r)|.next ()=>y) Q:=by
 obtain ⟨o,rfl,h1,h2⟩:=h
 cases o with
 |ret r=>exact Good.ret (h1 r rfl)
 |next u=>exact hy (h2 rfl)
theorem Good.imp {x:Option (J2 Int Unit)} {P Q:Prop} (h:Good x P) (hq:P→Q):Good x Q:=by
 obtain ⟨o,h0,h1,h2⟩:=h
 exact ⟨o,h0,h1,fun e=>hq (h2 e)⟩
end Go.Proofs.YtibjcppjfkamhaaDoor
namespace Go.Proofs.YtibjcppjfkamhaaDoor
open Go.RowKit
set_option linter.unusedVariables false
theorem b71 {w:Wd} (h:aV2 w≤1048576):aO4 w:=by
 unfold aV2 at h
 have h1:=aU3 (bk:=aL2) (fun a=>cB8 a) w.classes
 have h2:=aU3 (bk:=aL4) (fun a=>b90 a) w.heap
 refine ⟨by omega,by omega,fun c hc=>?_,fun o ho=>?_⟩
 ·have h3:=bG0 (bk:=aL2) hc
  have e3:aL2 c=bkS c.name+bkI c.super+bkI c.slots+(bkL aJ2) c.methods+1:=rfl
  have h4:=aU3 (bk:=aJ2) (fun a=>b82 a) c.methods
  refine ⟨by omega,fun m hm=>?_⟩
  have h5:=bG0 (bk:=aJ2) hm
  have e5:aJ2 m=bkS m.name+bkI m.args+bkI m.temps+bkI m.prim+(bkL aH3) m.code+1:=rfl
  have h6:=aU3 (bk:=aH3) (fun a=>b51 a) m.code
  omega
 ·have h3:=bG0 (bk:=aL4) ho
  have e3:aL4 o=bkI o.cls+(bkL bkV) o.slots+1:=rfl
  have h4:=aU3 (bk:=bkV) (fun a=>cG4 a) o.slots
  omega
end Go.Proofs.YtibjcppjfkamhaaDoor
namespace Go.Proofs.YtibjcppjfkamhaaDoor
open Go.RowKit
set_option linter.unusedVariables false
end Go.Proofs.YtibjcppjfkamhaaDoor
namespace Go.Proofs.YtibjcppjfkamhaaDoor
open Go.RowKit
set_option linter.unusedVariables false
end Go.Proofs.YtibjcppjfkamhaaDoor
namespace Go.Proofs.YtibjcppjfkamhaaDoor
open Go.RowKit
set_option linter.unusedVariables false
end Go.Proofs.YtibjcppjfkamhaaDoor
