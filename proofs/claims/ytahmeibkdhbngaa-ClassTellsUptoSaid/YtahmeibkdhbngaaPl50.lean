import Derived.Test.YtahmeibkdhbngaaPl15
/- Classes: Make and Install, plainly. No program in sight. -/
namespace Go.Proofs.Ytahmeibkdhbngaa
open Go.RowKit
set_option linter.unusedVariables false
def aC6 (s:ByteArray) (l:List Cl):Bool:=l.any fun x=>decide (x.name=s)
def noW : Wd:=⟨[],[],0⟩
def bG7 (w:Wd) (s:ByteArray) (c n:Int):Wd×Int×Int :=
 if aR7 s=false∨aC6 s w.classes=true then (noW,0,7)
 else if c < 0∨(w.classes.length:Int)≤c then (noW,0,6)
 else if n < 0∨6 - P6 w c < n∨(c≠0∧c < 4) then (noW,0,3)
 else if 12≤w.classes.length then (noW,0,5)
 else (⟨w.classes++[⟨s,c,n,[]⟩],w.heap,w.epoch⟩,(w.classes.length:Int),0)
theorem bT3 (N:Nat) (s:ByteArray):∀(l:List Cl) (k:Nat),∃o,q9 N (fun x0_=>Q9 N x0_ s) l k=some o∧(match o with|.ret r=>0≤r∧aC6 s l=true|.next ()=>aC6 s l=false)
 |[],k=>⟨_,rfl,rfl⟩
 |x::l,k=>by
  rw [q9,Q9]
  simp only [Option.bind_some]
  by_cases h:x.name=s
  ·exact ⟨.ret (k:Int),by simp [h],by simp [aC6,h]⟩
  ·obtain ⟨o,ho,h1⟩:=bT3 N s l (k+1)
   refine ⟨o,by simp [h,ho],?_⟩
   cases o with
   |ret r=>exact ⟨h1.1,by have:=h1.2; unfold aC6 at this ⊢; simp [this]⟩
   |next u=>show aC6 s (x::l)=false; have h2:aC6 s l=false:=h1; unfold aC6 at h2 ⊢; simp only [List.any_cons,h2,h,decide_false,Bool.or_false]
theorem has_eq (N:Nat) (s:ByteArray) (l:List Cl):y9 N l (fun x0_=>Q9 N x0_ s)=some (aC6 s l):=by
 unfold y9 F7
 obtain ⟨o,ho,h1⟩:=bT3 N s l 0
 rw [ho]
 cases o with
 |ret r=>obtain ⟨h2,h3⟩:=h1; simp [h2,h3]
 |next u=>have h2:aC6 s l=false:=h1; simp [h2]
theorem bG5 (N:Nat) (w:Wd) (s:ByteArray) (c n:Int) (hN:1048578≤N) (hs:aB9 w) (hw:∀x∈w.classes,0≤x.slots∧x.slots≤6):aE3 N w s c n=some (bG7 w s c n):=by
 unfold aE3 bG7
 have hS:=bF5 hw hs.1 c
 rw [aU6,has_eq,aP9 N w c hN hs.1,bC5 N w hs]
 have w1:wr (6 - P6 w c)=6 - P6 w c:=aO4 (by unfold M9; omega)
 simp only [Option.bind_some,w1]
 cases h1:aR7 s with
 |false=>simp [noW]
 |true =>
 cases h2:aC6 s w.classes with
 |true=>simp [noW]
 |false =>
 simp only [Bool.not_true,cond_false,Option.bind_some]
 by_cases h3:c < 0
 ·simp [h3,noW]
 by_cases h4:(w.classes.length:Int)≤c
 ·simp [h3,h4,noW]
 simp only [h3,h4,decide_false,cond_false,Option.bind_some]
 by_cases h5:n < 0
 ·simp [h5,noW]
 by_cases h6:6 - P6 w c < n
 ·simp [h5,h6,noW]
 simp only [h5,h6,decide_false,cond_false,Option.bind_some]
 by_cases h7:c=0
 ·subst h7
  by_cases h9:(12:Int)≤(w.classes.length:Int)
  ·have h9':12≤w.classes.length:=by omega
   simp [h9,h9',noW]
  ·have h9':¬12≤w.classes.length:=by omega
   have:=hs.1
   simp only [h9,h9',decide_true,decide_false,cond_false,Option.bind_some,Bool.not_true]
   rw [E8 (by simp; omega)]
   simp
 ·by_cases h8:c < 4
  ·simp [h7,h8,noW]
  ·by_cases h9:(12:Int)≤(w.classes.length:Int)
   ·have h9':12≤w.classes.length:=by omega
    simp [h7,h8,h9,h9',noW]
   ·have h9':¬12≤w.classes.length:=by omega
    have:=hs.1
    simp only [h7,h8,h9,h9',decide_false,cond_false,cond_true,Option.bind_some,Bool.not_false]
    rw [E8 (by simp; omega)]
    simp
theorem aJ0 (N:Nat) (s:ByteArray):∀(l:List Cl) (k:Nat),K9 N s l k=some (if aC6 s l=true then .ret (noW,0,7) else .next ())
 |[],k=>by simp [K9,aC6]
 |x::l,k=>by
  rw [K9,aJ0 N s l (k+1)]
  by_cases h:x.name=s
  ·simp [h,aC6,noW]
  ·simp [h,aC6]
theorem bB7 (N:Nat) (w:Wd) (s:ByteArray) (c n:Int) (hN:1048578≤N) (hs:aB9 w) (hw:∀x∈w.classes,0≤x.slots∧x.slots≤6):aD1 N w s c n=some (bG7 w s c n):=by
 unfold aD1 bG7
 have hS:=bF5 hw hs.1 c
 rw [aR2,aJ0,aN4 N w c hN hs.1]
 simp only [Option.bind_some]
 cases h1:aR7 s with
 |false=>simp [noW]
 |true =>
 cases h2:aC6 s w.classes with
 |true=>simp [noW]
 |false =>
 simp only [Bool.not_true,cond_false,Option.bind_some,if_neg (show ¬false=true by decide)]
 by_cases h3:c < 0
 ·simp [h3,noW]
 by_cases h4:(w.classes.length:Int)≤c
 ·simp [h3,h4,noW]
 simp only [h3,h4,decide_false,cond_false,Option.bind_some]
 by_cases h5:n < 0
 ·simp [h5,noW]
 by_cases h5':6 < n
 ·have h6:6 - P6 w c < n:=by omega
  simp [h5,h5',h6,noW]
 have w1:wr (n+P6 w c)=n+P6 w c:=aO4 (by unfold M9; omega)
 simp only [h5,h5',w1,decide_false,cond_false,Option.bind_some]
 by_cases h6:6 - P6 w c < n
 ·have h6':6 < n+P6 w c:=by omega
  simp [h6,h6',noW]
 have h6':¬6 < n+P6 w c:=by omega
 simp only [h6,h6',decide_false,cond_false,Option.bind_some]
 have hl:=hs.1
 by_cases h7:c=0
 ·subst h7
  by_cases h9:(12:Int)≤(w.classes.length:Int)
  ·have h9':12≤w.classes.length:=by omega
   simp [h9,h9',noW]
  ·have h9':¬12≤w.classes.length:=by omega
   simp only [h9,h9',Int.lt_irrefl,decide_true,decide_false,cond_false,Option.bind_some,Bool.not_true]
   rw [E8 (by simp; omega),cond_true,E8 (by simp; omega)]
   simp
 ·have h7':0 < c:=by omega
  by_cases h8:c < 4
  ·simp [h7,h7',h8,noW]
  ·by_cases h9:(12:Int)≤(w.classes.length:Int)
   ·have h9':12≤w.classes.length:=by omega
    simp [h7,h7',h8,h9,h9',noW]
   ·have h9':¬12≤w.classes.length:=by omega
    simp only [h7,h7',h8,h9,h9',decide_true,decide_false,cond_false,cond_true,Option.bind_some,Bool.not_false]
    rw [E8 (by simp; omega),cond_true,E8 (by simp; omega)]
    simp
def aF8 (m:Me):List Me→List Me
 |[]=>[m]
 |x::r=>if x.name=m.name then m::r else if I6 m.name x.name=true then m::x::r else x::aF8 m r
theorem bM0 (m:Me):∀(ms:List Me) (v:Nat),aO5 ms→v≤ms.length→(∀i x,i < v→ms[i]?=some x→I6 x.name m.name=true)→(∀i x,v≤i→ms[i]?=some x→I6 x.name m.name=false) →
  aF8 m ms=if (K6 m.name ms).isSome=true then ms.set v m else ms.take v++m::ms.drop v
 |[],v,_,h,_,_=>by simp [aF8,K6]
 |x::r,0,hr,_,_,h2=>by
  have hx:=h2 0 x (Nat.le_refl _) rfl
  by_cases e:x.name=m.name
  ·simp [aF8,K6,e]
  ·have hlt:I6 m.name x.name=true:=by
    cases q:I6 m.name x.name with
    |true=>rfl
    |false=>exact absurd (bR5 hx q) e
   have hn:(K6 m.name (x::r)).isSome=false:=by
    cases q:K6 m.name (x::r) with
    |none=>rfl
    |some j =>
     obtain ⟨m',q1,q2⟩:=aB2 q
     cases j with
     |zero=>cases q1; exact absurd q2 e
     |succ j =>
      have:=aF9 hr (i:=0) (j:=j+1) rfl q1 (by omega)
      rw [q2,hx] at this; cases this
   simp only [hn]
   rw [aF8,if_neg e,if_pos hlt]
   rfl
 |x::r,v+1,hr,h,h1,h2=>by
  have hx:=h1 0 x (Nat.succ_pos _) rfl
  have e:x.name≠m.name:=bY7 hx
  have ih:=bM0 m r v (List.pairwise_cons.1 hr).2 (by simpa using h) (fun i y hi hy=>h1 (i+1) y (by omega) (by simpa using hy)) (fun i y hi hy=>h2 (i+1) y (by omega) (by simpa using hy))
  rw [aF8,if_neg e,if_neg (by rw [bM7 hx]; decide),ih]
  have:(K6 m.name (x::r)).isSome=(K6 m.name r).isSome:=by
   rw [K6,if_neg e]; cases K6 m.name r<;>rfl
  rw [this]
  by_cases q:(K6 m.name r).isSome=true
  ·simp [q]
  ·simp [q]
def bG9 (w:Wd) (c:Int) (m:Me):Wd×Int :=
 if 0≤c then (match w.classes[c.toNat]? with
  |none=>(⟨[],[],0⟩,6)
  |some x=>if (K6 m.name x.methods).isSome=false∧8≤x.methods.length then (⟨[],[],0⟩,5)
   else (⟨w.classes.set c.toNat ⟨x.name,x.super,x.slots,aF8 m x.methods⟩,w.heap,wr (w.epoch+1)⟩,0)) else (⟨[],[],0⟩,6)
theorem a08 (N:Nat) (w:Wd) (c:Int) (m:Me) (hN:1048578≤N) (hs:aB9 w) (hw:a97 w) (hm:m.code.length≤1048576):Z9 N w c m=some (bG9 w c m):=by
 unfold Z9 bG9
 by_cases h1:c < 0
 ·have:¬0≤c:=by omega
  simp [h1,this]
 have h1':0≤c:=by omega
 by_cases h2:(w.classes.length:Int)≤c
 ·have:w.classes[c.toNat]?=none:=List.getElem?_eq_none (by omega)
  simp [h1,h1',h2,this]
 obtain ⟨x,hx,hx'⟩:=aK5 (l:=w.classes) h1' (by omega)
 have hmem:=List.mem_of_getElem? hx
 obtain ⟨v,b1,b2,b3,b4,b5⟩:=bA9 N x.methods m.name (by omega) (hs.2.2.1 x hmem).1 (hw x hmem)
 have hp:=bM0 m x.methods v (hw x hmem) b3 b4 b5
 have hc:c.toNat < w.classes.length:=by omega
 simp only [h1,h1',h2,hx,hx',b1,decide_false,cond_false,Option.bind_some,if_true,bB1 N w hs,V8 N m hm]
 cases hi:(K6 m.name x.methods).isSome with
 |true =>
  obtain ⟨i,hi'⟩:=Option.isSome_iff_exists.1 hi
  obtain ⟨y,y1,_⟩:=aB2 hi'
  have hv:v=i:=by have:=b2 i hi'; omega
  subst hv
  rw [hi] at hp
  simp only [Bool.not_true,cond_false,Option.bind_some,hx,J9,y1]
  simp [hp]
 |false =>
  have hl:=(hs.2.2.1 x hmem).1
  rw [hi] at hp
  by_cases h8:8≤x.methods.length
  ·have h8':(8:Int)≤(x.methods.length:Int):=by omega
   simp [h8,h8']
  ·have h8':¬(8:Int)≤(x.methods.length:Int):=by omega
   have hins:S9 N x.methods (v:Int) [(⟨ByteArray.empty,(0:Int),(0:Int),(0:Int),[]⟩:Me)]=some (x.methods.take v++(⟨ByteArray.empty,0,0,0,[]⟩:Me)::x.methods.drop v):=by
    unfold S9
    rw [E8 (by omega)]
    have:(v:Int)≤(x.methods.length:Int):=by omega
    simp [this]
   simp only [hins,h8,h8',Bool.not_false,cond_true,cond_false,decide_false,Option.bind_some,and_false,if_false]
   have g:(w.classes.set c.toNat (⟨x.name,x.super,x.slots,x.methods.take v++(⟨ByteArray.empty,0,0,0,[]⟩:Me)::x.methods.drop v⟩:Cl))[c.toNat]?=some (⟨x.name,x.super,x.slots,x.methods.take v++(⟨ByteArray.empty,0,0,0,[]⟩:Me)::x.methods.drop v⟩:Cl):=by
    rw [List.getElem?_set_self hc]
   have g2:H7 (x.methods.take v++(⟨ByteArray.empty,0,0,0,[]⟩:Me)::x.methods.drop v) (v:Int)=some (⟨ByteArray.empty,0,0,0,[]⟩:Me):=by
    rw [J9,List.getElem?_append_right (by simp; omega)]
    simp [Nat.min_eq_left b3]
   have g3:(x.methods.take v++(⟨ByteArray.empty,0,0,0,[]⟩:Me)::x.methods.drop v).set v m=x.methods.take v++m::x.methods.drop v:=by
    rw [List.set_append_right _ _ (by simp; omega)]
    simp [Nat.min_eq_left b3]
   simp only [g,g2,Option.bind_some,List.set_set,Int.toNat_natCast,g3,hp,Bool.false_eq_true,if_false]
theorem Y2 (N:Nat) (m:Me):∀(ms:List Me) (k:Nat) (acc:List Me) (b:Bool),(∀x∈ms,x.name≠m.name)→acc.length+ms.length≤2097152→D8 N m ms k acc true b=some (acc++ms,true,b)
 |[],k,acc,b,_,_=>by simp [D8]
 |x::r,k,acc,b,h,hl=>by
  have e:=h x (by simp)
  rw [D8]
  simp only [e,decide_false,cond_false,Bool.not_true,Option.bind_some]
  rw [E8 (by simp at hl ⊢; omega)]
  simp only [cond_true,Option.bind_some]
  rw [Y2 N m r (k+1) _ b (fun y hy=>h y (by simp [hy])) (by simp at hl ⊢; omega)]
  simp
theorem aY7 {m x:Me} {r:List Me} (e:x.name≠m.name):(K6 m.name (x::r)).isSome=(K6 m.name r).isSome:=by
 rw [K6,if_neg e]; cases K6 m.name r<;>rfl
theorem b48 {s:ByteArray} {ms:List Me} (h:∀x∈ms,x.name≠s):K6 s ms=none:=by
 cases q:K6 s ms with
 |none=>rfl
 |some i=>obtain ⟨m,h1,h2⟩:=aB2 q; exact absurd h2 (h m (List.mem_of_getElem? h1))
theorem aE8 (N:Nat) (m:Me):∀(ms:List Me) (k:Nat) (acc:List Me),aO5 ms→acc.length+ms.length≤1048577 →
  ∃l d,D8 N m ms k acc false false=some (l,d,(K6 m.name ms).isSome)∧l.length≤1048578∧(if d=true then l else l++[m])=acc++aF8 m ms
 |[],k,acc,_,hl=>⟨acc,false,by simp [D8,K6],by simp at hl; omega,by simp [aF8]⟩
 |x::r,k,acc,hr,hl=>by
  rw [D8]
  obtain ⟨hr1,hr2⟩:=List.pairwise_cons.1 hr
  by_cases e:x.name=m.name
  ·have hne:∀y∈r,y.name≠m.name:=fun y hy=>by rw [←e]; exact fun q=>bY7 (hr1 y hy) q.symm
   simp only [e,decide_true,cond_true]
   rw [E8 (by simp at hl ⊢; omega)]
   simp only [cond_true,Option.bind_some]
   rw [Y2 N m r (k+1) _ true hne (by simp at hl ⊢; omega)]
   exact ⟨acc++[m]++r,true,by simp [K6,e],by simp at hl ⊢; omega,by simp [aF8,e]⟩
  ·simp only [e,decide_false,cond_false,Bool.not_false,cond_true,Option.bind_some,Bool.or_false]
   cases hx:I6 x.name m.name with
   |false =>
    have hlt:I6 m.name x.name=true:=by
     cases q:I6 m.name x.name with
     |true=>rfl
     |false=>exact absurd (bR5 hx q) e
    have hne:∀y∈r,y.name≠m.name:=fun y hy q=>by
     have:=lt_trans hlt (hr1 y hy); rw [q,aH4] at this; cases this
    simp only [Bool.not_false,cond_true]
    rw [E8 (by simp at hl ⊢; omega)]
    simp only [cond_true,Option.bind_some]
    rw [E8 (by simp at hl ⊢; omega)]
    simp only [cond_true,Option.bind_some]
    rw [Y2 N m r (k+1) _ false hne (by simp at hl ⊢; omega)]
    exact ⟨acc++[m]++[x]++r,true,by rw [aY7 e,b48 hne]; rfl,by simp at hl ⊢; omega,by simp [aF8,e,hlt]⟩
   |true =>
    simp only [Bool.not_true,cond_false,Option.bind_some]
    rw [E8 (by simp at hl ⊢; omega)]
    simp only [cond_true,Option.bind_some]
    obtain ⟨l,d,h1,h2,h3⟩:=aE8 N m r (k+1) (acc++[x]) hr2 (by simp at hl ⊢; omega)
    exact ⟨l,d,by rw [h1,aY7 e],h2,by rw [h3,aF8,if_neg e,if_neg (by rw [bM7 hx]; decide)]; simp⟩
theorem aY2 (N:Nat) (w:Wd) (c:Int) (m:Me) (hs:aB9 w) (hw:a97 w):Y5 N w c m=some (bG9 w c m):=by
 unfold Y5 bG9
 by_cases h1:c < 0
 ·have:¬0≤c:=by omega
  simp [h1,this]
 have h1':0≤c:=by omega
 by_cases h2:(w.classes.length:Int)≤c
 ·have:w.classes[c.toNat]?=none:=List.getElem?_eq_none (by omega)
  simp [h1,h1',h2,this]
 obtain ⟨x,hx,hx'⟩:=aK5 (l:=w.classes) h1' (by omega)
 have hmem:=List.mem_of_getElem? hx
 obtain ⟨l,d,b1,b2,b3⟩:=aE8 N m x.methods 0 [] (hw x hmem) (by have:=(hs.2.2.1 x hmem).1; simp; omega)
 simp only [h1,h1',h2,hx,hx',b1,decide_false,cond_false,Option.bind_some,if_true]
 have hw1:=hs.1
 have hin:(bif !d then (bif Nat.ble ((l.length+[m].length)*64) 140737488355328 then some (l++[m]) else none) else some l:Option (List Me))=some (aF8 m x.methods):=by
  rw [E8 (by simp; omega)]
  cases d with
  |true=>simpa using b3
  |false=>simpa using b3
 rw [hin]
 simp only [Option.bind_some,List.nil_append,hx']
 rw [E8 (by simp; omega)]
 cases hi:(K6 m.name x.methods).isSome with
 |true=>simp
 |false =>
  by_cases h8:8≤x.methods.length
  ·have h8':(8:Int)≤(x.methods.length:Int):=by omega
   simp [h8,h8']
  ·have h8':¬(8:Int)≤(x.methods.length:Int):=by omega
   simp [h8,h8']
end Go.Proofs.Ytahmeibkdhbngaa
