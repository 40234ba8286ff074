import Derived.Test.YtibjcppjfkamhaaGreatDoorPl62
/- Plain laws: what is wrong with a world. No program in sight. -/
namespace Go.Proofs.YtibjcppjfkamhaaGreatDoor
open Go.RowKit
set_option linter.unusedVariables false
def aW0 (ps:List Cl) (s:ByteArray):Bool:=ps.any fun d=>decide (d.name=s)
def b56 (k:Nat) (c:Cl):Bool:=match U1.classes[k]? with
 |some f=>!decide (c.name=f.name)
 |none=>false
def bT4 (k:Nat) (c:Cl):Bool:=(match U1.classes[k]? with
 |some f=>!decide (c.super=f.super) || !decide (c.slots=0)
 |none=>decide (c.super < 0) || (decide ((k:Int)≤c.super) || (!decide (c.super=0) && decide (c.super < 4)))) || (decide (c.slots < 0) || decide (6 < c.slots))
def aU9 (ps:List Cl) (k:Nat) (c:Cl):Int:=bif !aA7 c.name || (aW0 ps c.name || b56 k c) then 7 else bif bT4 k c then 3 else 0
def aI7 (w:Wd):List Cl→Nat→C9 Int Unit
 |[],_=>.next ()
 |c::l,k=>bif decide (aU9 (w.classes.take k) k c=0) then aI7 w l (k+1) else .ret (aU9 (w.classes.take k) k c)
def aV1 (k:Nat) (m:Me):Bool:=decide (k=3) && (Q0.any (fun p=>decide (p.name=m.name) && decide (p.prim=m.prim)) && (decide (m.args=1) && (decide (m.temps=0) && decide (m.code=[]))))
def aU5 (p:Option Me) (m:Me):Bool:=match p with
 |some q=>!ltS q.name m.name
 |none=>false
def aZ1 (N:Nat) (w:Wd) (k:Nat) (p:Option Me) (m:Me):Option Int:=bif aU5 p m then some 7 else bif aV1 k m then some 0 else (checkN N w (k:Int) m).map (·.err)
def aJ8 (N:Nat) (w:Wd) (k:Nat) (ms:List Me):List Me→Nat→Option (C9 Int Unit)
 |[],_=>some (.next ())
 |m::l,j=>(aZ1 N w k (if j=0 then none else ms[j - 1]?) m).bind fun e=>bif decide (e=0) then aJ8 N w k ms l (j+1) else some (.ret e)
def aL8 (N:Nat) (w:Wd):List Cl→Nat→Option (C9 Int Unit)
 |[],_=>some (.next ())
 |c::l,k=>bif decide (6 < I4 w (k:Int)) then some (.ret 3) else bif decide (8 < (c.methods.length:Int)) then some (.ret 5) else (aJ8 N w k c.methods c.methods 0).bind fun o=>match o with
  |.ret r=>some (.ret r)
  |.next ()=>aL8 N w l (k+1)
def aU4 (n:Int):List V→C9 Int Unit
 |[]=>.next ()
 |v::l=>bif decide (aS5 v n=0) then aU4 n l else .ret (aS5 v n)
def obB (w:Wd) (o:Ob):Bool:=(!decide (o.cls=0) && (decide (o.cls < 4) || decide ((w.classes.length:Int)≤o.cls))) || !decide ((o.slots.length:Int)=I4 w o.cls)
def aN4 (w:Wd):List Ob→C9 Int Unit
 |[]=>.next ()
 |o::l=>bif obB w o then .ret 8 else match aU4 (w.heap.length:Int) o.slots with
  |.ret r=>.ret r
  |.next ()=>aN4 w l
def a19 (N:Nat) (w:Wd):Option Int :=
 bif decide ((w.classes.length:Int) < 4) || (decide (12 < (w.classes.length:Int)) || decide (60 < (w.heap.length:Int))) then some 5
 else bif decide (w.epoch < 0) || decide (1073741824 < w.epoch) then some 3
 else match aI7 w w.classes 0 with
  |.ret r=>some r
  |.next ()=>(aL8 N w w.classes 0).bind fun o=>match o with
   |.ret r=>some r
   |.next ()=>match aN4 w w.heap with
    |.ret r=>some r
    |.next ()=>some 0
theorem b50 {α:Type} [DecidableEq α] (x s:α):∀v:List (α×Bool),aM6 s (aH1 x true v)=(decide (x=s) || aM6 s v)
 |[]=>by
  by_cases h:s=x
  ·simp [aH1,aM6,h]
  ·simp [aH1,aM6,h,Ne.symm h]
 |(y,b)::l=>by
  have ih:=b50 x s l
  by_cases h:x=y
  ·subst h
   by_cases h2:s=x
   ·simp [aH1,aM6,h2]
   ·simp [aH1,aM6,h2,Ne.symm h2]
  ·by_cases h2:s=y
   ·have:¬x=s:=fun e=>h (e.trans h2)
    simp [aH1,aM6,h,h2]
   ·simp only [aH1,if_neg h,aM6,if_neg h2]
    exact ih
theorem cE4 (ps:List Cl) (c:Cl) (s:ByteArray):aW0 (ps++[c]) s=(decide (c.name=s) || aW0 ps s):=by
 simp only [aW0,List.any_append,List.any_cons,List.any_nil,Bool.or_false]
 exact Bool.or_comm _ _
theorem bO1 : U1.classes.length=4:=rfl
theorem cH3 {k:Nat} {f:Cl} (h:U1.classes[k]?=some f):k < 4:=by
 have:=(List.getElem?_eq_some_iff.1 h).1
 rwa [bO1] at this
theorem cG1 {k:Nat} (h:U1.classes[k]?=none):4≤k:=by
 have:=List.getElem?_eq_none_iff.1 h
 rwa [bO1] at this
theorem bU9 (N:Nat) (w:Wd) (hs:w.classes.length≤1048576):∀(l:List Cl) (k:Nat) (v:List (ByteArray×Bool)),l=w.classes.drop k→v.length≤k→(∀s,aM6 s v=aW0 (w.classes.take k) s)→aC0 N U1 l k v=some (aI7 w l k)
 |[],k,v,_,_,_=>rfl
 |c::l,k,v,h,hv,hm=>by
  obtain ⟨hc,hl,hlt⟩:=z8 h
  have hlt:=of_decide_eq_true hlt
  have ht:=cI4 hc
  have ih:=bU9 N w hs l (k+1) (aH1 c.name true v) hl (by have:=bM9 c.name true v; omega) (fun s=>by rw [b50,hm,ht,cE4])
  rw [aC0,aT4,aI7,bO1]
  simp only [Option.bind_some,hm,ih,Nat.ble_eq_true_of_le (show v.length+1≤140737488355328 by omega),cond_true]
  unfold aU9 b56 bT4
  cases hn:aA7 c.name with
  |false=>simp
  |true =>
   cases hd:aW0 (w.classes.take k) c.name with
   |true=>simp
   |false =>
    cases hf:U1.classes[k]? with
    |some f =>
     have hk:=cH3 hf
     have e1:decide ((k:Int) < ((4:Nat):Int))=true:=decide_eq_true (by omega)
     have e2:decide (((4:Nat):Int)≤(k:Int))=false:=decide_eq_false (by omega)
     simp only [e1,e2,K4,hf,Option.bind_some,cond_true,cond_false,Bool.not_true,Bool.false_or]
     by_cases q1:c.name=f.name
     ·by_cases q2:c.super=f.super
      ·by_cases q3:c.slots=0
       ·simp [q1,q2,q3]
       ·simp [q1,q2,q3]
      ·simp [q1,q2]
     ·simp [q1]
    |none =>
     have hk:=cG1 hf
     have hk0:¬k=0:=by omega
     have e1:decide ((k:Int) < ((4:Nat):Int))=false:=decide_eq_false (by omega)
     have e2:decide (((4:Nat):Int)≤(k:Int))=true:=decide_eq_true (by omega)
     simp only [e1,e2,Option.bind_some,cond_true,cond_false,Bool.not_true,Bool.false_or]
     by_cases q1:c.super < 0
     ·simp [q1]
     ·by_cases q2:(k:Int)≤c.super
      ·simp [q1,q2]
      ·by_cases q3:c.super=0
       ·by_cases q4:c.slots < 0
        ·simp [hk0,q2,q3,q4]
        ·by_cases q5:6 < c.slots
         ·simp [hk0,q2,q3,q4,q5]
         ·simp [hk0,q2,q3,q4,q5]
       ·by_cases q6:c.super < 4
        ·simp [q1,q2,q3,q6]
        ·by_cases q4:c.slots < 0
         ·simp [q1,q2,q3,q4,q6]
         ·by_cases q5:6 < c.slots
          ·simp [q1,q2,q3,q4,q5,q6]
          ·simp [q1,q2,q3,q4,q5,q6]
theorem cG7 {s:ByteArray} {q:Int}:∀{l:List Me},bB9 l→l.any (fun p=>decide (p.name=s) && decide (p.prim=q))=match ixN s l with
  |some i=>(match l[i]? with
   |some x=>decide (x.prim=q)
   |none=>false)
  |none=>false
 |[],_=>rfl
 |m::r,h=>by
  have h1:=(List.pairwise_cons.1 h).1
  have ih:=cG7 (s:=s) (q:=q) (List.pairwise_cons.1 h).2
  rw [List.any_cons,ixN]
  by_cases e:m.name=s
  ·rw [if_pos e,decide_eq_true e]
   have:r.any (fun p=>decide (p.name=s) && decide (p.prim=q))=false:=by
    rw [List.any_eq_false]
    intro p hp
    have hlt:=h1 p hp
    have hne:¬p.name=s:=fun e2=>by
     rw [e,←e2] at hlt
     rw [a11] at hlt
     cases hlt
    simp [hne]
   rw [this]
   simp
  ·rw [if_neg e,decide_eq_false e,ih]
   cases ixN s r with
   |none=>rfl
   |some i=>simp
theorem b51 : bB9 Q0:=by unfold bB9; decide +kernel
theorem cE2 : cD5 U1:=fun x hx=>by
 have:x.methods=[]∨x.methods=Q0:=by
  simp only [U1,List.mem_cons,List.not_mem_nil,or_false] at hx
  rcases hx with rfl|rfl|rfl|rfl<;>simp
 rcases this with e|e<;>rw [e]
 ·exact List.Pairwise.nil
 ·exact b51
theorem cH6 : aJ0 U1:=by
 refine ⟨by decide,by decide,fun x hx=>?_,fun o ho=>by cases ho⟩
 simp only [U1,List.mem_cons,List.not_mem_nil,or_false] at hx
 have hm:∀m∈Q0,m.code.length≤1048576:=by decide
 rcases hx with rfl|rfl|rfl|rfl
 ·exact ⟨by decide,fun m hm=>by cases hm⟩
 ·exact ⟨by decide,fun m hm=>by cases hm⟩
 ·exact ⟨by decide,fun m hm=>by cases hm⟩
 ·exact ⟨by decide,hm⟩
theorem cM3 (s:ByteArray):bZ3 U1 s 3=match ixN s Q0 with
  |some i=>(3,(i:Int))
  |none=>(-1,-1):=by
 unfold bZ3
 have e3:U1.classes[(3:Int).toNat]?=some ⟨⟨#[73,110,116]⟩,0,0,Q0⟩:=rfl
 have e0:U1.classes[(0:Int).toNat]?=some ⟨⟨#[79,98,106,101,99,116]⟩,-1,0,[]⟩:=rfl
 have e4:aG0 U1 s 4 0=none:=by
  rw [aG0,if_pos (by decide),e0]
  show aG0 U1 s 3 (-1)=none
  rw [aG0,if_neg (by decide)]
 rw [bO1,aG0,if_pos (by decide),e3]
 show (match ixN s Q0 with
  |some i=>some ((3:Int),(i:Int))
  |none=>aG0 U1 s 4 0).getD (-1,-1)=_
 rw [e4]
 cases ixN s Q0<;>rfl
theorem cJ5 (N:Nat) (hN:1048578≤N) (m:Me):aN0 N U1 m=some (Q0.any (fun p=>decide (p.name=m.name) && decide (p.prim=m.prim)) && (decide (m.args=1) && (decide (m.temps=0) && decide (m.code=[])))):=by
 have hl:∀i,ixN m.name Q0=some i→∃x,Q0[i]?=some x:=fun i h=>by
  obtain ⟨x,hx,_⟩:=aQ1 h
  exact ⟨x,hx⟩
 have hc:decide ((m.code.length:Int)=0)=decide (m.code=[]):=by
  cases m.code<;>simp
  omega
 unfold aN0
 rw [bX2 N U1 3 m.name hN cE2 cH6,cM3,cG7 b51]
 cases hi:ixN m.name Q0 with
 |none=>rfl
 |some i =>
  obtain ⟨x,hx⟩:=hl i hi
  have e3:F5 U1.classes 3=some ⟨⟨#[73,110,116]⟩,0,0,Q0⟩:=rfl
  simp only [Option.bind_some,e3,K4,hx,decide_eq_true (Int.natCast_nonneg i),cond_true,hc]
  by_cases q1:x.prim=m.prim
  ·by_cases q2:m.args=1
   ·by_cases q3:m.temps=0
    ·simp [q1,q2,q3]
    ·simp [q1,q2,q3]
   ·simp [q1,q2]
  ·have q1':¬m.prim=x.prim:=fun e=>q1 e.symm
   simp [q1,q1']
theorem b70 {m:Me} (h:Q0.any (fun p=>decide (p.name=m.name) && decide (p.prim=m.prim))=true):m.prim≠0∧∃p∈Q0,p.name=m.name∧p.prim=m.prim:=by
 obtain ⟨p,hp,h⟩:=List.any_eq_true.1 h
 simp only [Bool.and_eq_true,decide_eq_true_eq] at h
 have hz:∀q∈Q0,q.prim≠0:=by decide
 exact ⟨by rw [←h.2]; exact hz p hp,p,hp,h⟩
theorem bV3 (N:Nat) (w:Wd) (k:Nat) (c:Cl) (hN:4194304≤N) (hs:aJ0 w) (hc:c∈w.classes):∀(l:List Me) (j:Nat),l=c.methods.drop j→aC4 N w U1 k c l j=aJ8 N w k c.methods l j
 |[],j,_=>rfl
 |m::l,j,h=>by
  obtain ⟨hm,hl,hlt⟩:=z8 h
  have hlt:=of_decide_eq_true hlt
  have hml:=(hs.2.2.1 c hc).1
  have ih:=bV3 N w k c hN hs hc l (j+1) hl
  have ep:((bif decide ((0:Int) < (j:Int)) then ((F5 c.methods (wr ((j:Int) - (1:Int)))).bind fun x102=>some ((!ltS x102.name m.name))) else some (false)):Option Bool) =
    some (aU5 (if j=0 then none else c.methods[j - 1]?) m):=by
   by_cases h0:j=0
   ·subst h0; rfl
   ·have wk:wr ((j:Int) - 1)=((j - 1:Nat):Int):=by rw [O3 (by unfold D6; omega)]; omega
    obtain ⟨p,hp⟩:∃p,c.methods[j - 1]?=some p:=⟨_,List.getElem?_eq_getElem (by omega)⟩
    rw [decide_eq_true (show (0:Int) < (j:Int) by omega),if_neg h0]
    simp only [cond_true,wk,K4,hp,Option.bind_some,aU5]
  have eq:((bif (!decide (m.prim=(0:Int))) then (bif decide ((k:Int)=(3:Int)) then ((aN0 N U1 m).bind fun r110=>some (r110)) else some (false)) else some (false)):Option Bool)=some (aV1 k m):=by
   rw [cJ5 N (by omega) m]
   unfold aV1
   by_cases h3:k=3
   ·have h3':(k:Int)=3:=by omega
    cases ha:Q0.any (fun p=>decide (p.name=m.name) && decide (p.prim=m.prim)) with
    |true =>
     have:=(b70 ha).1
     simp [h3,this]
    |false =>
     by_cases hz:m.prim=0<;>simp [h3,hz]
   ·have h3':¬(k:Int)=3:=by omega
    by_cases hz:m.prim=0<;>simp [h3,h3',hz]
  rw [aC4,ep,eq,bY6 N w _ _ (by omega) hs.1,aJ8]
  unfold aZ1
  simp only [Option.bind_some,ih]
  cases aU5 (if j=0 then none else c.methods[j - 1]?) m with
  |true=>simp
  |false =>
   cases aV1 k m with
   |true=>simp
   |false =>
    simp only [cond_false]
    obtain ⟨f,hf⟩:=a01 N w (k:Int) m hN
    rw [hf]
    simp only [Option.bind_some,Option.map_some]
    by_cases he:f.err=0
    ·simp [he]
    ·simp [he]
theorem bV7 (N:Nat) (w:Wd) (hN:4194304≤N) (hs:aJ0 w):∀(l:List Cl) (k:Nat),l=w.classes.drop k→aC2 N w U1 l k=aL8 N w l k
 |[],k,_=>rfl
 |c::l,k,h=>by
  obtain ⟨hc,hl,hlt⟩:=z8 h
  rw [aC2,aQ3 N w _ (by omega) hs.1,aL8,bV3 N w k c hN hs (List.mem_of_getElem? hc) c.methods 0 rfl]
  simp only [Option.bind_some,bV7 N w hN hs l (k+1) hl]
  rfl
theorem b62 (N:Nat) (w:Wd):∀(l:List V) (k:Nat),aD5 N w l k=some (aU4 (w.heap.length:Int) l)
 |[],k=>rfl
 |v::l,k=>by
  rw [aD5,bT6,aU4]
  simp only [Option.bind_some,b62 N w l (k+1)]
  by_cases h:aS5 v (w.heap.length:Int)=0<;>simp [h]
theorem b39 (N:Nat) (w:Wd) (hN:1048578≤N) (hs:w.classes.length≤1048576) (h4:4≤w.classes.length):∀(l:List Ob) (k:Nat),aD6 N w l k=some (aN4 w l)
 |[],k=>rfl
 |o::l,k=>by
  rw [aD6,aQ3 N w _ hN hs,aN4,b62]
  simp only [Option.bind_some,b39 N w hN hs h4 l (k+1)]
  have e:((bif (!decide (o.cls=(0:Int))) then (bif decide (o.cls < (4:Int)) then some (true) else (bif decide ((w.classes.length:Int)≤o.cls) then some (true) else some ((!decide ((o.slots.length:Int)=I4 w o.cls))))) else some ((!decide ((o.slots.length:Int)=I4 w o.cls)))):Option Bool)=some (obB w o):=by
   unfold obB
   by_cases q1:o.cls=0
   ·simp [q1]
   ·by_cases q2:o.cls < 4
    ·simp [q1,q2]
    ·by_cases q3:(w.classes.length:Int)≤o.cls<;>simp [q1,q2,q3]
  rw [e]
  simp only [Option.bind_some]
  cases obB w o with
  |true=>rfl
  |false =>
   simp only [cond_false]
   cases aU4 (w.heap.length:Int) o.slots<;>rfl
theorem bC7 (N:Nat) (w:Wd) (hN:4194304≤N) (hs:aJ0 w):aH5 N w=a19 N w:=by
 unfold aH5 a19 bG2
 have e1:((bif decide ((w.classes.length:Int) < (U1.classes.length:Int)) then some (true) else (bif decide ((12:Int) < (w.classes.length:Int)) then some (true) else some (decide ((60:Int) < (w.heap.length:Int))))):Option Bool)=some (decide ((w.classes.length:Int) < 4) || (decide (12 < (w.classes.length:Int)) || decide (60 < (w.heap.length:Int)))):=by
  rw [bO1]
  have:((4:Nat):Int)=4:=rfl
  rw [this]
  by_cases q1:(w.classes.length:Int) < 4
  ·simp [q1]
  ·by_cases q2:(12:Int) < (w.classes.length:Int)<;>simp [q1,q2]
 have e2:((bif decide (w.epoch < (0:Int)) then some (true) else some (decide ((1073741824:Int) < w.epoch))):Option Bool)=some (decide (w.epoch < 0) || decide (1073741824 < w.epoch)):=by
  by_cases q1:w.epoch < 0<;>simp [q1]
 simp only [Option.bind_some,e1,e2]
 cases hm:(decide ((w.classes.length:Int) < 4) || (decide (12 < (w.classes.length:Int)) || decide (60 < (w.heap.length:Int)))) with
 |true=>rfl
 |false =>
  have h4:4≤w.classes.length:=by
   simp only [Bool.or_eq_false_iff,decide_eq_false_iff_not] at hm
   omega
  simp only [cond_false]
  cases (decide (w.epoch < 0) || decide (1073741824 < w.epoch)) with
  |true=>rfl
  |false =>
   simp only [cond_false,bU9 N w hs.1 w.classes 0 [] rfl (Nat.le_refl _) (fun s=>rfl),bV7 N w hN hs w.classes 0 rfl,aY9,b39 N w (by omega) hs.1 h4 w.heap 0,Option.bind_some]
   cases aI7 w w.classes 0 with
   |ret r=>rfl
   |next u =>
    cases aL8 N w w.classes 0 with
    |none=>rfl
    |some o =>
     cases o with
     |ret r=>rfl
     |next u =>
      simp only [Option.bind_some]
      cases aN4 w w.heap<;>rfl
theorem bK1 (N:Nat) (w:Wd) (k:Nat) (ms:List Me) (hN:4194304≤N):∀(l:List Me) (j:Nat),∃o,aJ8 N w k ms l j=some o
 |[],j=>⟨_,rfl⟩
 |m::l,j=>by
  obtain ⟨e,he⟩:∃e,aZ1 N w k (if j=0 then none else ms[j - 1]?) m=some e:=by
   unfold aZ1
   obtain ⟨f,hf⟩:=a01 N w (k:Int) m hN
   rw [hf]
   cases aU5 (if j=0 then none else ms[j - 1]?) m with
   |true=>exact ⟨_,rfl⟩
   |false=>cases aV1 k m<;>exact ⟨_,rfl⟩
  rw [aJ8,he]
  simp only [Option.bind_some]
  cases decide (e=0) with
  |true=>exact bK1 N w k ms hN l (j+1)
  |false=>exact ⟨_,rfl⟩
theorem bJ5 (N:Nat) (w:Wd) (hN:4194304≤N):∀(l:List Cl) (k:Nat),∃o,aL8 N w l k=some o
 |[],k=>⟨_,rfl⟩
 |c::l,k=>by
  rw [aL8]
  cases decide (6 < I4 w (k:Int)) with
  |true=>exact ⟨_,rfl⟩
  |false =>
   cases decide (8 < (c.methods.length:Int)) with
   |true=>exact ⟨_,rfl⟩
   |false =>
    obtain ⟨o,ho⟩:=bK1 N w k c.methods hN c.methods 0
    simp only [cond_false,ho,Option.bind_some]
    cases o with
    |ret r=>exact ⟨_,rfl⟩
    |next u=>exact bJ5 N w hN l (k+1)
theorem bJ6 (N:Nat) (w:Wd) (hN:4194304≤N):∃r,a19 N w=some r:=by
 obtain ⟨o,ho⟩:=bJ5 N w hN w.classes 0
 unfold a19
 rw [ho]
 cases (decide ((w.classes.length:Int) < 4) || (decide (12 < (w.classes.length:Int)) || decide (60 < (w.heap.length:Int)))) with
 |true=>exact ⟨_,rfl⟩
 |false =>
  cases (decide (w.epoch < 0) || decide (1073741824 < w.epoch)) with
  |true=>exact ⟨_,rfl⟩
  |false =>
   simp only [cond_false]
   cases aI7 w w.classes 0 with
   |ret r=>exact ⟨_,rfl⟩
   |next u =>
    simp only [Option.bind_some]
    cases o with
    |ret r=>exact ⟨_,rfl⟩
    |next u=>cases aN4 w w.heap<;>exact ⟨_,rfl⟩
end Go.Proofs.YtibjcppjfkamhaaGreatDoor
