import Derived.Test.YtibjcppjfkamhaaDoorPl62
/- Plain laws: what is wrong with a world. No program in sight. -/
namespace Go.Proofs.YtibjcppjfkamhaaDoor
open Go.RowKit
set_option linter.unusedVariables false
def aZ0 (ps:List Cl) (s:ByteArray):Bool:=ps.any fun d=>decide (d.name=s)
def b23 (k:Nat) (c:Cl):Bool:=match J3.classes[k]? with
 |some f=>!decide (c.name=f.name)
 |none=>false
def b06 (k:Nat) (c:Cl):Bool:=(match J3.classes[k]? with
 |some f=>!decide (c.super=f.super) || !decide (c.slots=0)
 |none=>decide (c.super < 0) || (decide ((k:Int)≤c.super) || (!decide (c.super=0) && decide (c.super < 4)))) || (decide (c.slots < 0) || decide (6 < c.slots))
def aM9 (ps:List Cl) (k:Nat) (c:Cl):Int:=bif !Z5 c.name || (aZ0 ps c.name || b23 k c) then 7 else bif b06 k c then 3 else 0
def aE1 (w:Wd):List Cl→Nat→J2 Int Unit
 |[],_=>.next ()
 |c::l,k=>bif decide (aM9 (w.classes.take k) k c=0) then aE1 w l (k+1) else .ret (aM9 (w.classes.take k) k c)
def aV3 (k:Nat) (m:Me):Bool:=decide (k=3) && (K3.any (fun p=>decide (p.name=m.name) && decide (p.prim=m.prim)) && (decide (m.args=1) && (decide (m.temps=0) && decide (m.code=[]))))
def a10 (p:Option Me) (m:Me):Bool:=match p with
 |some q=>!U9 q.name m.name
 |none=>false
def aW0 (N:Nat) (w:Wd) (k:Nat) (p:Option Me) (m:Me):Option Int:=bif a10 p m then some 7 else bif aV3 k m then some 0 else (checkN N w (k:Int) m).map (·.err)
def aB3 (N:Nat) (w:Wd) (k:Nat) (ms:List Me):List Me→Nat→Option (J2 Int Unit)
 |[],_=>some (.next ())
 |m::l,j=>(aW0 N w k (if j=0 then none else ms[j - 1]?) m).bind fun e=>bif decide (e=0) then aB3 N w k ms l (j+1) else some (.ret e)
def aC4 (N:Nat) (w:Wd):List Cl→Nat→Option (J2 Int Unit)
 |[],_=>some (.next ())
 |c::l,k=>bif decide (6 < aB0 w (k:Int)) then some (.ret 3) else bif decide (8 < (c.methods.length:Int)) then some (.ret 5) else (aB3 N w k c.methods c.methods 0).bind fun o=>match o with
  |.ret r=>some (.ret r)
  |.next ()=>aC4 N w l (k+1)
def aH0 (n:Int):List V→J2 Int Unit
 |[]=>.next ()
 |v::l=>bif decide (aU2 v n=0) then aH0 n l else .ret (aU2 v n)
def obB (w:Wd) (o:Ob):Bool:=(!decide (o.cls=0) && (decide (o.cls < 4) || decide ((w.classes.length:Int)≤o.cls))) || !decide ((o.slots.length:Int)=aB0 w o.cls)
def aE0 (w:Wd):List Ob→J2 Int Unit
 |[]=>.next ()
 |o::l=>bif obB w o then .ret 8 else match aH0 (w.heap.length:Int) o.slots with
  |.ret r=>.ret r
  |.next ()=>aE0 w l
def aP3 (N:Nat) (w:Wd):Option Int :=
 bif decide ((w.classes.length:Int) < 4) || (decide (12 < (w.classes.length:Int)) || decide (60 < (w.heap.length:Int))) then some 5
 else bif decide (w.epoch < 0) || decide (1073741824 < w.epoch) then some 3
 else match aE1 w w.classes 0 with
  |.ret r=>some r
  |.next ()=>(aC4 N w w.classes 0).bind fun o=>match o with
   |.ret r=>some r
   |.next ()=>match aE0 w w.heap with
    |.ret r=>some r
    |.next ()=>some 0
theorem bS1 {α:Type} [DecidableEq α] (x s:α):∀v:List (α×Bool),aG0 s (aB8 x true v)=(decide (x=s) || aG0 s v)
 |[]=>by
  by_cases h:s=x
  ·simp [aB8,aG0,h]
  ·simp [aB8,aG0,h,Ne.symm h]
 |(y,b)::l=>by
  have ih:=bS1 x s l
  by_cases h:x=y
  ·subst h
   by_cases h2:s=x
   ·simp [aB8,aG0,h2]
   ·simp [aB8,aG0,h2,Ne.symm h2]
  ·by_cases h2:s=y
   ·have:¬x=s:=fun e=>h (e.trans h2)
    simp [aB8,aG0,h,h2]
   ·simp only [aB8,if_neg h,aG0,if_neg h2]
    exact ih
theorem b61 (ps:List Cl) (c:Cl) (s:ByteArray):aZ0 (ps++[c]) s=(decide (c.name=s) || aZ0 ps s):=by
 simp only [aZ0,List.any_append,List.any_cons,List.any_nil,Bool.or_false]
 exact Bool.or_comm _ _
theorem bD2 : J3.classes.length=4:=rfl
theorem cL1 {k:Nat} {f:Cl} (h:J3.classes[k]?=some f):k < 4:=by
 have:=(List.getElem?_eq_some_iff.1 h).1
 rwa [bD2] at this
theorem cJ8 {k:Nat} (h:J3.classes[k]?=none):4≤k:=by
 have:=List.getElem?_eq_none_iff.1 h
 rwa [bD2] at this
theorem bJ1 (N:Nat) (w:Wd) (hs:w.classes.length≤1048576):∀(l:List Cl) (k:Nat) (v:List (ByteArray×Bool)),l=w.classes.drop k→v.length≤k→(∀s,aG0 s v=aZ0 (w.classes.take k) s)→V5 N J3 l k v=some (aE1 w l k)
 |[],k,v,_,_,_=>rfl
 |c::l,k,v,h,hv,hm=>by
  obtain ⟨hc,hl,hlt⟩:=F8 h
  have hlt:=of_decide_eq_true hlt
  have ht:=b38 hc
  have ih:=bJ1 N w hs l (k+1) (aB8 c.name true v) hl (by have:=bA4 c.name true v; omega) (fun s=>by rw [bS1,hm,ht,b61])
  rw [V5,aL5,aE1,bD2]
  simp only [Option.bind_some,hm,ih,Nat.ble_eq_true_of_le (show v.length+1≤140737488355328 by omega),cond_true]
  unfold aM9 b23 b06
  cases hn:Z5 c.name with
  |false=>simp
  |true =>
   cases hd:aZ0 (w.classes.take k) c.name with
   |true=>simp
   |false =>
    cases hf:J3.classes[k]? with
    |some f =>
     have hk:=cL1 hf
     have e1:decide ((k:Int) < ((4:Nat):Int))=true:=decide_eq_true (by omega)
     have e2:decide (((4:Nat):Int)≤(k:Int))=false:=decide_eq_false (by omega)
     simp only [e1,e2,aA4,hf,Option.bind_some,cond_true,cond_false,Bool.not_true,Bool.false_or]
     by_cases q1:c.name=f.name
     ·by_cases q2:c.super=f.super
      ·by_cases q3:c.slots=0
       ·simp [q1,q2,q3]
       ·simp [q1,q2,q3]
      ·simp [q1,q2]
     ·simp [q1]
    |none =>
     have hk:=cJ8 hf
     have hk0:¬k=0:=by omega
     have e1:decide ((k:Int) < ((4:Nat):Int))=false:=decide_eq_false (by omega)
     have e2:decide (((4:Nat):Int)≤(k:Int))=true:=decide_eq_true (by omega)
     simp only [e1,e2,Option.bind_some,cond_true,cond_false,Bool.not_true,Bool.false_or]
     by_cases q1:c.super < 0
     ·simp [q1]
     ·by_cases q2:(k:Int)≤c.super
      ·simp [q1,q2]
      ·by_cases q3:c.super=0
       ·by_cases q4:c.slots < 0
        ·simp [hk0,q2,q3,q4]
        ·by_cases q5:6 < c.slots
         ·simp [hk0,q2,q3,q4,q5]
         ·simp [hk0,q2,q3,q4,q5]
       ·by_cases q6:c.super < 4
        ·simp [q1,q2,q3,q6]
        ·by_cases q4:c.slots < 0
         ·simp [q1,q2,q3,q4,q6]
         ·by_cases q5:6 < c.slots
          ·simp [q1,q2,q3,q4,q5,q6]
          ·simp [q1,q2,q3,q4,q5,q6]
theorem b62 {s:ByteArray} {q:Int}:∀{l:List Me},aU7 l→l.any (fun p=>decide (p.name=s) && decide (p.prim=q))=match ixN s l with
  |some i=>(match l[i]? with
   |some x=>decide (x.prim=q)
   |none=>false)
  |none=>false
 |[],_=>rfl
 |m::r,h=>by
  have h1:=(List.pairwise_cons.1 h).1
  have ih:=b62 (s:=s) (q:=q) (List.pairwise_cons.1 h).2
  rw [List.any_cons,ixN]
  by_cases e:m.name=s
  ·rw [if_pos e,decide_eq_true e]
   have:r.any (fun p=>decide (p.name=s) && decide (p.prim=q))=false:=by
    rw [List.any_eq_false]
    intro p hp
    have hlt:=h1 p hp
    have hne:¬p.name=s:=fun e2=>by
     rw [e,←e2] at hlt
     rw [aT7] at hlt
     cases hlt
    simp [hne]
   rw [this]
   simp
  ·rw [if_neg e,decide_eq_false e,ih]
   cases ixN s r with
   |none=>rfl
   |some i=>simp
theorem bP3 : aU7 K3:=by unfold aU7; decide +kernel
theorem b57 : bY9 J3:=fun x hx=>by
 have:x.methods=[]∨x.methods=K3:=by
  simp only [J3,List.mem_cons,List.not_mem_nil,or_false] at hx
  rcases hx with rfl|rfl|rfl|rfl<;>simp
 rcases this with e|e<;>rw [e]
 ·exact List.Pairwise.nil
 ·exact bP3
theorem bK0 : aO4 J3:=by
 refine ⟨by decide,by decide,fun x hx=>?_,fun o ho=>by cases ho⟩
 simp only [J3,List.mem_cons,List.not_mem_nil,or_false] at hx
 have hm:∀m∈K3,m.code.length≤1048576:=by decide
 rcases hx with rfl|rfl|rfl|rfl
 ·exact ⟨by decide,fun m hm=>by cases hm⟩
 ·exact ⟨by decide,fun m hm=>by cases hm⟩
 ·exact ⟨by decide,fun m hm=>by cases hm⟩
 ·exact ⟨by decide,hm⟩
theorem cC0 (s:ByteArray):bN0 J3 s 3=match ixN s K3 with
  |some i=>(3,(i:Int))
  |none=>(-1,-1):=by
 unfold bN0
 have e3:J3.classes[(3:Int).toNat]?=some ⟨⟨#[73,110,116]⟩,0,0,K3⟩:=rfl
 have e0:J3.classes[(0:Int).toNat]?=some ⟨⟨#[79,98,106,101,99,116]⟩,-1,0,[]⟩:=rfl
 have e4:aA6 J3 s 4 0=none:=by
  rw [aA6,if_pos (by decide),e0]
  show aA6 J3 s 3 (-1)=none
  rw [aA6,if_neg (by decide)]
 rw [bD2,aA6,if_pos (by decide),e3]
 show (match ixN s K3 with
  |some i=>some ((3:Int),(i:Int))
  |none=>aA6 J3 s 4 0).getD (-1,-1)=_
 rw [e4]
 cases ixN s K3<;>rfl
theorem b86 (N:Nat) (hN:1048578≤N) (m:Me):aG4 N J3 m=some (K3.any (fun p=>decide (p.name=m.name) && decide (p.prim=m.prim)) && (decide (m.args=1) && (decide (m.temps=0) && decide (m.code=[])))):=by
 have hl:∀i,ixN m.name K3=some i→∃x,K3[i]?=some x:=fun i h=>by
  obtain ⟨x,hx,_⟩:=aJ8 h
  exact ⟨x,hx⟩
 have hc:decide ((m.code.length:Int)=0)=decide (m.code=[]):=by
  cases m.code<;>simp
  omega
 unfold aG4
 rw [bL4 N J3 3 m.name hN b57 bK0,cC0,b62 bP3]
 cases hi:ixN m.name K3 with
 |none=>rfl
 |some i =>
  obtain ⟨x,hx⟩:=hl i hi
  have e3:M7 J3.classes 3=some ⟨⟨#[73,110,116]⟩,0,0,K3⟩:=rfl
  simp only [Option.bind_some,e3,aA4,hx,decide_eq_true (Int.natCast_nonneg i),cond_true,hc]
  by_cases q1:x.prim=m.prim
  ·by_cases q2:m.args=1
   ·by_cases q3:m.temps=0
    ·simp [q1,q2,q3]
    ·simp [q1,q2,q3]
   ·simp [q1,q2]
  ·have q1':¬m.prim=x.prim:=fun e=>q1 e.symm
   simp [q1,q1']
theorem bN9 {m:Me} (h:K3.any (fun p=>decide (p.name=m.name) && decide (p.prim=m.prim))=true):m.prim≠0∧∃p∈K3,p.name=m.name∧p.prim=m.prim:=by
 obtain ⟨p,hp,h⟩:=List.any_eq_true.1 h
 simp only [Bool.and_eq_true,decide_eq_true_eq] at h
 have hz:∀q∈K3,q.prim≠0:=by decide
 exact ⟨by rw [←h.2]; exact hz p hp,p,hp,h⟩
theorem bK5 (N:Nat) (w:Wd) (k:Nat) (c:Cl) (hN:4194304≤N) (hs:aO4 w) (hc:c∈w.classes):∀(l:List Me) (j:Nat),l=c.methods.drop j→V8 N w J3 k c l j=aB3 N w k c.methods l j
 |[],j,_=>rfl
 |m::l,j,h=>by
  obtain ⟨hm,hl,hlt⟩:=F8 h
  have hlt:=of_decide_eq_true hlt
  have hml:=(hs.2.2.1 c hc).1
  have ih:=bK5 N w k c hN hs hc l (j+1) hl
  have ep:((bif decide ((0:Int) < (j:Int)) then ((M7 c.methods (wr ((j:Int) - (1:Int)))).bind fun x102=>some ((!U9 x102.name m.name))) else some (false)):Option Bool) =
    some (a10 (if j=0 then none else c.methods[j - 1]?) m):=by
   by_cases h0:j=0
   ·subst h0; rfl
   ·have wk:wr ((j:Int) - 1)=((j - 1:Nat):Int):=by rw [Q9 (by unfold z8; omega)]; omega
    obtain ⟨p,hp⟩:∃p,c.methods[j - 1]?=some p:=⟨_,List.getElem?_eq_getElem (by omega)⟩
    rw [decide_eq_true (show (0:Int) < (j:Int) by omega),if_neg h0]
    simp only [cond_true,wk,aA4,hp,Option.bind_some,a10]
  have eq:((bif (!decide (m.prim=(0:Int))) then (bif decide ((k:Int)=(3:Int)) then ((aG4 N J3 m).bind fun r110=>some (r110)) else some (false)) else some (false)):Option Bool)=some (aV3 k m):=by
   rw [b86 N (by omega) m]
   unfold aV3
   by_cases h3:k=3
   ·have h3':(k:Int)=3:=by omega
    cases ha:K3.any (fun p=>decide (p.name=m.name) && decide (p.prim=m.prim)) with
    |true =>
     have:=(bN9 ha).1
     simp [h3,this]
    |false =>
     by_cases hz:m.prim=0<;>simp [h3,hz]
   ·have h3':¬(k:Int)=3:=by omega
    by_cases hz:m.prim=0<;>simp [h3,h3',hz]
  rw [V8,ep,eq,bL9 N w _ _ (by omega) hs.1,aB3]
  unfold aW0
  simp only [Option.bind_some,ih]
  cases a10 (if j=0 then none else c.methods[j - 1]?) m with
  |true=>simp
  |false =>
   cases aV3 k m with
   |true=>simp
   |false =>
    simp only [cond_false]
    obtain ⟨f,hf⟩:=a88 N w (k:Int) m hN
    rw [hf]
    simp only [Option.bind_some,Option.map_some]
    by_cases he:f.err=0
    ·simp [he]
    ·simp [he]
theorem bJ5 (N:Nat) (w:Wd) (hN:4194304≤N) (hs:aO4 w):∀(l:List Cl) (k:Nat),l=w.classes.drop k→V6 N w J3 l k=aC4 N w l k
 |[],k,_=>rfl
 |c::l,k,h=>by
  obtain ⟨hc,hl,hlt⟩:=F8 h
  rw [V6,aJ4 N w _ (by omega) hs.1,aC4,bK5 N w k c hN hs (List.mem_of_getElem? hc) c.methods 0 rfl]
  simp only [Option.bind_some,bJ5 N w hN hs l (k+1) hl]
  rfl
theorem bQ9 (N:Nat) (w:Wd):∀(l:List V) (k:Nat),Y7 N w l k=some (aH0 (w.heap.length:Int) l)
 |[],k=>rfl
 |v::l,k=>by
  rw [Y7,bH7,aH0]
  simp only [Option.bind_some,bQ9 N w l (k+1)]
  by_cases h:aU2 v (w.heap.length:Int)=0<;>simp [h]
theorem bS4 (N:Nat) (w:Wd) (hN:1048578≤N) (hs:w.classes.length≤1048576) (h4:4≤w.classes.length):∀(l:List Ob) (k:Nat),Y4 N w l k=some (aE0 w l)
 |[],k=>rfl
 |o::l,k=>by
  rw [Y4,aJ4 N w _ hN hs,aE0,bQ9]
  simp only [Option.bind_some,bS4 N w hN hs h4 l (k+1)]
  have e:((bif (!decide (o.cls=(0:Int))) then (bif decide (o.cls < (4:Int)) then some (true) else (bif decide ((w.classes.length:Int)≤o.cls) then some (true) else some ((!decide ((o.slots.length:Int)=aB0 w o.cls))))) else some ((!decide ((o.slots.length:Int)=aB0 w o.cls)))):Option Bool)=some (obB w o):=by
   unfold obB
   by_cases q1:o.cls=0
   ·simp [q1]
   ·by_cases q2:o.cls < 4
    ·simp [q1,q2]
    ·by_cases q3:(w.classes.length:Int)≤o.cls<;>simp [q1,q2,q3]
  rw [e]
  simp only [Option.bind_some]
  cases obB w o with
  |true=>rfl
  |false =>
   simp only [cond_false]
   cases aH0 (w.heap.length:Int) o.slots<;>rfl
theorem aL3 (N:Nat) (w:Wd) (hN:4194304≤N) (hs:aO4 w):P8 N w=aP3 N w:=by
 unfold P8 aP3 aZ1
 have e1:((bif decide ((w.classes.length:Int) < (J3.classes.length:Int)) then some (true) else (bif decide ((12:Int) < (w.classes.length:Int)) then some (true) else some (decide ((60:Int) < (w.heap.length:Int))))):Option Bool)=some (decide ((w.classes.length:Int) < 4) || (decide (12 < (w.classes.length:Int)) || decide (60 < (w.heap.length:Int)))):=by
  rw [bD2]
  have:((4:Nat):Int)=4:=rfl
  rw [this]
  by_cases q1:(w.classes.length:Int) < 4
  ·simp [q1]
  ·by_cases q2:(12:Int) < (w.classes.length:Int)<;>simp [q1,q2]
 have e2:((bif decide (w.epoch < (0:Int)) then some (true) else some (decide ((1073741824:Int) < w.epoch))):Option Bool)=some (decide (w.epoch < 0) || decide (1073741824 < w.epoch)):=by
  by_cases q1:w.epoch < 0<;>simp [q1]
 simp only [Option.bind_some,e1,e2]
 cases hm:(decide ((w.classes.length:Int) < 4) || (decide (12 < (w.classes.length:Int)) || decide (60 < (w.heap.length:Int)))) with
 |true=>rfl
 |false =>
  have h4:4≤w.classes.length:=by
   simp only [Bool.or_eq_false_iff,decide_eq_false_iff_not] at hm
   omega
  simp only [cond_false]
  cases (decide (w.epoch < 0) || decide (1073741824 < w.epoch)) with
  |true=>rfl
  |false =>
   simp only [cond_false,bJ1 N w hs.1 w.classes 0 [] rfl (Nat.le_refl _) (fun s=>rfl),bJ5 N w hN hs w.classes 0 rfl,aQ8,bS4 N w (by omega) hs.1 h4 w.heap 0,Option.bind_some]
   cases aE1 w w.classes 0 with
   |ret r=>rfl
   |next u =>
    cases aC4 N w w.classes 0 with
    |none=>rfl
    |some o =>
     cases o with
     |ret r=>rfl
     |next u =>
      simp only [Option.bind_some]
      cases aE0 w w.heap<;>rfl
theorem a81 (N:Nat) (w:Wd) (k:Nat) (ms:List Me) (hN:4194304≤N):∀(l:List Me) (j:Nat),∃o,aB3 N w k ms l j=some o
 |[],j=>⟨_,rfl⟩
 |m::l,j=>by
  obtain ⟨e,he⟩:∃e,aW0 N w k (if j=0 then none else ms[j - 1]?) m=some e:=by
   unfold aW0
   obtain ⟨f,hf⟩:=a88 N w (k:Int) m hN
   rw [hf]
   cases a10 (if j=0 then none else ms[j - 1]?) m with
   |true=>exact ⟨_,rfl⟩
   |false=>cases aV3 k m<;>exact ⟨_,rfl⟩
  rw [aB3,he]
  simp only [Option.bind_some]
  cases decide (e=0) with
  |true=>exact a81 N w k ms hN l (j+1)
  |false=>exact ⟨_,rfl⟩
theorem a94 (N:Nat) (w:Wd) (hN:4194304≤N):∀(l:List Cl) (k:Nat),∃o,aC4 N w l k=some o
 |[],k=>⟨_,rfl⟩
 |c::l,k=>by
  rw [aC4]
  cases decide (6 < aB0 w (k:Int)) with
  |true=>exact ⟨_,rfl⟩
  |false =>
   cases decide (8 < (c.methods.length:Int)) with
   |true=>exact ⟨_,rfl⟩
   |false =>
    obtain ⟨o,ho⟩:=a81 N w k c.methods hN c.methods 0
    simp only [cond_false,ho,Option.bind_some]
    cases o with
    |ret r=>exact ⟨_,rfl⟩
    |next u=>exact a94 N w hN l (k+1)
theorem bT6 (N:Nat) (w:Wd) (hN:4194304≤N):∃r,aP3 N w=some r:=by
 obtain ⟨o,ho⟩:=a94 N w hN w.classes 0
 unfold aP3
 rw [ho]
 cases (decide ((w.classes.length:Int) < 4) || (decide (12 < (w.classes.length:Int)) || decide (60 < (w.heap.length:Int)))) with
 |true=>exact ⟨_,rfl⟩
 |false =>
  cases (decide (w.epoch < 0) || decide (1073741824 < w.epoch)) with
  |true=>exact ⟨_,rfl⟩
  |false =>
   simp only [cond_false]
   cases aE1 w w.classes 0 with
   |ret r=>exact ⟨_,rfl⟩
   |next u =>
    simp only [Option.bind_some]
    cases o with
    |ret r=>exact ⟨_,rfl⟩
    |next u=>cases aE0 w w.heap<;>exact ⟨_,rfl⟩
end Go.Proofs.YtibjcppjfkamhaaDoor
