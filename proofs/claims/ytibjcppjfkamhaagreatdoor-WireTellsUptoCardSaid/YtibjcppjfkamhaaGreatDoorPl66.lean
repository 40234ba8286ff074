import Derived.Test.YtibjcppjfkamhaaGreatDoorPl65
/- Plain laws: the reference says the same wrong of a world. No program in sight. -/
namespace Go.Proofs.YtibjcppjfkamhaaGreatDoor
open Go.RowKit
set_option linter.unusedVariables false
theorem bK2 (N:Nat) (x:Cl):∀(l:List Cl) (k:Nat),Y2 N x l k=some (bif aW0 l x.name then .ret 7 else .next ())
 |[],k=>rfl
 |d::l,k=>by
  rw [Y2,bK2 N x l (k+1)]
  unfold aW0
  rw [List.any_cons]
  by_cases h:d.name=x.name<;>simp [h]
theorem bI9 (N:Nat) (w:Wd):∀(l:List Cl) (k:Nat),l=w.classes.drop k→X0 N w U1 l k=some (aI7 w l k)
 |[],k,_=>rfl
 |c::l,k,h=>by
  obtain ⟨hc,hl,hlt⟩:=z8 h
  have hlt:=of_decide_eq_true hlt
  have ih:=bI9 N w l (k+1) hl
  have hb:(decide ((0:Int)≤(k:Int)) && decide ((k:Int)≤(w.classes.length:Int)))=true:=by
   simp only [Bool.and_eq_true,decide_eq_true_eq]; omega
  have ek:((k:Int)).toNat=k:=by omega
  rw [X0,aQ9,aI7]
  simp only [hb,ek,bK2,ih,Option.bind_some,cond_true]
  unfold aU9 b56 bT4
  generalize aW0 (w.classes.take k) c.name=g
  cases hn:aA7 c.name with
  |false=>simp
  |true =>
   cases hf:U1.classes[k]? with
   |some f =>
    have hk:=cH3 hf
    have e1:decide ((k:Int) < (4:Int))=true:=decide_eq_true (by omega)
    simp only [e1,K4,hf,Option.bind_some,cond_true,cond_false,Bool.not_true,Bool.false_or]
    by_cases q1:c.name=f.name
    ·cases g with
     |true=>simp [q1]
     |false =>
      by_cases q2:c.super=f.super
      ·by_cases q4:c.slots < 0
       ·have:¬c.slots=0:=by omega
        simp [q1,q2,q4,this]
       ·by_cases q5:0 < c.slots
        ·have:¬c.slots=0:=by omega
         simp [q1,q2,q4,q5,this]
        ·have:c.slots=0:=by omega
         simp [q1,q2,this]
      ·simp [q1,q2]
    ·simp [q1]
   |none =>
    have hk:=cG1 hf
    have e1:decide ((k:Int) < (4:Int))=false:=decide_eq_false (by omega)
    simp only [e1,Option.bind_some,cond_true,cond_false,Bool.not_true,Bool.false_or]
    cases g with
    |true=>simp
    |false =>
     by_cases q1:c.super < 0
     ·simp [q1]
     ·by_cases q2:(k:Int)≤c.super
      ·simp [q1,q2]
      ·by_cases q3:c.super=0
       ·have hk0:¬k=0:=by omega
        by_cases q4:c.slots < 0
        ·simp [hk0,q2,q3,q4]
        ·by_cases q5:6 < c.slots<;>simp [hk0,q2,q3,q4,q5]
       ·have q3':0 < c.super:=by omega
        by_cases q6:c.super < 4
        ·simp [q1,q2,q3,q3',q6]
        ·by_cases q4:c.slots < 0
         ·simp [q1,q2,q3,q3',q4,q6]
         ·by_cases q5:6 < c.slots<;>simp [q1,q2,q3,q3',q4,q5,q6]
theorem bJ4 (N:Nat) (k:Nat) (m:Me):∀(l:List Me) (j:Nat) (b:Bool),P9 N k m l j b=some (b || (decide (k=3) && (l.any (fun p=>decide (p.name=m.name) && decide (p.prim=m.prim)) && (decide (m.args=1) && (decide (m.temps=0) && decide (m.code=[]))))))
 |[],j,b=>by simp [P9]
 |x::l,j,b=>by
  have hc:decide ((m.code.length:Int)=0)=decide (m.code=[]):=by
   cases m.code<;>simp
   omega
  have hk:decide ((k:Int)=3)=decide (k=3):=by
   by_cases h:k=3
   ·subst h; rfl
   ·rw [decide_eq_false h,decide_eq_false (by omega)]
  rw [P9,hc,hk,List.any_cons]
  simp only [bJ4 N k m l (j+1)]
  generalize decide (k=3)=d1
  generalize decide (x.name=m.name)=d2
  generalize decide (x.prim=m.prim)=d3
  generalize decide (m.args=1)=d4
  generalize decide (m.temps=0)=d5
  generalize decide (m.code=[])=d6
  generalize (l.any fun p=>decide (p.name=m.name) && decide (p.prim=m.prim))=d7
  cases b<;>cases d1<;>cases d2<;>cases d3<;>cases d4<;>cases d5<;>cases d6<;>cases d7<;>rfl
theorem bJ7 (N:Nat) (w:Wd) (k:Nat) (c:Cl) (hN:4194304≤N) (hs:aJ0 w) (hc:c∈w.classes) (hsl:0≤I4 w (k:Int)∧I4 w (k:Int)≤1000000000):∀(l:List Me) (j:Nat),l=c.methods.drop j→Y5 N w U1 k c l j=aJ8 N w k c.methods l j
 |[],j,_=>rfl
 |m::l,j,h=>by
  obtain ⟨hm,hl,hlt⟩:=z8 h
  have hlt:=of_decide_eq_true hlt
  have hml:=(hs.2.2.1 c hc).1
  have ih:=bJ7 N w k c hN hs hc hsl l (j+1) hl
  have ep:((bif decide ((0:Int) < (j:Int)) then ((F5 c.methods (wr ((j:Int) - (1:Int)))).bind fun x97=>some ((!ltS x97.name m.name))) else some (false)):Option Bool) =
    some (aU5 (if j=0 then none else c.methods[j - 1]?) m):=by
   by_cases h0:j=0
   ·subst h0; rfl
   ·have wk:wr ((j:Int) - 1)=((j - 1:Nat):Int):=by rw [O3 (by unfold D6; omega)]; omega
    obtain ⟨p,hp⟩:∃p,c.methods[j - 1]?=some p:=⟨_,List.getElem?_eq_getElem (by omega)⟩
    rw [decide_eq_true (show (0:Int) < (j:Int) by omega),if_neg h0]
    simp only [cond_true,wk,K4,hp,Option.bind_some,aU5]
  have e3:F5 U1.classes (3:Int)=some ⟨⟨#[73,110,116]⟩,0,0,Q0⟩:=rfl
  have e5:P9 N k m Q0 0 false=some (aV1 k m):=by rw [bJ4]; rfl
  obtain ⟨f,hf⟩:=a01 N w (k:Int) m hN
  rw [Y5,ep,e3,bP9 N w _ _ (by omega) hs.1 hsl,hf,aJ8]
  unfold aZ1
  simp only [Option.bind_some,ih,e5,hf,Option.map_some]
  cases aU5 (if j=0 then none else c.methods[j - 1]?) m with
  |true=>simp
  |false =>
   cases aV1 k m with
   |true=>simp
   |false=>by_cases he:f.err=0<;>simp [he]
theorem bK5 (N:Nat) (w:Wd) (hN:4194304≤N) (hs:aJ0 w) (hsl:∀c:Int,0≤I4 w c∧I4 w c≤1000000000):∀(l:List Cl) (k:Nat),l=w.classes.drop k→V9 N w U1 l k=aL8 N w l k
 |[],k,_=>rfl
 |c::l,k,h=>by
  obtain ⟨hc,hl,hlt⟩:=z8 h
  rw [V9,aP2 N w _ (by omega) hs.1,aL8,bJ7 N w k c hN hs (List.mem_of_getElem? hc) (hsl _) c.methods 0 rfl]
  simp only [Option.bind_some,bK5 N w hN hs hsl l (k+1) hl]
  rfl
theorem bJ2 (N:Nat) (w:Wd):∀(l:List V) (k:Nat),Y7 N w l k=some (aU4 (w.heap.length:Int) l)
 |[],k=>rfl
 |v::l,k=>by
  rw [Y7,bP8,aU4]
  simp only [Option.bind_some,bJ2 N w l (k+1)]
  by_cases h:aS5 v (w.heap.length:Int)=0<;>simp [h]
theorem bJ8 (N:Nat) (w:Wd) (hN:1048578≤N) (hs:w.classes.length≤1048576) (h4:4≤w.classes.length):∀(l:List Ob) (k:Nat),Y0 N w l k=some (aN4 w l)
 |[],k=>rfl
 |o::l,k=>by
  rw [Y0,aP2 N w _ hN hs,aN4,bJ2]
  simp only [Option.bind_some,bJ8 N w hN hs h4 l (k+1)]
  have e:((bif decide (o.cls < (0:Int)) then some (true) else (bif decide ((0:Int) < o.cls) then (bif decide (o.cls < (4:Int)) then some (true) else (bif decide ((w.classes.length:Int)≤o.cls) then some (true) else some ((!decide ((o.slots.length:Int)=I4 w o.cls))))) else (bif decide ((w.classes.length:Int)≤o.cls) then some (true) else some ((!decide ((o.slots.length:Int)=I4 w o.cls)))))):Option Bool)=some (obB w o):=by
   unfold obB
   by_cases q1:o.cls < 0
   ·have:¬o.cls=0:=by omega
    have h2:o.cls < 4:=by omega
    simp [q1,this,h2]
   ·by_cases q0:o.cls=0
    ·have:¬(w.classes.length:Int)≤o.cls:=by omega
     have h0:¬(0:Int) < o.cls:=by omega
     rw [decide_eq_false q1,decide_eq_false h0,decide_eq_false this,decide_eq_true q0]
     rfl
    ·have h0:(0:Int) < o.cls:=by omega
     rw [decide_eq_false q1,decide_eq_true h0,decide_eq_false q0]
     by_cases q2:o.cls < 4
     ·simp [q2]
     ·by_cases q3:(w.classes.length:Int)≤o.cls<;>simp [q2,q3]
  rw [e]
  simp only [Option.bind_some]
  cases obB w o with
  |true=>rfl
  |false =>
   simp only [cond_false]
   cases aU4 (w.heap.length:Int) o.slots<;>rfl
theorem bK3 (N:Nat) (w:Wd) (hN:4194304≤N) (hs:aJ0 w):aA9 N w=a19 N w:=by
 unfold aA9 a19 bB1
 have e1:((bif decide ((w.classes.length:Int) < (4:Int)) then some (true) else (bif decide ((12:Int) < (w.classes.length:Int)) then some (true) else some (decide ((60:Int) < (w.heap.length:Int))))):Option Bool)=some (decide ((w.classes.length:Int) < 4) || (decide (12 < (w.classes.length:Int)) || decide (60 < (w.heap.length:Int)))):=by
  by_cases q1:(w.classes.length:Int) < 4
  ·simp [q1]
  ·by_cases q2:(12:Int) < (w.classes.length:Int)<;>simp [q1,q2]
 have e2:((bif decide (w.epoch < (0:Int)) then some (true) else some (decide ((1073741824:Int) < w.epoch))):Option Bool)=some (decide (w.epoch < 0) || decide (1073741824 < w.epoch)):=by
  by_cases q1:w.epoch < 0<;>simp [q1]
 simp only [Option.bind_some,e1,e2]
 cases hm:(decide ((w.classes.length:Int) < 4) || (decide (12 < (w.classes.length:Int)) || decide (60 < (w.heap.length:Int)))) with
 |true=>rfl
 |false =>
  have h4:4≤w.classes.length:=by
   simp only [Bool.or_eq_false_iff,decide_eq_false_iff_not] at hm
   omega
  simp only [cond_false]
  cases (decide (w.epoch < 0) || decide (1073741824 < w.epoch)) with
  |true=>rfl
  |false =>
   simp only [cond_false,bI9 N w w.classes 0 rfl,bJ8 N w (by omega) hs.1 h4 w.heap 0,Option.bind_some]
   cases hce:aI7 w w.classes 0 with
   |ret r=>rfl
   |next u =>
    have hsl:∀c:Int,0≤I4 w c∧I4 w c≤1000000000:=cG9 (fun x hx=>by
     obtain ⟨j,hj⟩:=List.mem_iff_getElem?.1 hx
     obtain ⟨_,_,_,a4⟩:=b81 (bU5 (k:=0) rfl hce j x (Nat.zero_le _) hj)
     unfold bT4 at a4
     simp only [Bool.or_eq_false_iff,decide_eq_false_iff_not] at a4
     omega) hs.1
    simp only [bK5 N w hN hs hsl w.classes 0 rfl]
    cases aL8 N w w.classes 0 with
    |none=>rfl
    |some o =>
     cases o with
     |ret r=>rfl
     |next u =>
      simp only [Option.bind_some]
      cases aN4 w w.heap<;>rfl
end Go.Proofs.YtibjcppjfkamhaaGreatDoor
