import Derived.Test.YtkecefjmcimemaaPl15
/- Plain laws: what is right is told so. No program in sight. -/
namespace Go.Proofs.Ytkecefjmcimemaa
open Go.RowKit
set_option linter.unusedVariables false
theorem Right_l2_next (N:Nat) (x:Cl):∀(l:List Cl) (k:Nat),(∀d∈l,d.name≠x.name)→qcref1_Right_l2 N x l k=some (.next ())
 |[],k,_=>rfl
 |d::l,k,h=>by
  rw [qcref1_Right_l2,decide_eq_false (h d (by simp))]
  exact Right_l2_next N x l (k+1) fun e he=>h e (by simp [he])
theorem Right_l1_next (N:Nat) (w:Wd) (H:∀j c,w.classes[j]?=some c→clsOk w j c):∀(l:List Cl) (k:Nat),l=w.classes.drop k→qcref1_Right_l1 N w newW l k=some (.next ())
 |[],k,h=>rfl
 |c::l,k,h=>by
  obtain ⟨hc,hl,hlt⟩:=restCons h
  have hlt:=of_decide_eq_true hlt
  obtain ⟨hn,hd,h4,h4',hs0,hs6⟩:=H k c hc
  have ih:=Right_l1_next N w H l (k+1) hl
  rw [qcref1_Right_l1,qcref1_Name_eq,hn]
  have hg:(decide (0≤(k:Int)) && decide ((k:Int)≤(w.classes.length:Int)))=true:=by simp only [Bool.and_eq_true,decide_eq_true_eq]; omega
  have h2:=Right_l2_next N c (w.classes.take (k:Int).toNat) 0 (by simpa using hd)
  simp only [Option.bind_some,Bool.not_true,cond_false,hg,cond_true,h2]
  by_cases hk:k < 4
  ·obtain ⟨f,hf,e1,e2,e3⟩:=h4 hk
   rw [decide_eq_true (show (k:Int) < 4 by omega)]
   simp only [cond_true,nthO_nat,hf,Option.bind_some,e1,e2,e3,decide_true,Bool.not_true,cond_false]
   exact ih
  ·obtain ⟨e1,e2,e3⟩:=h4' (by omega)
   rw [decide_eq_false (show ¬(k:Int) < 4 by omega)]
   simp only [cond_false,Option.bind_some]
   rw [decide_eq_false (show ¬c.super < 0 by omega),decide_eq_false (show ¬(k:Int)≤c.super by omega)]
   have e4:((bif decide ((0:Int) < c.super) then some (decide (c.super < (4:Int))) else some (false)):Option Bool)=some false:=by
    by_cases h5:0 < c.super
    ·rw [decide_eq_true h5,decide_eq_false (show ¬c.super < 4 by have:=e3 h5; omega)]; rfl
    ·rw [decide_eq_false h5]; rfl
   simp only [cond_false,e4,Option.bind_some]
   rw [decide_eq_false (show ¬c.slots < 0 by omega),decide_eq_false (show ¬6 < c.slots by omega)]
   exact ih
theorem Right_l5_true (N:Nat) (k:Nat) (m:Me):∀(l:List Me) (j:Nat),qcref1_Right_l5 N k m l j true=some true
 |[],j=>rfl
 |p::l,j=>by
  rw [qcref1_Right_l5]
  exact Right_l5_true N k m l (j+1)
theorem Right_l5_prim (N:Nat) (m:Me) (h1:m.args=1) (h2:m.temps=0) (h3:m.code=[]):∀(l:List Me) (j:Nat),(∃p∈l,p.name=m.name∧p.prim=m.prim)→qcref1_Right_l5 N 3 m l j false=some true
 |[],j,h=>by obtain ⟨p,hp,_⟩:=h; cases hp
 |q::l,j,h=>by
  rw [qcref1_Right_l5]
  by_cases a:q.name=m.name
  ·by_cases b:q.prim=m.prim
   ·simp only [a,b,h1,h2,h3,cond_false,decide_true,cond_true]
    exact Right_l5_true N 3 m l (j+1)
   ·have:∃p∈l,p.name=m.name∧p.prim=m.prim:=by
     obtain ⟨p,hp,e⟩:=h
     rcases List.mem_cons.1 hp with rfl|hp
     ·exact absurd e.2 b
     ·exact ⟨p,hp,e⟩
    simp only [a,b,cond_false,decide_true,decide_false,cond_true]
    exact Right_l5_prim N m h1 h2 h3 l (j+1) this
  ·have:∃p∈l,p.name=m.name∧p.prim=m.prim:=by
    obtain ⟨p,hp,e⟩:=h
    rcases List.mem_cons.1 hp with rfl|hp
    ·exact absurd e.1 a
    ·exact ⟨p,hp,e⟩
   simp only [a,cond_false,decide_false]
   exact Right_l5_prim N m h1 h2 h3 l (j+1) this
theorem Right_l4_next (N:Nat) (w:Wd) (k:Nat) (c:Cl) (hN:4194304≤N) (hs:SmallW w) (hc:c∈w.classes) (hr:Rise c.methods) (hm:∀m∈c.methods,meOk N w k m):∀(l:List Me) (j:Nat),l=c.methods.drop j→qcref1_Right_l4 N w newW k c l j=some (.next ())
 |[],j,h=>rfl
 |m::l,j,h=>by
  obtain ⟨hmj,hl,hlt⟩:=restCons h
  have hlt:=of_decide_eq_true hlt
  have hml:=(hs.2.2.1 c hc).1
  have ih:=Right_l4_next N w k c hN hs hc hr hm l (j+1) hl
  have h3:nthO newW.classes 3=some ⟨⟨#[73,110,116]⟩,0,0,newMs⟩:=rfl
  have hcl:=(hs.2.2.1 c hc).2 m (List.mem_of_getElem? hmj)
  obtain ⟨b,hb1,hb2⟩:=Right_l5_good N k m newMs 0 false (fun p hp=>hp) (fun h=>by cases h)
  obtain ⟨f,hf⟩:=qcref1_Check_some N w (k:Int) m hN hs.1 hcl
  rw [qcref1_Right_l4]
  have e0:((bif decide ((0:Int) < (j:Int)) then ((nthO c.methods (wr ((j:Int) - (1:Int)))).bind fun x97=>some ((!ltS x97.name m.name))) else some (false)):Option Bool)=some false:=by
   by_cases h0:0 < j
   ·have wk:wr ((j:Int) - 1)=((j - 1:Nat):Int):=by rw [wr_in (by unfold InR; omega)]; omega
    obtain ⟨p,hp⟩:∃p,c.methods[j - 1]?=some p:=⟨_,List.getElem?_eq_getElem (by omega)⟩
    have hlt:=rise_at hr hp hmj (by omega)
    rw [decide_eq_true (show (0:Int) < (j:Int) by omega)]
    simp only [cond_true,wk,nthO_nat,hp,Option.bind_some,hlt,Bool.not_true]
   ·rw [decide_eq_false (show ¬(0:Int) < (j:Int) by omega)]; rfl
  simp only [e0,h3,hb1,hf,Option.bind_some,cond_false]
  rcases hm m (List.mem_of_getElem? hmj) with ⟨h5,p,hp,a1,a2,a3,a4,a5⟩|⟨f',h5,h6⟩
  ·subst h5
   have:=Right_l5_prim N m a3 a4 a5 newMs 0 ⟨p,hp,a1,a2⟩
   rw [hb1] at this
   cases this
   simp only [Bool.not_true,cond_false,Option.bind_some]
   exact ih
  ·rw [hf] at h5
   cases h5
   cases b with
   |true=>simp only [Bool.not_true,cond_false,Option.bind_some]; exact ih
   |false=>simp only [Bool.not_false,cond_true,Option.bind_some,h6,decide_true,Bool.not_true,cond_false]; exact ih
theorem Right_l3_next (N:Nat) (w:Wd) (hN:4194304≤N) (hs:SmallW w) (H:∀(j:Nat) c,w.classes[j]?=some c→slotsN w (j:Int)≤6∧c.methods.length≤8∧Rise c.methods∧∀m∈c.methods,meOk N w j m):∀(l:List Cl) (k:Nat),l=w.classes.drop k→qcref1_Right_l3 N w newW l k=some (.next ())
 |[],k,h=>rfl
 |c::l,k,h=>by
  obtain ⟨hc,hl,hlt⟩:=restCons h
  have ih:=Right_l3_next N w hN hs H l (k+1) hl
  obtain ⟨h1,h2,h3,h4⟩:=H k c hc
  rw [qcref1_Right_l3,qcref1_Slots_eq N w (k:Int) (by omega) hs.1]
  simp only [Option.bind_some]
  rw [decide_eq_false (show ¬6 < slotsN w (k:Int) by omega),decide_eq_false (show ¬(8:Int) < (c.methods.length:Int) by omega)]
  simp only [cond_false,Right_l4_next N w k c hN hs (List.mem_of_getElem? hc) h3 h4 c.methods 0 rfl,Option.bind_some]
  exact ih
theorem Right_l7_next (N:Nat) (w:Wd):∀(l:List V) (k:Nat),(∀v∈l,wrongN v (w.heap.length:Int)=0)→qcref1_Right_l7 N w l k=some (.next ())
 |[],k,_=>rfl
 |v::l,k,h=>by
  rw [qcref1_Right_l7,qcref1_Wrong_eq]
  simp only [Option.bind_some,h v (by simp),decide_true,Bool.not_true,cond_false]
  exact Right_l7_next N w l (k+1) fun u hu=>h u (by simp [hu])
theorem Right_l6_next (N:Nat) (w:Wd) (hN:4194304≤N) (hs:SmallW w):∀(l:List Ob) (k:Nat),(∀o∈l,obOk w o)→qcref1_Right_l6 N w l k=some (.next ())
 |[],k,_=>rfl
 |o::l,k,h=>by
  obtain ⟨a1,a2,a3,a4,a5⟩:=h o (by simp)
  have ih:=Right_l6_next N w hN hs l (k+1) fun x hx=>h x (by simp [hx])
  have hsl:=qcref1_Slots_eq N w o.cls (by omega) hs.1
  rw [qcref1_Right_l6]
  simp only [hsl,Right_l7_next N w o.slots 0 a5,Option.bind_some]
  rw [decide_eq_false (show ¬o.cls < 0 by omega),decide_eq_false (show ¬(w.classes.length:Int)≤o.cls by omega)]
  by_cases h2:0 < o.cls
  ·rw [decide_eq_true h2,decide_eq_false (show ¬o.cls < 4 by have:=a2 h2; omega)]
   simp only [a4,decide_true,Bool.not_true,cond_true,cond_false,Option.bind_some]
   exact ih
  ·rw [decide_eq_false h2]
   simp only [a4,decide_true,Bool.not_true,cond_false,Option.bind_some]
   exact ih
theorem Right_of (N:Nat) (w:Wd) (hN:4194304≤N) (hs:SmallW w) (h:RightP N w):qcref1_Right N w=some 0:=by
 obtain ⟨⟨m1,m2,m3⟩,⟨e1,e2⟩,hc,hm,ho⟩:=h
 unfold qcref1_Right qcref1_New
 simp only [Option.bind_some]
 rw [decide_eq_false (show ¬(w.classes.length:Int) < 4 by omega),decide_eq_false (show ¬(12:Int) < (w.classes.length:Int) by omega),decide_eq_false (show ¬(60:Int) < (w.heap.length:Int) by omega),
  decide_eq_false (show ¬w.epoch < 0 by omega),decide_eq_false (show ¬1073741824 < w.epoch by omega)]
 simp only [cond_false,Option.bind_some,Right_l1_next N w hc w.classes 0 rfl,Right_l3_next N w hN hs hm w.classes 0 rfl,Right_l6_next N w hN hs w.heap 0 ho]
end Go.Proofs.Ytkecefjmcimemaa
