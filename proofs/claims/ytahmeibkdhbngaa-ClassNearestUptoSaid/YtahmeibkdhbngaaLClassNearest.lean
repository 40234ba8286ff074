/- The plain law of qclaw2.ClassNearest. No program in sight. -/
import Derived.Test.YtahmeibkdhbngaaPl50
namespace Go.Proofs.Ytahmeibkdhbngaa
open Go.RowKit
set_option linter.unusedVariables false
set_option maxRecDepth 100000 in
theorem aV2 : aA4 4194304=some true:=by kernel_rfl
theorem Z9 (N:Nat) (s:ByteArray) (p:Int×Int) (at_:Int):∀(ms:List Me) (k:Nat) (b:Bool),aM4 ms→(b=true→∀m∈ms,m.name≠s)→(∀i:Nat,U9 s ms=some i→p=(at_,((k+i:Nat):Int))) →
  D7 N s p at_ ms k b=some (.next (b || (U9 s ms).isSome))
 |[],k,b,_,_,_=>by simp [D7,U9]
 |x::r,k,b,hr,hb,h=>by
  obtain ⟨hr1,hr2⟩:=List.pairwise_cons.1 hr
  rw [D7]
  by_cases e:x.name=s
  ·have hb':b=false:=by
    cases b with
    |false=>rfl
    |true=>exact absurd e (hb rfl x (by simp))
   have hp:=h 0 (by simp [U9,e])
   have hne:∀y∈r,y.name≠s:=fun y hy q=>by have:=hr1 y hy; rw [e,q,aP3] at this; cases this
   subst hb'
   simp only [e,hp,Nat.add_zero,decide_true,cond_true,cond_false,Option.bind_some,Bool.not_true]
   rw [Z9 N s (at_,(k:Int)) at_ r (k+1) true hr2 (fun _=>hne) (fun i hi=>absurd hi (by
    intro q; obtain ⟨m,q1,q2⟩:=aF1 q; exact hne m (List.mem_of_getElem? q1) q2))]
   simp [U9,e]
  ·simp only [e,decide_false,cond_false,Option.bind_some]
   have e2:(U9 s (x::r)).isSome=(U9 s r).isSome:=by rw [U9,if_neg e]; cases U9 s r<;>rfl
   have e3:(bif b then some true else some false:Option Bool)=some b:=by cases b<;>rfl
   rw [e3]
   simp only [Option.bind_some]
   rw [Z9 N s p at_ r (k+1) b hr2 (fun q m hm=>hb q m (by simp [hm])) (fun i hi=>by
    have:=h (i+1) (by rw [U9,if_neg e,hi]; rfl)
    rw [this,Nat.add_assoc,Nat.add_comm 1 i]),e2]
theorem aG9 (N:Nat) (w:Wd) (s:ByteArray) (p:Int×Int) (hw:bF4 w) (hsup:∀(j:Nat) c,w.classes[j]?=some c→c.super < (j:Int)):∀(n:Nat) (m:Nat) (at_:Int),(aB4 w s m at_).getD (-1,-1)=p→at_ < n→at_ < m →
  ∃o,y8 N w s p (n+1) at_=some o∧(match o with|.ret r=>r=true|.next ()=>p=(-1,-1))
 |n,0,at_,h,h1,h2=>by
  rw [y8]
  have:¬0≤at_:=by omega
  exact ⟨.next (),by simp [this],by rw [←h]; rfl⟩
 |n,m+1,at_,h,h1,h2=>by
  rw [y8]
  rw [aB4] at h
  by_cases g1:0≤at_
  ·by_cases g2:at_ < (w.classes.length:Int)
   ·obtain ⟨x,hx,hx'⟩:=aV7 (l:=w.classes) g1 g2
    have hr:=hw x (List.mem_of_getElem? hx)
    simp only [g1,if_true,hx] at h
    simp only [g1,g2,hx',decide_true,cond_true,Option.bind_some]
    rw [Z9 N s p at_ x.methods 0 false hr (fun q=>by cases q) (fun i hi=>by
     rw [hi] at h; simp only [Option.getD_some] at h; rw [←h,Nat.zero_add])]
    simp only [Option.bind_some,Bool.false_or]
    cases hi:U9 s x.methods with
    |some i=>exact ⟨.ret true,rfl,rfl⟩
    |none =>
     rw [hi] at h
     have hs:=hsup at_.toNat x hx
     cases n with
     |zero=>omega
     |succ n =>
      simp only [Option.isSome_none,cond_false]
      exact aG9 N w s p hw hsup n m x.super h (by omega) (by omega)
   ·have:w.classes[at_.toNat]?=none:=List.getElem?_eq_none (by omega)
    simp only [g1,if_true,this] at h
    exact ⟨.next (),by simp [g1,g2],by rw [←h]; rfl⟩
  ·simp only [g1,if_false] at h
   exact ⟨.next (),by simp [g1],by rw [←h]; rfl⟩
theorem aZ1 (a0:Wd) (a1:Int) (a2:ByteArray) (h0:b37 a0) (h1:okI a1) (h2:okS a2) (hb:bA8 a0+bkI a1+bkS a2≤1048576):∃N,Q7 N a0 a1 a2=some true:=by
 obtain ⟨N,hNe⟩:∃N:Nat,N=4194304:=⟨_,rfl⟩
 have hal:aA4 N=some true:=by rw [hNe]; exact aV2
 have hN:4194304≤N:=by omega
 refine ⟨N,?_⟩
 have hs:=bT8 (w:=a0) (by omega)
 unfold Q7
 rw [hal]
 obtain ⟨r,hr,hp⟩:=bO0 N a0 hN hs
 simp only [Option.bind_some,Bool.not_true,cond_false]
 rw [hr]
 simp only [Option.bind_some]
 by_cases h:r=0
 ·have hp:=hp h
  have hw:=hp.rise
  simp only [h,decide_true,Bool.not_true,cond_false,bE1 N a0 a1 a2 (by omega) hw hs,Option.bind_some]
  obtain ⟨M,hM⟩:∃M,N=M+1:=⟨N - 1,by omega⟩
  have hsup:∀(j:Nat) c,a0.classes[j]?=some c→c.super < (j:Int):=fun j c hc=>by
   have q:=(hp.cls j c hc).2.2
   by_cases g:j < 4
   ·obtain ⟨f,f1,_,f2,_⟩:=q.1 g
    rw [f2]
    have:j=0∨j=1∨j=2∨j=3:=by omega
    rcases this with e|e|e|e<;>subst e<;>cases f1<;>decide
   ·exact (q.2.1 (by omega)).2.1
  by_cases g:a1 < (a0.classes.length:Int)
  ·obtain ⟨o,ho,hq⟩:=aG9 N a0 a2 (aQ0 a0 a2 a1) hw hsup M (a0.classes.length+1) a1 rfl (by have:=hs.1; omega) (by omega)
   rw [←hM] at ho
   rw [ho]
   cases o with
   |ret r=>simp only [Option.bind_some]; rw [show r=true from hq]
   |next u=>simp only [Option.bind_some]; rw [show aQ0 a0 a2 a1=(-1,-1) from hq]; rfl
  ·have ho:y8 N a0 a2 (aQ0 a0 a2 a1) N a1=some (.next ()):=by
    conv=>lhs; arg 5; rw [hM]
    rw [y8]
    simp [g]
   have hf:aQ0 a0 a2 a1=(-1,-1):=by
    unfold aQ0
    rw [aB4]
    by_cases g1:0≤a1
    ·rw [if_pos g1,List.getElem?_eq_none (by omega)]; rfl
    ·rw [if_neg g1]; rfl
   rw [ho,hf]
   rfl
 ·simp only [h,decide_false,Bool.not_false,cond_true]
end Go.Proofs.Ytahmeibkdhbngaa
