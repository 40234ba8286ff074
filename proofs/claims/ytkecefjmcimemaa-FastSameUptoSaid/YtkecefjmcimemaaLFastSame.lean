/- The plain law of qclaw11.FastSame. No program in sight. -/
import Derived.Test.YtkecefjmcimemaaPl35
namespace Go.Proofs.Ytkecefjmcimemaa
open Go.RowKit
set_option linter.unusedVariables false
theorem cN9 {N:Nat} {w:Wd} {t:List Tl} {c:Nat}:∀(r:List Me) (k:Nat) (f:Fs),f∈all2 N w t c r k↔∃(i:Nat) (m:Me),r[i]?=some m∧(qF w (aM1 N w t) c ((k+i:Nat):Int)).2=true∧f=(qF w (aM1 N w t) c ((k+i:Nat):Int)).1
 |[],k,f=>by simp [all2]
 |x::r,k,f=>by
  rw [all2,List.mem_append,cN9 r (k+1) f]
  constructor
  ·rintro (h|⟨i,m,h1,h2,h3⟩)
   ·unfold bP9 at h
    split at h
    ·rename_i hh
     exact ⟨0,x,rfl,hh,List.mem_singleton.1 h⟩
    ·cases h
   ·exact ⟨i+1,m,by simpa using h1,by rw [show k+(i+1)=k+1+i by omega]; exact h2,by rw [show k+(i+1)=k+1+i by omega]; exact h3⟩
  ·rintro ⟨i,m,h1,h2,h3⟩
   cases i with
   |zero =>
    left
    have e:(bB5 w (c:Int) (k:Int) (aM1 N w t c k)).2=true:=h2
    unfold bP9
    rw [if_pos e]
    exact List.mem_singleton.2 h3
   |succ i=>exact .inr ⟨i,m,by simpa using h1,by rw [show k+1+i=k+(i+1) by omega]; exact h2,by rw [show k+1+i=k+(i+1) by omega]; exact h3⟩
theorem b66 {N:Nat} {w:Wd} {t:List Tl}:∀(r:List Cl) (c:Nat) (f:Fs),f∈aT9 N w t r c↔∃(k:Nat) (x:Cl) (i:Nat) (m:Me),r[k]?=some x∧x.methods[i]?=some m∧(qF w (aM1 N w t) ((c+k:Nat):Int) i).2=true∧f=(qF w (aM1 N w t) ((c+k:Nat):Int) i).1
 |[],c,f=>by simp [aT9]
 |x::r,c,f=>by
  rw [aT9,List.mem_append,cN9,b66 r (c+1) f]
  constructor
  ·rintro (⟨i,m,h1,h2,h3⟩|⟨k,y,i,m,h0,h1,h2,h3⟩)
   ·rw [Nat.zero_add] at h2 h3
    exact ⟨0,x,i,m,rfl,h1,h2,h3⟩
   ·exact ⟨k+1,y,i,m,by simpa using h0,h1,by rw [show c+(k+1)=c+1+k by omega]; exact h2,by rw [show c+(k+1)=c+1+k by omega]; exact h3⟩
  ·rintro ⟨k,y,i,m,h0,h1,h2,h3⟩
   cases k with
   |zero =>
    left
    cases h0
    exact ⟨i,m,h1,by rw [Nat.zero_add]; exact h2,by rw [Nat.zero_add]; exact h3⟩
   |succ k=>exact .inr ⟨k,y,i,m,by simpa using h0,h1,by rw [show c+1+k=c+(k+1) by omega]; exact h2,by rw [show c+1+k=c+(k+1) by omega]; exact h3⟩
theorem c05 (N:Nat) (w:Wd) (t:List Tl):cT3 w (aM1 N w t) (aT9 N w t w.classes 0):=fun f hf=>by
 obtain ⟨k,x,i,m,h0,h1,h2,h3⟩:=(b66 w.classes 0 f).1 hf
 rw [Nat.zero_add] at h2 h3
 exact ⟨k,i,x,m,h0,h1,h2,h3⟩
theorem bH3 {N:Nat} {w:Wd} {S:Int→Int→List Int} (hr:aW6 w) {k j:Int} {x:Cl} {m:Me} (hx:p8 w.classes k=some x) (hm:p8 x.methods j=some m):∀(l:List Fs) (i:Nat),cT3 w S l →
  aD2 N k j w l i=some (.ret (qF w S k j))∨(aD2 N k j w l i=some (.next ())∧∀f∈l,¬(f.cls=k∧f.name=m.name))
 |[],i,_=>.inr ⟨rfl,fun f hf=>by cases hf⟩
 |f::l,i,h=>by
  have ih:=bH3 (N:=N) hr hx hm l (i+1) fun g hg=>h g (by simp [hg])
  rw [aD2]
  by_cases h1:f.cls=k
  ·rw [decide_eq_true h1]
   simp only [cond_true,hx,hm,Option.bind_some]
   by_cases h2:f.name=m.name
   ·have e:=h.one hr hx hm (by simp) h1 h2
    obtain ⟨d1,d2,d3⟩:=b33 hx hm (by rw [e])
    rw [e] at d3
    simp only at d3
    rw [decide_eq_true h2,decide_eq_true d3]
    left
    rw [e]
    rfl
   ·rw [decide_eq_false h2]
    rcases ih with ih|⟨ih,hn⟩
    ·exact .inl ih
    ·exact .inr ⟨ih,fun g hg=>by
      rcases List.mem_cons.1 hg with rfl|hg
      ·exact fun hh=>h2 hh.2
      ·exact hn g hg⟩
  ·rw [decide_eq_false h1]
   rcases ih with ih|⟨ih,hn⟩
   ·exact .inl ih
   ·exact .inr ⟨ih,fun g hg=>by
     rcases List.mem_cons.1 hg with rfl|hg
     ·exact fun hh=>h1 hh.1
     ·exact hn g hg⟩
theorem cI0 {N:Nat} {w:Wd} {t:List Tl} (hr:aW6 w) {k j:Int} {x:Cl} {m:Me} (hx:p8 w.classes k=some x) (hm:p8 x.methods j=some m):aP0 N k j (aT9 N w t w.classes 0) w=some (qF w (aM1 N w t) k j):=by
 unfold aP0
 rcases bH3 (N:=N) hr hx hm (aT9 N w t w.classes 0) 0 (c05 N w t) with h|⟨h,hn⟩
 ·rw [h]; rfl
 ·rw [h]
  cases hq:(qF w (aM1 N w t) k j).2 with
  |false=>rw [dJ0 hx hm hq]; rfl
  |true =>
   obtain ⟨d1,d2,_⟩:=b33 hx hm hq
   obtain ⟨k0,k1⟩:=u6 hx
   obtain ⟨j0,j1⟩:=u6 hm
   refine absurd ⟨d1,d2⟩ (hn _ ((b66 w.classes 0 _).2 ⟨k.toNat,x,j.toNat,m,k1,j1,?_,?_⟩))
   ·rw [Nat.zero_add,Int.toNat_of_nonneg k0,Int.toNat_of_nonneg j0]; exact hq
   ·rw [Nat.zero_add,Int.toNat_of_nonneg k0,Int.toNat_of_nonneg j0]
set_option maxRecDepth 100000 in
theorem cE4 : aQ6 4194304=some true:=by kernel_rfl
theorem cK9 (a0:Wd) (a1:O6) (a2:Int) (a3:(List Tl)) (h0:dL2 a0) (h1:cR5 a1) (h2:okI a2) (h3:(okL c95) a3) (hb:cD6 a0+bZ3 a1+bkI a2+(bkL cK0) a3≤1048576):∃N,aO4 N a0 a1 a2 a3=some true:=by
 obtain ⟨N,hNe⟩:∃N:Nat,N=4194304:=⟨_,rfl⟩
 have hal:aQ6 N=some true:=by rw [hNe]; exact cE4
 have hN:4194304≤N:=by omega
 refine ⟨N,?_⟩
 have hs:=c62 (w:=a0) (by omega)
 unfold aO4
 rw [hal]
 obtain ⟨r,hr,hp⟩:=cU5 N a0 hN hs
 obtain ⟨sm,hsm⟩:=bV0 N a3
 simp only [Option.bind_some,Bool.not_true,cond_false]
 rw [hr]
 simp only [Option.bind_some]
 by_cases h:r=0
 ·have hp:=hp h
  rw [decide_eq_true h]
  simp only [Bool.not_true,cond_false,hsm,Option.bind_some]
  cases sm with
  |false=>rfl
  |true =>
   simp only [Bool.not_true,cond_false,cP8 N hN a0 hs hp a3,Option.bind_some]
   obtain ⟨s,q1,q2⟩:=dF6 (fuel:=a2) (S:=aM1 N a0 a3) (gl:=fun x0_ x1_ x2_=>aP6 N x0_ x1_ x2_ a0) (gq:=fun x0_ x1_=>aP0 N x0_ x1_ (aT9 N a0 a3 a0.classes 0) a0) hN hs hp (fun s k n=>by
    show aP6 N s k n a0=_
    unfold aP6
    rw [aW9 N a0 k n (by omega) hp.rise hs]
    rfl) (fun k j x m hx hm=>cI0 hp.rise hx hm) a1
   obtain ⟨t,R,ev,p1,p2,_⟩:=cH0 hN hs hp a1 a2
   have e:=q2.det p2.ran
   subst e
   have hq:a94 N a0 a1 a2 (aT9 N a0 a3 a0.classes 0)=some s:=by
    unfold a94
    rw [q1]
    rfl
   simp only [hq,p1,Option.bind_some,cY9,decide_true,cond_true,cN0]
 ·rw [decide_eq_false h]; rfl
end Go.Proofs.Ytkecefjmcimemaa
