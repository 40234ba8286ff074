/- The plain law of qclaw2.ClassInstalled. No program in sight. -/
import Derived.Test.YtahmeibkdhbngaaPl50
namespace Go.Proofs.Ytahmeibkdhbngaa
open Go.RowKit
set_option linter.unusedVariables false
set_option maxRecDepth 100000 in
theorem aS3 : aA9 4194304=some true:=by kernel_rfl
theorem a06 {m:Me}:∀{ms:List Me} {x:Me},x∈L9 m ms→x=m∨x∈ms
 |[],x,h=>by simp [L9] at h; exact Or.inl h
 |y::r,x,h=>by
  unfold L9 at h
  by_cases e:y.name=m.name
  ·rw [if_pos e] at h
   rcases List.mem_cons.1 h with h|h
   ·exact Or.inl h
   ·exact Or.inr (List.mem_cons_of_mem _ h)
  ·rw [if_neg e] at h
   by_cases g:G6 m.name y.name=true
   ·rw [if_pos g] at h
    rcases List.mem_cons.1 h with h|h
    ·exact Or.inl h
    ·exact Or.inr h
   ·rw [if_neg g] at h
    rcases List.mem_cons.1 h with h|h
    ·exact Or.inr (by rw [h]; simp)
    ·rcases a06 h with h|h
     ·exact Or.inl h
     ·exact Or.inr (List.mem_cons_of_mem _ h)
theorem bL7 (m:Me):∀ms:List Me,(L9 m ms).length≤ms.length+1
 |[]=>by simp [L9]
 |y::r=>by
  unfold L9
  split
  ·simp
  ·split
   ·simp
   ·have:=bL7 m r; simp; omega
theorem bF1 (m:Me):∀{ms:List Me},aH0 ms→aH0 (L9 m ms)
 |[],_=>by simp [L9,aH0]
 |y::r,hr=>by
  obtain ⟨hr1,hr2⟩:=List.pairwise_cons.1 hr
  unfold L9
  by_cases e:y.name=m.name
  ·rw [if_pos e]; exact List.pairwise_cons.2 ⟨fun z hz=>by rw [←e]; exact hr1 z hz,hr2⟩
  ·rw [if_neg e]
   by_cases g:G6 m.name y.name=true
   ·rw [if_pos g]
    refine List.pairwise_cons.2 ⟨fun z hz=>?_,hr⟩
    rcases List.mem_cons.1 hz with rfl|hz
    ·exact g
    ·exact lt_trans g (hr1 z hz)
   ·rw [if_neg g]
    refine List.pairwise_cons.2 ⟨fun z hz=>?_,bF1 m hr2⟩
    rcases a06 hz with rfl|hz
    ·cases q:G6 y.name z.name with
     |true=>rfl
     |false=>exact absurd (bT6 q (by simpa using g)) e
    ·exact hr1 z hz
theorem bE9 (m:Me):∀ms:List Me,∃i:Nat,I7 m.name (L9 m ms)=some i∧(L9 m ms)[i]?=some m
 |[]=>⟨0,by simp [L9,I7],by simp [L9]⟩
 |y::r=>by
  unfold L9
  by_cases e:y.name=m.name
  ·rw [if_pos e]; exact ⟨0,by simp [I7],rfl⟩
  ·rw [if_neg e]
   by_cases g:G6 m.name y.name=true
   ·rw [if_pos g]; exact ⟨0,by simp [I7],rfl⟩
   ·rw [if_neg g]
    obtain ⟨i,h1,h2⟩:=bE9 m r
    exact ⟨i+1,by rw [I7,if_neg e,h1]; rfl,by simpa using h2⟩
theorem bB0 (m:Me) {s:ByteArray} (h:s≠m.name):∀ms:List Me,(I7 s (L9 m ms)).isSome=(I7 s ms).isSome
 |[]=>by simp [L9,I7,Ne.symm h]
 |y::r=>by
  have hm:¬m.name=s:=fun q=>h q.symm
  unfold L9
  by_cases e:y.name=m.name
  ·have:¬y.name=s:=by rw [e]; exact hm
   rw [if_pos e,I7,if_neg hm,I7,if_neg this]
  ·rw [if_neg e]
   by_cases g:G6 m.name y.name=true
   ·rw [if_pos g,I7,if_neg hm]; cases I7 s (y::r)<;>rfl
   ·rw [if_neg g,I7,I7]
    by_cases q:y.name=s
    ·simp [q]
    ·have:=bB0 m h r
     rw [if_neg q,if_neg q,Option.isSome_map,Option.isSome_map,this]
def inW (w:Wd) (c:Nat) (x:Cl) (m:Me) (e:Int):Wd:=⟨w.classes.set c ⟨x.name,x.super,x.slots,L9 m x.methods⟩,w.heap,e⟩
theorem b62 {w:Wd} {c:Nat} {x:Cl} {m:Me} {e:Int} (hx:w.classes[c]?=some x) (k:Nat):(w.classes[k]?=none∧(inW w c x m e).classes[k]?=none) ∨
  ∃y z,w.classes[k]?=some y∧(inW w c x m e).classes[k]?=some z∧z.super=y.super∧((k=c∧z.methods=L9 m y.methods)∨(k≠c∧z.methods=y.methods)):=by
 have hc:=(List.getElem?_eq_some_iff.1 hx).1
 by_cases h:k=c
 ·subst h
  exact Or.inr ⟨x,_,hx,List.getElem?_set_self hc,rfl,Or.inl ⟨rfl,rfl⟩⟩
 ·have e1:(inW w c x m e).classes[k]?=w.classes[k]?:=List.getElem?_set_ne (Ne.symm h)
  rw [e1]
  cases q:w.classes[k]? with
  |none=>exact Or.inl ⟨rfl,rfl⟩
  |some y=>exact Or.inr ⟨y,y,rfl,rfl,rfl,Or.inr ⟨h,rfl⟩⟩
theorem bF4 {w:Wd} {c:Nat} {x:Cl} {m:Me} {e:Int} (hx:w.classes[c]?=some x) {s:ByteArray} (hs:s≠m.name):∀(n:Nat) (k:Int),
  (P8 w s n k=none∧P8 (inW w c x m e) s n k=none)∨∃d i j:Int,P8 w s n k=some (d,i)∧P8 (inW w c x m e) s n k=some (d,j)
 |0,k=>Or.inl ⟨rfl,rfl⟩
 |n+1,k=>by
  rw [P8,P8]
  by_cases g:0≤k
  ·rw [if_pos g,if_pos g]
   rcases b62 (m:=m) (e:=e) hx k.toNat with ⟨h1,h2⟩|⟨y,z,h1,h2,h3,h4⟩
   ·rw [h1,h2]; exact Or.inl ⟨rfl,rfl⟩
   ·rw [h1,h2]
    have hi:(I7 s z.methods).isSome=(I7 s y.methods).isSome:=by
     rcases h4 with ⟨_,h⟩|⟨_,h⟩
     ·rw [h]; exact bB0 m hs _
     ·rw [h]
    simp only
    cases p:I7 s y.methods with
    |some i =>
     rw [p] at hi
     obtain ⟨j,hj⟩:=Option.isSome_iff_exists.1 hi
     rw [hj]
     exact Or.inr ⟨k,i,j,rfl,rfl⟩
    |none =>
     rw [p] at hi
     have hj:I7 s z.methods=none:=by cases q:I7 s z.methods with
      |none=>rfl
      |some j=>rw [q] at hi; cases hi
     rw [hj,h3]
     exact bF4 hx hs n y.super
  ·rw [if_neg g,if_neg g]; exact Or.inl ⟨rfl,rfl⟩
theorem aW1 (a0:Wd) (a1:Int) (a2:Me) (a3:Int) (a4:ByteArray) (h0:b69 a0) (h1:okI a1) (h2:bP1 a2) (h3:okI a3) (h4:okS a4) (hb:bB5 a0+bkI a1+aH8 a2+bkI a3+bkS a4≤1048576):∃N,P6 N a0 a1 a2 a3 a4=some true:=by
 obtain ⟨N,hNe⟩:∃N:Nat,N=4194304:=⟨_,rfl⟩
 have hal:aA9 N=some true:=by rw [hNe]; exact aS3
 have hN:4194304≤N:=by omega
 refine ⟨N,?_⟩
 have hs:=bY9 (w:=a0) (by omega)
 have hm:a2.code.length≤1048576:=by
  have:=aK8 (bk:=aK2) (fun a=>bG1 a) a2.code
  unfold aH8 at hb; omega
 unfold P6
 rw [hal]
 obtain ⟨r,hr,hp⟩:=bO9 N a0 hN hs
 simp only [Option.bind_some,Bool.not_true,cond_false]
 rw [hr]
 simp only [Option.bind_some]
 by_cases h:r=0
 ·have hp:=hp h
  have hw:=hp.rise
  simp only [h,decide_true,Bool.not_true,cond_false,a05 N a0 a1 a2 (by omega) hs hw hm,Option.bind_some]
  have hcase:(aX0 a0 a1 a2).2≠0∧(aX0 a0 a1 a2).1.classes=[]∨∃x,0≤a1∧a0.classes[a1.toNat]?=some x∧aX0 a0 a1 a2=(inW a0 a1.toNat x a2 (wr (a0.epoch+1)),0):=by
   unfold aX0
   by_cases g:0≤a1
   ·rw [if_pos g]
    cases hx:a0.classes[a1.toNat]? with
    |none=>exact Or.inl ⟨show (6:Int)≠0 by decide,rfl⟩
    |some x =>
     simp only
     by_cases q:(I7 a2.name x.methods).isSome=false∧8≤x.methods.length
     ·rw [if_pos q]; exact Or.inl ⟨show (5:Int)≠0 by decide,rfl⟩
     ·rw [if_neg q]; exact Or.inr ⟨x,g,rfl,rfl⟩
   ·rw [if_neg g]; exact Or.inl ⟨show (6:Int)≠0 by decide,rfl⟩
  rcases hcase with ⟨q1,q2⟩|⟨x,g,hx,hi⟩
  ·simp [q1,q2]
  ·rw [hi]
   have hc:=(List.getElem?_eq_some_iff.1 hx).1
   have hmem:=List.mem_of_getElem? hx
   have hz:(inW a0 a1.toNat x a2 (wr (a0.epoch+1))).classes[a1.toNat]?=some ⟨x.name,x.super,x.slots,L9 a2 x.methods⟩:=List.getElem?_set_self hc
   have hlen:(inW a0 a1.toNat x a2 (wr (a0.epoch+1))).classes.length=a0.classes.length:=by simp [inW]
   obtain ⟨W,hW⟩:∃W,W=inW a0 a1.toNat x a2 (wr (a0.epoch+1)):=⟨_,rfl⟩
   have hin:∀y∈W.classes,y∈a0.classes∨y=⟨x.name,x.super,x.slots,L9 a2 x.methods⟩:=fun y hy=>by
    rw [hW] at hy; exact List.mem_or_eq_of_mem_set hy
   have hwW:bA8 W:=fun y hy=>by
    rcases hin y hy with q|q
    ·exact hw y q
    ·rw [q]; exact bF1 a2 (hw x hmem)
   have hsW:aD1 W:=by
    refine ⟨by rw [hW,hlen]; exact hs.1,by rw [hW]; exact hs.2.1,fun y hy=>?_,by rw [hW]; exact hs.2.2.2⟩
    rcases hin y hy with q|q
    ·exact hs.2.2.1 y q
    ·rw [q]
     obtain ⟨j,hj⟩:=List.mem_iff_getElem?.1 hmem
     have:=(hp.meth j x hj).2.1
     have:=bL7 a2 x.methods
     refine ⟨by simp only; omega,fun z hz=>?_⟩
     rcases a06 hz with rfl|hz
     ·exact hm
     ·exact (hs.2.2.1 x hmem).2 z hz
   rw [←hW] at hz hlen ⊢
   obtain ⟨i,i1,i2⟩:=bE9 a2 x.methods
   have hf:aC3 W a2.name a1=(a1,(i:Int)):=by
    unfold aC3
    rw [P8,if_pos g,hz]
    simp only [i1,Option.getD_some]
   have hil:(i:Int) < ((L9 a2 x.methods).length:Int):=by have:=(List.getElem?_eq_some_iff.1 i2).1; omega
   have hil':¬((L9 a2 x.methods).length:Int)≤(i:Int):=by omega
   have hi0:¬(i:Int) < 0:=by omega
   have hz':C9 W.classes a1=some ⟨x.name,x.super,x.slots,L9 a2 x.methods⟩:=by rw [aD8 g,hz]
   simp only [decide_true,Bool.not_true,cond_false,aJ3 N W a1 a2.name (by omega) hwW hsW,aJ3 N W a3 a4 (by omega) hwW hsW,aJ3 N a0 a3 a4 (by omega) hw hs,Option.bind_some,hf,hi0,hz',hil',K4,i2,bM1,decide_false]
   by_cases ho:a4=a2.name
   ·simp [ho]
   ·simp only [ho,decide_false,cond_false,Option.bind_some]
    have key:(aC3 a0 a4 a3=(-1,-1)∧aC3 W a4 a3=(-1,-1))∨∃d i j:Int,aC3 a0 a4 a3=(d,i)∧aC3 W a4 a3=(d,j)∧0≤i∧0≤j:=by
     have:=bF4 (m:=a2) (e:=wr (a0.epoch+1)) hx ho (a0.classes.length+1) a3
     rw [←hW] at this
     unfold aC3
     rw [hlen]
     rcases this with ⟨q1,q2⟩|⟨d,i,j,q1,q2⟩
     ·exact Or.inl ⟨by rw [q1]; rfl,by rw [q2]; rfl⟩
     ·exact Or.inr ⟨d,i,j,by rw [q1]; rfl,by rw [q2]; rfl,(aR1 _ _ _ _ _ q1).2.1,(aR1 _ _ _ _ _ q2).2.1⟩
    rcases key with ⟨k1,k2⟩|⟨d,i,j,k1,k2,k3,k4⟩
    ·rw [k1,k2]; rfl
    ·have k3':¬i < 0:=by omega
     obtain ⟨y,u,y1,y2,y3⟩:=bX2 (w:=W) (s:=a4) (c:=a3) (by rw [k2]; exact k4)
     rw [k2] at y1 y2
     simp only at y1 y2
     have hj:j < (y.methods.length:Int):=by
      rcases Int.lt_or_le j (y.methods.length:Int) with q|q
      ·exact q
      ·rw [aD8 k4,aZ7 (by omega)] at y2; cases y2
     rw [k1,k2]
     simp [k3',k4,y1,y2,hj,y3]
 ·simp only [h,decide_false,Bool.not_false,cond_true]
end Go.Proofs.Ytahmeibkdhbngaa
