import Derived.Test.YtkecefjmcimemaaPl21
/- The machine, plainly: what comes of a run. No program in sight. -/
namespace Go.Proofs.Ytkecefjmcimemaa
open Go.RowKit
set_option linter.unusedVariables false
theorem bS8 (N:Nat) {l:List Ins} (h:l.length≤1048576):aO6 N l=some l:=by
 unfold aO6
 rw [I6 (by omega)]
 rfl
theorem b58 (N:Nat) (m:Me) (h:m.code.length≤1048576):aR9 N m=some m:=by
 unfold aR9
 rw [bS8 N h]
 rfl
theorem bJ5 (N:Nat):∀(l:List Me) (k:Nat) (acc:List Me),(∀m∈l,m.code.length≤1048576)→acc.length+l.length≤1048576→aG3 N l k acc=some (acc++l)
 |[],k,acc,_,_=>by simp [aG3]
 |x::l,k,acc,h,hl=>by
  rw [aG3,b58 N x (h x (by simp))]
  simp only [Option.bind_some]
  rw [I6 (by simp at hl ⊢; omega)]
  simp only [cond_true]
  rw [bJ5 N l (k+1) _ (fun o ho=>h o (by simp [ho])) (by simp at hl ⊢; omega)]
  simp
theorem bI8 (N:Nat):∀(l:List Cl) (k:Nat) (acc:List Cl),(∀x∈l,x.methods.length≤1048576∧∀m∈x.methods,m.code.length≤1048576)→acc.length+l.length≤1048576→aG2 N l k acc=some (acc++l)
 |[],k,acc,_,_=>by simp [aG2]
 |x::l,k,acc,h,hl=>by
  have hx:=h x (by simp)
  rw [aG2,bJ5 N x.methods 0 [] hx.2 (by simpa using hx.1)]
  simp only [Option.bind_some,List.nil_append]
  rw [I6 (by simp at hl ⊢; omega)]
  simp only [cond_true]
  rw [bI8 N l (k+1) _ (fun o ho=>h o (by simp [ho])) (by simp at hl ⊢; omega)]
  simp
theorem aS2 (N:Nat) (w:Wd) (h:U5 w):aO2 N w=some w:=by
 unfold aO2
 rw [bT9 N h.2.2.2 h.2.1]
 simp only [Option.bind_some]
 rw [bI8 N w.classes 0 [] h.2.2.1 (by simpa using h.1)]
 rfl
def bH0 (n:Int):List V→Int
 |[]=>0
 |v::l=>if aA0 v n=0 then bH0 n l else aA0 v n
def bF5 (n:Int):List V→D6 Int Unit
 |[]=>.next ()
 |v::l=>if aA0 v n=0 then bF5 n l else .ret (aA0 v n)
theorem b43 (n:Int):∀l:List V,(match bF5 n l with|.ret r=>some r|.next ()=>some (0:Int))=some (bH0 n l)
 |[]=>rfl
 |x::l=>by
  rw [bF5,bH0]
  by_cases hx:aA0 x n=0
  ·rw [if_pos hx,if_pos hx]; exact b43 n l
  ·rw [if_neg hx,if_neg hx]
def M5 (w:Wd) (c:U2) (fuel:Int):Int:=if aI2 c.name=false then 7 else if 4 < c.args.length then 5 else if fuel < 0∨400 < fuel then 3 else bH0 (w.heap.length:Int) (c.self_::c.args)
theorem cD1 {n:Int}:∀{l:List V},bH0 n l=0→∀v∈l,M0 n v
 |[],_,v,hv=>by cases hv
 |x::l,h,v,hv=>by
  unfold bH0 at h
  by_cases hx:aA0 x n=0
  ·rw [if_pos hx] at h
   rcases List.mem_cons.1 hv with rfl|hv
   ·exact hx
   ·exact cD1 h v hv
  ·rw [if_neg hx] at h; exact absurd h hx
theorem aW0 {w:Wd} {c:U2} {fuel:Int} (h:M5 w c fuel=0):aI2 c.name=true∧c.args.length≤4∧0≤fuel∧fuel≤400∧M0 (w.heap.length:Int) c.self_∧∀v∈c.args,M0 (w.heap.length:Int) v:=by
 unfold M5 at h
 by_cases h1:aI2 c.name=false
 ·rw [if_pos h1] at h; cases h
 rw [if_neg h1] at h
 by_cases h2:4 < c.args.length
 ·rw [if_pos h2] at h; cases h
 rw [if_neg h2] at h
 by_cases h3:fuel < 0∨400 < fuel
 ·rw [if_pos h3] at h; cases h
 rw [if_neg h3] at h
 have:=cD1 h
 exact ⟨by simpa using h1,by omega,by omega,by omega,this _ (by simp),fun v hv=>this v (by simp [hv])⟩
theorem bI5 (N:Nat) (w:Wd) (c:U2):∀(l:List V) (k:Nat),l=([c.self_]++c.args).drop k→aK3 N w c l k=some (bF5 (w.heap.length:Int) l)
 |[],k,_=>rfl
 |x::l,k,h=>by
  obtain ⟨h1,h2,_⟩:=F4 h
  rw [aK3,F9,h1]
  simp only [Option.bind_some,b81]
  rw [bF5]
  by_cases hx:aA0 x (w.heap.length:Int)=0
  ·rw [decide_eq_true hx,if_pos hx]
   simp only [Bool.not_true,cond_false]
   exact bI5 N w c l (k+1) h2
  ·rw [decide_eq_false hx,if_neg hx]
   rfl
theorem bW1 (N:Nat) (w:Wd) (c:U2) (fuel:Int):bA7 N w c fuel=some (M5 w c fuel):=by
 unfold bA7 M5
 rw [cF3]
 simp only [Option.bind_some]
 cases h1:aI2 c.name with
 |false=>rfl
 |true =>
  simp only [Bool.not_true,cond_false,Bool.true_eq_false,if_false]
  by_cases h2:4 < c.args.length
  ·have h2':(4:Int) < (c.args.length:Int):=by omega
   rw [decide_eq_true h2',if_pos h2]
   rfl
  ·have h2':¬(4:Int) < (c.args.length:Int):=by omega
   rw [decide_eq_false h2',if_neg h2]
   simp only [cond_false]
   by_cases h3:fuel < 0∨400 < fuel
   ·rw [if_pos h3]
    by_cases h4:fuel < 0
    ·rw [decide_eq_true h4]; rfl
    ·rw [decide_eq_false h4,decide_eq_true (show 400 < fuel by omega)]; rfl
   ·rw [if_neg h3,decide_eq_false (show ¬fuel < 0 by omega),decide_eq_false (show ¬400 < fuel by omega)]
    simp only [cond_false,Option.bind_some]
    rw [I6 (by simp; omega),bI5 N w c ([c.self_]++c.args) 0 rfl]
    simp only [cond_true,Option.bind_some]
    exact b43 _ _
theorem aU6 (N:Nat) (w:Wd):∀(l:List V) (k:Nat),W9 N w l k=some (bF5 (w.heap.length:Int) l)
 |[],k=>rfl
 |x::l,k=>by
  rw [W9]
  simp only [Option.bind_some,aY1]
  rw [bF5]
  by_cases hx:aA0 x (w.heap.length:Int)=0
  ·rw [decide_eq_true hx,if_pos hx]
   simp only [Bool.not_true,cond_false]
   exact aU6 N w l (k+1)
  ·rw [decide_eq_false hx,if_neg hx]
   rfl
theorem bS9 (N:Nat) (w:Wd) (c:U2) (fuel:Int):aK4 N w c fuel=some (M5 w c fuel):=by
 unfold aK4 M5
 rw [aC0]
 simp only [Option.bind_some]
 cases h1:aI2 c.name with
 |false=>rfl
 |true =>
  simp only [Bool.not_true,cond_false,Bool.true_eq_false,if_false]
  by_cases h2:4 < c.args.length
  ·have h2':(4:Int) < (c.args.length:Int):=by omega
   rw [decide_eq_true h2',if_pos h2]
   rfl
  ·have h2':¬(4:Int) < (c.args.length:Int):=by omega
   rw [decide_eq_false h2',if_neg h2]
   simp only [cond_false]
   by_cases h3:fuel < 0∨400 < fuel
   ·rw [if_pos h3]
    by_cases h4:fuel < 0
    ·rw [decide_eq_true h4]; rfl
    ·rw [decide_eq_false h4,decide_eq_true (show 400 < fuel by omega)]; rfl
   ·rw [if_neg h3,decide_eq_false (show ¬fuel < 0 by omega),decide_eq_false (show ¬400 < fuel by omega)]
    simp only [cond_false,Option.bind_some,aY1,aU6,bH0]
    by_cases hx:aA0 c.self_ (w.heap.length:Int)=0
    ·rw [decide_eq_true hx,if_pos hx]
     simp only [Bool.not_true,cond_false]
     exact b43 _ _
    ·rw [decide_eq_false hx,if_neg hx]
     rfl
def noQ : Int→Int→Fs×Bool:=fun _ _=>(⟨0,ByteArray.empty,0,0,[]⟩,false)
inductive Path (w:Wd) (fuel:Int) (L:St→Int→ByteArray→Int×Int) (Q:Int→Int→Fs×Bool):Cf→Cf→Prop
 |refl (c:Cf):Path w fuel L Q c c
 |step {c c1 c2:Cf}:c.err=0→c.fs≠[]→M6 w fuel L Q c=some c1→Path w fuel L Q c1 c2→Path w fuel L Q c c2
def Cf.done (c:Cf):Prop:=c.err≠0∨c.fs=[]
theorem Path.trans {w:Wd} {fuel:Int} {L:St→Int→ByteArray→Int×Int} {Q:Int→Int→Fs×Bool} {a b c:Cf} (h:Path w fuel L Q a b) (h':Path w fuel L Q b c):Path w fuel L Q a c:=by
 induction h with
 |refl=>exact h'
 |step h1 h2 h3 _ ih=>exact .step h1 h2 h3 (ih h')
theorem Path.det {w:Wd} {fuel:Int} {L:St→Int→ByteArray→Int×Int} {Q:Int→Int→Fs×Bool} {a b c:Cf} (h:Path w fuel L Q a b) (hb:b.done) (h':Path w fuel L Q a c) (hc:c.done):b=c:=by
 induction h with
 |refl =>
  cases h' with
  |refl=>rfl
  |step h1 h2=>rcases hb with hb|hb; exact absurd h1 hb; exact absurd hb h2
 |step h1 h2 h3 _ ih =>
  cases h' with
  |refl=>rcases hc with hc|hc; exact absurd h1 hc; exact absurd hc h2
  |step k1 k2 k3 k4 =>
   rw [h3] at k3
   cases k3
   exact ih hb k4
theorem cP4 {w:Wd} {fuel:Int} {N:Nat} {gl:St→Int→ByteArray→Option (Int×Int)} {gq:Int→Int→Option (Fs×Bool)} {L:St→Int→ByteArray→Int×Int} {Q:Int→Int→Fs×Bool} (hN:1048578≤N)
  (hgl:∀s k n,gl s k n=some (L s k n)) (hgq:∀k j x m,p8 w.classes k=some x→p8 x.methods j=some m→gq k j=some (Q k j)) (P:Cf→Prop)
  (hP:∀c,P c→c.err=0→c.fs≠[]→Wk w Q c∧∃c1,M6 w fuel L Q c=some c1∧mu fuel c1 < mu fuel c∧(c1.err=0→P c1)):∀(n:Nat) (c:Cf),(c.err=0→P c)→mu fuel c < n →
  ∃c',Path w fuel L Q c c'∧c'.done∧(c'.err=0→P c')∧aI6 N gl gq n w.classes c.heap w.epoch fuel c.sends c.turns c.fs.reverse c.back.k c.back.n c.err =
   some (w.classes,c'.heap,w.epoch,fuel,c'.sends,c'.turns,c'.fs.reverse,c'.back.k,c'.back.n,c'.err)
 |0,c,_,h=>by omega
 |n+1,c,hc,h=>by
  rw [aI6]
  by_cases he:c.err=0
  ·cases hfs:c.fs with
   |nil =>
    refine ⟨c,.refl c,.inr hfs,hc,?_⟩
    simp [he,hfs]
   |cons f F =>
    obtain ⟨W,c1,h1,h2,h3⟩:=hP c (hc he) he (by rw [hfs]; simp)
    obtain ⟨c',p1,p2,p3,p4⟩:=cP4 hN hgl hgq P hP n c1 h3 (by omega)
    refine ⟨c',.step he (by rw [hfs]; simp) h1 p1,p2,p3,?_⟩
    have hs:=dB5 hN hgl hgq c W he h1
    have hl:(0:Int) < ((f::F).reverse.length:Int):=by simp
    unfold Cf.toM at hs
    rw [hfs] at hs
    simp only [he,decide_true,cond_true,hl,Option.bind_some,bQ0]
    rw [he] at hs
    rw [hs]
    simp only [Option.bind_some]
    exact p4
  ·refine ⟨c,.refl c,.inl he,hc,?_⟩
   simp [he]
def bJ9 (w:Wd) (c:Cf):Wd×aN2:=if c.err=0 then (⟨w.classes,c.heap,w.epoch⟩,⟨c.back,0,c.sends⟩) else (w,⟨⟨0,0⟩,c.err,c.sends⟩)
def P5 (w:Wd):Cf:=⟨w.heap,0,0,[],⟨0,0⟩,0,[]⟩
def aP9 (w:Wd) (fuel:Int) (Q:Int→Int→Fs×Bool) (c:U2):Option Cf :=
 if (z8 w c.name (D9 w.heap c.self_)).2 < 0 then some (I4 (P5 w) 10) else aH8 w fuel Q (P5 w) (z8 w c.name (D9 w.heap c.self_)).1 (z8 w c.name (D9 w.heap c.self_)).2 c.self_ c.args
theorem bD4 {fuel:Int} {c:Cf} (hf:fuel≤400) (hs:0≤c.sends) (ht:0≤c.turns) (hp:(c.fs.map Q7).sum≤100000):mu fuel c < 1048576:=by
 unfold mu
 omega
theorem cS3 {w:Wd} {fuel:Int} {Q:Int→Int→Fs×Bool} (W:WOk w) (h1:0 < w.classes.length) (hQ:∀k j,(Q k j).2=false) {c c':Cf} (p:Path w fuel (fun _ k s=>z8 w s k) Q c c') (hs:c.sends≤fuel) (hI:c.err=0→aF9 w fuel c) :
  c.sends≤c'.sends∧c'.sends≤fuel∧c.heap.length≤c'.heap.length∧(c'.err=0→aF9 w fuel c'):=by
 induction p with
 |refl=>exact ⟨Int.le_refl _,hs,Nat.le_refl _,hI⟩
 |@step c c1 c2 he hne hst _ ih =>
  cases hfs:c.fs with
  |nil=>exact absurd hfs hne
  |cons f F =>
   obtain ⟨c1',k1,k2⟩:=a19 (Q:=Q) W h1 hQ (hI he) he hfs
   rw [hst] at k1
   cases k1
   obtain ⟨a1,a2,a3,a4⟩:=ih k2.sends.2 k2.inv
   exact ⟨Int.le_trans k2.sends.1 a1,a2,Nat.le_trans k2.heap a3,a4⟩
theorem b75 {w:Wd} {N:Nat} (h:aD0 N w):aP6 w w.heap:=⟨h.many.2.2,fun o ho=>by
 have:=h.obj o ho
 exact ⟨this.1,this.2.1,this.2.2.1,this.2.2.2.1,this.2.2.2.2⟩⟩
theorem cI4 {w:Wd} {N:Nat} {fuel:Int} {Q:Int→Int→Fs×Bool} (hN:4194304≤N) (hs:U5 w) (hp:aD0 N w) (hQ:∀k j,(Q k j).2=false) (c:U2) (hw:M5 w c fuel=0) :
  ∃c1,aP9 w fuel Q c=some c1∧0≤c1.sends∧c1.sends≤fuel∧c1.heap=w.heap∧mu fuel c1 < 1048576∧(c1.err=0→aF9 w fuel c1):=by
 have W:=hp.wOk hN hs
 obtain ⟨h1,h2,h3,h4,h5,h6⟩:=aW0 hw
 have hmu:mu fuel (P5 w) < 1048576:=bD4 h4 (Int.le_refl _) (Int.le_refl _) (by simp [P5])
 unfold aP9
 by_cases hj:(z8 w c.name (D9 w.heap c.self_)).2 < 0
 ·rw [if_pos hj]
  exact ⟨_,rfl,Int.le_refl _,h3,rfl,hmu,fun e=>by cases e⟩
 ·rw [if_neg hj]
  obtain ⟨x,m,hx,hm,_⟩:=a05 (w:=w) (s:=c.name) (c:=D9 w.heap c.self_) (by omega)
  obtain ⟨c1,a1,a2,a3,a4,a5,a6⟩:=b03 (Q:=Q) (fuel:=fuel) W hQ (P5 w) rfl (b75 hp) (by simp [P5]) (fun g hg=>by cases hg) ⟨Int.le_refl _,h3,h4⟩ ⟨Int.le_refl _,by simp [P5]⟩ (M0.nil _) _ _ c.self_ c.args h5 h6 ⟨x,m,hx,hm⟩
  exact ⟨c1,a1,a2,a3,a4,Nat.lt_of_le_of_lt a5 hmu,a6⟩
theorem b56 {w:Wd} {N:Nat} {fuel:Int} {gl:St→Int→ByteArray→Option (Int×Int)} {gq:Int→Int→Option (Fs×Bool)} (hs:U5 w) (c:U2) (hw:M5 w c fuel≠0) :
  aP0 N w c fuel gl gq=some (w,⟨⟨0,0⟩,M5 w c fuel,0⟩):=by
 unfold aP0
 rw [bW1]
 simp only [Option.bind_some]
 rw [decide_eq_false hw,aS2 N w hs]
 rfl
theorem cO2 {w:Wd} {N:Nat} {fuel:Int} {gl:St→Int→ByteArray→Option (Int×Int)} {gq:Int→Int→Option (Fs×Bool)} {L:St→Int→ByteArray→Int×Int} {Q:Int→Int→Fs×Bool} (hN:4194304≤N) (hs:U5 w) (hr:bD0 w)
  (hgl:∀s k n,gl s k n=some (L s k n)) (hgq:∀k j x m,p8 w.classes k=some x→p8 x.methods j=some m→gq k j=some (Q k j)) (P:Cf→Prop)
  (hP:∀c,P c→c.err=0→c.fs≠[]→Wk w Q c∧∃c1,M6 w fuel L Q c=some c1∧mu fuel c1 < mu fuel c∧(c1.err=0→P c1))
  (hm:∀x∈w.classes,∀m∈x.methods,0≤m.temps∧m.temps≤1000) (hq:∀k j,(Q k j).2=true→0≤(Q k j).1.temps∧(Q k j).1.temps≤1000)
  (c:U2) (hw:M5 w c fuel=0) (c1:Cf) (hb:aP9 w fuel Q c=some c1) (hc1:c1.err=0→P c1) (hmu:mu fuel c1 < 1048576) :
  ∃c',Path w fuel L Q c1 c'∧c'.done∧(c'.err=0→P c')∧aP0 N w c fuel gl gq=some (bJ9 w c'):=by
 obtain ⟨h1,h2,h3,h4,h5,h6⟩:=aW0 hw
 obtain ⟨c',p1,p2,p3,p4⟩:=cP4 (N:=N) (gl:=gl) (gq:=gq) (by omega) hgl hgq P hP N c1 hc1 (by omega)
 refine ⟨c',p1,p2,p3,?_⟩
 unfold aP0
 rw [bW1]
 simp only [Option.bind_some,hw,decide_true,Bool.not_true,cond_false,aS2 N w hs,a13]
 have hf:aO8 N (⟨w.classes,w.heap,w.epoch⟩:Wd) (D9 w.heap c.self_) c.name=some (z8 w c.name (D9 w.heap c.self_)):=bR4 N w _ _ (by omega) hr hs
 rw [hf]
 simp only [Option.bind_some]
 have fin:(aI6 N gl gq N w.classes c1.heap w.epoch fuel c1.sends c1.turns c1.fs.reverse c1.back.k c1.back.n c1.err).bind (fun (v47,v48,v49,v50,v51,v52,v53,v54,v55,v56) =>
   (bif (!decide (v56=(0:Int))) then ((aO2 N w).bind fun r71=>some (r71,(⟨(⟨(0:Int),(0:Int)⟩:V),v56,v51⟩:aN2))) else some ((⟨v47,v48,v49⟩:Wd),(⟨(⟨v54,v55⟩:V),(0:Int),v51⟩:aN2))))=some (bJ9 w c'):=by
  rw [p4]
  simp only [Option.bind_some,aS2 N w hs,bJ9]
  by_cases he:c'.err=0
  ·rw [decide_eq_true he,if_pos he]; rfl
  ·rw [decide_eq_false he,if_neg he]; rfl
 unfold aP9 at hb
 by_cases hj:(z8 w c.name (D9 w.heap c.self_)).2 < 0
 ·rw [if_pos hj] at hb
  cases hb
  rw [decide_eq_true hj]
  simp only [cond_true,aX1,Option.bind_some]
  simp only [aS2 N w hs] at fin
  exact fin
 ·rw [if_neg hj] at hb
  rw [decide_eq_false hj]
  have hself:c.self_.k=3→aK7 c.self_.n:=h5.num
  have hh:=bK7 hb
  have:=cJ5 (gl:=gl) (N:=N) hgq hm hq (P5 w) rfl (by simp [P5]) (by simp [P5]) (fun f hf=>by cases hf) _ _ c.self_ c.args hself (fun v hv hk=>(h6 v hv).num hk) (by omega) c1 hb
  have e:(P5 w).toM w fuel=(⟨(⟨w.classes,w.heap,w.epoch⟩:Wd),fuel,0,0,[],⟨0,0⟩,0⟩:l8):=rfl
  rw [e] at this
  simp only [cond_false,this,Option.bind_some]
  simp only [aS2 N w hs] at fin
  rw [hh] at fin
  exact fin
def cA4 (w:Wd) (c:U2) (fuel:Int) (Q:Int→Int→Fs×Bool) (r:Wd×aN2):Prop :=
 (M5 w c fuel≠0∧r=(w,⟨⟨0,0⟩,M5 w c fuel,0⟩)) ∨
 (M5 w c fuel=0∧∃c1 c',aP9 w fuel Q c=some c1∧Path w fuel (fun _ k s=>z8 w s k) Q c1 c'∧c'.done∧r=bJ9 w c')
theorem cA4.det {w:Wd} {c:U2} {fuel:Int} {Q:Int→Int→Fs×Bool} {r s:Wd×aN2} (h:cA4 w c fuel Q r) (h':cA4 w c fuel Q s):r=s:=by
 rcases h with ⟨h1,h2⟩|⟨h1,c1,c',h2,h3,h4,h5⟩<;>rcases h' with ⟨k1,k2⟩|⟨k1,d1,d',k2,k3,k4,k5⟩
 ·rw [h2,k2]
 ·exact absurd k1 h1
 ·exact absurd h1 k1
 ·rw [h2] at k2
  cases k2
  rw [h5,k5,Path.det h3 h4 k3 k4]
theorem dG2 {w:Wd} {N:Nat} {fuel:Int} {gl:St→Int→ByteArray→Option (Int×Int)} {gq:Int→Int→Option (Fs×Bool)} {Q:Int→Int→Fs×Bool} (hN:4194304≤N) (hs:U5 w) (hp:aD0 N w) (hQ:∀k j,(Q k j).2=false)
  (hgl:∀s k n,gl s k n=some (z8 w n k)) (hgq:∀k j x m,p8 w.classes k=some x→p8 x.methods j=some m→gq k j=some (Q k j)) (c:U2):∃r,aP0 N w c fuel gl gq=some r∧cA4 w c fuel Q r:=by
 by_cases hw:M5 w c fuel=0
 ·have W:=hp.wOk hN hs
  have hcl:0 < w.classes.length:=by have:=hp.many.1; omega
  have hq:∀k j,(Q k j).2=true→0≤(Q k j).1.temps∧(Q k j).1.temps≤1000:=fun k j h=>by rw [hQ] at h; cases h
  obtain ⟨c1,b1,b2,b3,b4,b5,b6⟩:=cI4 (Q:=Q) hN hs hp hQ c hw
  obtain ⟨c',p1,p2,p3,p4⟩:=cO2 (L:=fun _ k s=>z8 w s k) hN hs hp.rise hgl hgq (aF9 w fuel) (fun c I he hne=>by
   refine ⟨I.wk W hq,?_⟩
   cases hfs:c.fs with
   |nil=>exact absurd hfs hne
   |cons f F =>
    obtain ⟨c1,k1,k2⟩:=a19 (Q:=Q) W hcl hQ I he hfs
    exact ⟨c1,k1,k2.mu,k2.inv⟩) W.temps hq c hw c1 b1 b6 b5
  exact ⟨_,p4,.inr ⟨hw,c1,c',b1,p1,p2,rfl⟩⟩
 ·exact ⟨_,b56 hs c hw,.inl ⟨hw,rfl⟩⟩
end Go.Proofs.Ytkecefjmcimemaa
