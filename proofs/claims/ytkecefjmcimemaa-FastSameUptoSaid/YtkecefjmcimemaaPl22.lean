import Derived.Test.YtkecefjmcimemaaPl21
/- The machine, plainly: what comes of a run. No program in sight. -/
namespace Go.Proofs.Ytkecefjmcimemaa
open Go.RowKit
set_option linter.unusedVariables false
theorem bU8 (N:Nat) {l:List Ins} (h:l.length≤1048576):aO9 N l=some l:=by
 unfold aO9
 rw [I1 (by omega)]
 rfl
theorem b95 (N:Nat) (m:Me) (h:m.code.length≤1048576):aS3 N m=some m:=by
 unfold aS3
 rw [bU8 N h]
 rfl
theorem bL0 (N:Nat):∀(l:List Me) (k:Nat) (acc:List Me),(∀m∈l,m.code.length≤1048576)→acc.length+l.length≤1048576→aF2 N l k acc=some (acc++l)
 |[],k,acc,_,_=>by simp [aF2]
 |x::l,k,acc,h,hl=>by
  rw [aF2,b95 N x (h x (by simp))]
  simp only [Option.bind_some]
  rw [I1 (by simp at hl ⊢; omega)]
  simp only [cond_true]
  rw [bL0 N l (k+1) _ (fun o ho=>h o (by simp [ho])) (by simp at hl ⊢; omega)]
  simp
theorem bK1 (N:Nat):∀(l:List Cl) (k:Nat) (acc:List Cl),(∀x∈l,x.methods.length≤1048576∧∀m∈x.methods,m.code.length≤1048576)→acc.length+l.length≤1048576→aF5 N l k acc=some (acc++l)
 |[],k,acc,_,_=>by simp [aF5]
 |x::l,k,acc,h,hl=>by
  have hx:=h x (by simp)
  rw [aF5,bL0 N x.methods 0 [] hx.2 (by simpa using hx.1)]
  simp only [Option.bind_some,List.nil_append]
  rw [I1 (by simp at hl ⊢; omega)]
  simp only [cond_true]
  rw [bK1 N l (k+1) _ (fun o ho=>h o (by simp [ho])) (by simp at hl ⊢; omega)]
  simp
theorem aS6 (N:Nat) (w:Wd) (h:Q6 w):aO3 N w=some w:=by
 unfold aO3
 rw [bU9 N h.2.2.2 h.2.1]
 simp only [Option.bind_some]
 rw [bK1 N w.classes 0 [] h.2.2.1 (by simpa using h.1)]
 rfl
def bJ1 (n:Int):List V→Int
 |[]=>0
 |v::l=>if Z0 v n=0 then bJ1 n l else Z0 v n
def bJ0 (n:Int):List V→D7 Int Unit
 |[]=>.next ()
 |v::l=>if Z0 v n=0 then bJ0 n l else .ret (Z0 v n)
theorem b42 (n:Int):∀l:List V,(match bJ0 n l with|.ret r=>some r|.next ()=>some (0:Int))=some (bJ1 n l)
 |[]=>rfl
 |x::l=>by
  rw [bJ0,bJ1]
  by_cases hx:Z0 x n=0
  ·rw [if_pos hx,if_pos hx]; exact b42 n l
  ·rw [if_neg hx,if_neg hx]
def M6 (w:Wd) (c:O6) (fuel:Int):Int:=if aH6 c.name=false then 7 else if 4 < c.args.length then 5 else if fuel < 0∨400 < fuel then 3 else bJ1 (w.heap.length:Int) (c.self_::c.args)
theorem cF2 {n:Int}:∀{l:List V},bJ1 n l=0→∀v∈l,M0 n v
 |[],_,v,hv=>by cases hv
 |x::l,h,v,hv=>by
  unfold bJ1 at h
  by_cases hx:Z0 x n=0
  ·rw [if_pos hx] at h
   rcases List.mem_cons.1 hv with rfl|hv
   ·exact hx
   ·exact cF2 h v hv
  ·rw [if_neg hx] at h; exact absurd h hx
theorem aX0 {w:Wd} {c:O6} {fuel:Int} (h:M6 w c fuel=0):aH6 c.name=true∧c.args.length≤4∧0≤fuel∧fuel≤400∧M0 (w.heap.length:Int) c.self_∧∀v∈c.args,M0 (w.heap.length:Int) v:=by
 unfold M6 at h
 by_cases h1:aH6 c.name=false
 ·rw [if_pos h1] at h; cases h
 rw [if_neg h1] at h
 by_cases h2:4 < c.args.length
 ·rw [if_pos h2] at h; cases h
 rw [if_neg h2] at h
 by_cases h3:fuel < 0∨400 < fuel
 ·rw [if_pos h3] at h; cases h
 rw [if_neg h3] at h
 have:=cF2 h
 exact ⟨by simpa using h1,by omega,by omega,by omega,this _ (by simp),fun v hv=>this v (by simp [hv])⟩
theorem bK4 (N:Nat) (w:Wd) (c:O6):∀(l:List V) (k:Nat),l=([c.self_]++c.args).drop k→aK5 N w c l k=some (bJ0 (w.heap.length:Int) l)
 |[],k,_=>rfl
 |x::l,k,h=>by
  obtain ⟨h1,h2,_⟩:=F3 h
  rw [aK5,G6,h1]
  simp only [Option.bind_some,cA7]
  rw [bJ0]
  by_cases hx:Z0 x (w.heap.length:Int)=0
  ·rw [decide_eq_true hx,if_pos hx]
   simp only [Bool.not_true,cond_false]
   exact bK4 N w c l (k+1) h2
  ·rw [decide_eq_false hx,if_neg hx]
   rfl
theorem bW8 (N:Nat) (w:Wd) (c:O6) (fuel:Int):bC6 N w c fuel=some (M6 w c fuel):=by
 unfold bC6 M6
 rw [cI1]
 simp only [Option.bind_some]
 cases h1:aH6 c.name with
 |false=>rfl
 |true =>
  simp only [Bool.not_true,cond_false,Bool.true_eq_false,if_false]
  by_cases h2:4 < c.args.length
  ·have h2':(4:Int) < (c.args.length:Int):=by omega
   rw [decide_eq_true h2',if_pos h2]
   rfl
  ·have h2':¬(4:Int) < (c.args.length:Int):=by omega
   rw [decide_eq_false h2',if_neg h2]
   simp only [cond_false]
   by_cases h3:fuel < 0∨400 < fuel
   ·rw [if_pos h3]
    by_cases h4:fuel < 0
    ·rw [decide_eq_true h4]; rfl
    ·rw [decide_eq_false h4,decide_eq_true (show 400 < fuel by omega)]; rfl
   ·rw [if_neg h3,decide_eq_false (show ¬fuel < 0 by omega),decide_eq_false (show ¬400 < fuel by omega)]
    simp only [cond_false,Option.bind_some]
    rw [I1 (by simp; omega),bK4 N w c ([c.self_]++c.args) 0 rfl]
    simp only [cond_true,Option.bind_some]
    exact b42 _ _
theorem aV4 (N:Nat) (w:Wd):∀(l:List V) (k:Nat),U8 N w l k=some (bJ0 (w.heap.length:Int) l)
 |[],k=>rfl
 |x::l,k=>by
  rw [U8]
  simp only [Option.bind_some,a04]
  rw [bJ0]
  by_cases hx:Z0 x (w.heap.length:Int)=0
  ·rw [decide_eq_true hx,if_pos hx]
   simp only [Bool.not_true,cond_false]
   exact aV4 N w l (k+1)
  ·rw [decide_eq_false hx,if_neg hx]
   rfl
theorem bU1 (N:Nat) (w:Wd) (c:O6) (fuel:Int):aJ1 N w c fuel=some (M6 w c fuel):=by
 unfold aJ1 M6
 rw [aB7]
 simp only [Option.bind_some]
 cases h1:aH6 c.name with
 |false=>rfl
 |true =>
  simp only [Bool.not_true,cond_false,Bool.true_eq_false,if_false]
  by_cases h2:4 < c.args.length
  ·have h2':(4:Int) < (c.args.length:Int):=by omega
   rw [decide_eq_true h2',if_pos h2]
   rfl
  ·have h2':¬(4:Int) < (c.args.length:Int):=by omega
   rw [decide_eq_false h2',if_neg h2]
   simp only [cond_false]
   by_cases h3:fuel < 0∨400 < fuel
   ·rw [if_pos h3]
    by_cases h4:fuel < 0
    ·rw [decide_eq_true h4]; rfl
    ·rw [decide_eq_false h4,decide_eq_true (show 400 < fuel by omega)]; rfl
   ·rw [if_neg h3,decide_eq_false (show ¬fuel < 0 by omega),decide_eq_false (show ¬400 < fuel by omega)]
    simp only [cond_false,Option.bind_some,a04,aV4,bJ1]
    by_cases hx:Z0 c.self_ (w.heap.length:Int)=0
    ·rw [decide_eq_true hx,if_pos hx]
     simp only [Bool.not_true,cond_false]
     exact b42 _ _
    ·rw [decide_eq_false hx,if_neg hx]
     rfl
def noQ : Int→Int→Fs×Bool:=fun _ _=>(⟨0,ByteArray.empty,0,0,[]⟩,false)
inductive Path (w:Wd) (fuel:Int) (L:St→Int→ByteArray→Int×Int) (Q:Int→Int→Fs×Bool):Cf→Cf→Prop
 |refl (c:Cf):Path w fuel L Q c c
 |step {c c1 c2:Cf}:c.err=0→c.fs≠[]→M5 w fuel L Q c=some c1→Path w fuel L Q c1 c2→Path w fuel L Q c c2
def Cf.done (c:Cf):Prop:=c.err≠0∨c.fs=[]
theorem Path.trans {w:Wd} {fuel:Int} {L:St→Int→ByteArray→Int×Int} {Q:Int→Int→Fs×Bool} {a b c:Cf} (h:Path w fuel L Q a b) (h':Path w fuel L Q b c):Path w fuel L Q a c:=by
 induction h with
 |refl=>exact h'
 |step h1 h2 h3 _ ih=>exact .step h1 h2 h3 (ih h')
theorem Path.det {w:Wd} {fuel:Int} {L:St→Int→ByteArray→Int×Int} {Q:Int→Int→Fs×Bool} {a b c:Cf} (h:Path w fuel L Q a b) (hb:b.done) (h':Path w fuel L Q a c) (hc:c.done):b=c:=by
 induction h with
 |refl =>
  cases h' with
  |refl=>rfl
  |step h1 h2=>rcases hb with hb|hb; exact absurd h1 hb; exact absurd hb h2
 |step h1 h2 h3 _ ih =>
  cases h' with
  |refl=>rcases hc with hc|hc; exact absurd h1 hc; exact absurd hc h2
  |step k1 k2 k3 k4 =>
   rw [h3] at k3
   cases k3
   exact ih hb k4
theorem cR4 {w:Wd} {fuel:Int} {N:Nat} {gl:St→Int→ByteArray→Option (Int×Int)} {gq:Int→Int→Option (Fs×Bool)} {L:St→Int→ByteArray→Int×Int} {Q:Int→Int→Fs×Bool} (hN:1048578≤N)
  (hgl:∀s k n,gl s k n=some (L s k n)) (hgq:∀k j x m,p8 w.classes k=some x→p8 x.methods j=some m→gq k j=some (Q k j)) (P:Cf→Prop)
  (hP:∀c,P c→c.err=0→c.fs≠[]→Wk w Q c∧∃c1,M5 w fuel L Q c=some c1∧mu fuel c1 < mu fuel c∧(c1.err=0→P c1)):∀(n:Nat) (c:Cf),(c.err=0→P c)→mu fuel c < n →
  ∃c',Path w fuel L Q c c'∧c'.done∧(c'.err=0→P c')∧aI5 N gl gq n w.classes c.heap w.epoch fuel c.sends c.turns c.fs.reverse c.back.k c.back.n c.err =
   some (w.classes,c'.heap,w.epoch,fuel,c'.sends,c'.turns,c'.fs.reverse,c'.back.k,c'.back.n,c'.err)
 |0,c,_,h=>by omega
 |n+1,c,hc,h=>by
  rw [aI5]
  by_cases he:c.err=0
  ·cases hfs:c.fs with
   |nil =>
    refine ⟨c,.refl c,.inr hfs,hc,?_⟩
    simp [he,hfs]
   |cons f F =>
    obtain ⟨W,c1,h1,h2,h3⟩:=hP c (hc he) he (by rw [hfs]; simp)
    obtain ⟨c',p1,p2,p3,p4⟩:=cR4 hN hgl hgq P hP n c1 h3 (by omega)
    refine ⟨c',.step he (by rw [hfs]; simp) h1 p1,p2,p3,?_⟩
    have hs:=dF8 hN hgl hgq c W he h1
    have hl:(0:Int) < ((f::F).reverse.length:Int):=by simp
    unfold Cf.toM at hs
    rw [hfs] at hs
    simp only [he,decide_true,cond_true,hl,Option.bind_some,bR5]
    rw [he] at hs
    rw [hs]
    simp only [Option.bind_some]
    exact p4
  ·refine ⟨c,.refl c,.inl he,hc,?_⟩
   simp [he]
def bM2 (w:Wd) (c:Cf):Wd×aL3:=if c.err=0 then (⟨w.classes,c.heap,w.epoch⟩,⟨c.back,0,c.sends⟩) else (w,⟨⟨0,0⟩,c.err,c.sends⟩)
def O5 (w:Wd):Cf:=⟨w.heap,0,0,[],⟨0,0⟩,0,[]⟩
def aQ4 (w:Wd) (fuel:Int) (Q:Int→Int→Fs×Bool) (c:O6):Option Cf :=
 if (y9 w c.name (D9 w.heap c.self_)).2 < 0 then some (I6 (O5 w) 10) else aG8 w fuel Q (O5 w) (y9 w c.name (D9 w.heap c.self_)).1 (y9 w c.name (D9 w.heap c.self_)).2 c.self_ c.args
theorem bF0 {fuel:Int} {c:Cf} (hf:fuel≤400) (hs:0≤c.sends) (ht:0≤c.turns) (hp:(c.fs.map Q3).sum≤100000):mu fuel c < 1048576:=by
 unfold mu
 omega
theorem cU9 {w:Wd} {fuel:Int} {Q:Int→Int→Fs×Bool} (W:WOk w) (h1:0 < w.classes.length) (hQ:∀k j,(Q k j).2=false) {c c':Cf} (p:Path w fuel (fun _ k s=>y9 w s k) Q c c') (hs:c.sends≤fuel) (hI:c.err=0→aF4 w fuel c) :
  c.sends≤c'.sends∧c'.sends≤fuel∧c.heap.length≤c'.heap.length∧(c'.err=0→aF4 w fuel c'):=by
 induction p with
 |refl=>exact ⟨Int.le_refl _,hs,Nat.le_refl _,hI⟩
 |@step c c1 c2 he hne hst _ ih =>
  cases hfs:c.fs with
  |nil=>exact absurd hfs hne
  |cons f F =>
   obtain ⟨c1',k1,k2⟩:=a90 (Q:=Q) W h1 hQ (hI he) he hfs
   rw [hst] at k1
   cases k1
   obtain ⟨a1,a2,a3,a4⟩:=ih k2.sends.2 k2.inv
   exact ⟨Int.le_trans k2.sends.1 a1,a2,Nat.le_trans k2.heap a3,a4⟩
theorem b89 {w:Wd} {N:Nat} (h:aC1 N w):aQ1 w w.heap:=⟨h.many.2.2,fun o ho=>by
 have:=h.obj o ho
 exact ⟨this.1,this.2.1,this.2.2.1,this.2.2.2.1,this.2.2.2.2⟩⟩
theorem cL6 {w:Wd} {N:Nat} {fuel:Int} {Q:Int→Int→Fs×Bool} (hN:4194304≤N) (hs:Q6 w) (hp:aC1 N w) (hQ:∀k j,(Q k j).2=false) (c:O6) (hw:M6 w c fuel=0) :
  ∃c1,aQ4 w fuel Q c=some c1∧0≤c1.sends∧c1.sends≤fuel∧c1.heap=w.heap∧mu fuel c1 < 1048576∧(c1.err=0→aF4 w fuel c1):=by
 have W:=hp.wOk hN hs
 obtain ⟨h1,h2,h3,h4,h5,h6⟩:=aX0 hw
 have hmu:mu fuel (O5 w) < 1048576:=bF0 h4 (Int.le_refl _) (Int.le_refl _) (by simp [O5])
 unfold aQ4
 by_cases hj:(y9 w c.name (D9 w.heap c.self_)).2 < 0
 ·rw [if_pos hj]
  exact ⟨_,rfl,Int.le_refl _,h3,rfl,hmu,fun e=>by cases e⟩
 ·rw [if_neg hj]
  obtain ⟨x,m,hx,hm,_⟩:=bA6 (w:=w) (s:=c.name) (c:=D9 w.heap c.self_) (by omega)
  obtain ⟨c1,a1,a2,a3,a4,a5,a6⟩:=b39 (Q:=Q) (fuel:=fuel) W hQ (O5 w) rfl (b89 hp) (by simp [O5]) (fun g hg=>by cases hg) ⟨Int.le_refl _,h3,h4⟩ ⟨Int.le_refl _,by simp [O5]⟩ (M0.nil _) _ _ c.self_ c.args h5 h6 ⟨x,m,hx,hm⟩
  exact ⟨c1,a1,a2,a3,a4,Nat.lt_of_le_of_lt a5 hmu,a6⟩
theorem b76 {w:Wd} {N:Nat} {fuel:Int} {gl:St→Int→ByteArray→Option (Int×Int)} {gq:Int→Int→Option (Fs×Bool)} (hs:Q6 w) (c:O6) (hw:M6 w c fuel≠0) :
  aP7 N w c fuel gl gq=some (w,⟨⟨0,0⟩,M6 w c fuel,0⟩):=by
 unfold aP7
 rw [bW8]
 simp only [Option.bind_some]
 rw [decide_eq_false hw,aS6 N w hs]
 rfl
theorem cR7 {w:Wd} {N:Nat} {fuel:Int} {gl:St→Int→ByteArray→Option (Int×Int)} {gq:Int→Int→Option (Fs×Bool)} {L:St→Int→ByteArray→Int×Int} {Q:Int→Int→Fs×Bool} (hN:4194304≤N) (hs:Q6 w) (hr:aW6 w)
  (hgl:∀s k n,gl s k n=some (L s k n)) (hgq:∀k j x m,p8 w.classes k=some x→p8 x.methods j=some m→gq k j=some (Q k j)) (P:Cf→Prop)
  (hP:∀c,P c→c.err=0→c.fs≠[]→Wk w Q c∧∃c1,M5 w fuel L Q c=some c1∧mu fuel c1 < mu fuel c∧(c1.err=0→P c1))
  (hm:∀x∈w.classes,∀m∈x.methods,0≤m.temps∧m.temps≤1000) (hq:∀k j,(Q k j).2=true→0≤(Q k j).1.temps∧(Q k j).1.temps≤1000)
  (c:O6) (hw:M6 w c fuel=0) (c1:Cf) (hb:aQ4 w fuel Q c=some c1) (hc1:c1.err=0→P c1) (hmu:mu fuel c1 < 1048576) :
  ∃c',Path w fuel L Q c1 c'∧c'.done∧(c'.err=0→P c')∧aP7 N w c fuel gl gq=some (bM2 w c'):=by
 obtain ⟨h1,h2,h3,h4,h5,h6⟩:=aX0 hw
 obtain ⟨c',p1,p2,p3,p4⟩:=cR4 (N:=N) (gl:=gl) (gq:=gq) (by omega) hgl hgq P hP N c1 hc1 (by omega)
 refine ⟨c',p1,p2,p3,?_⟩
 unfold aP7
 rw [bW8]
 simp only [Option.bind_some,hw,decide_true,Bool.not_true,cond_false,aS6 N w hs,a19]
 have hf:aI1 N (⟨w.classes,w.heap,w.epoch⟩:Wd) (D9 w.heap c.self_) c.name=some (y9 w c.name (D9 w.heap c.self_)):=aW9 N w _ _ (by omega) hr hs
 rw [hf]
 simp only [Option.bind_some]
 have fin:(aI5 N gl gq N w.classes c1.heap w.epoch fuel c1.sends c1.turns c1.fs.reverse c1.back.k c1.back.n c1.err).bind (fun (v47,v48,v49,v50,v51,v52,v53,v54,v55,v56) =>
   (bif (!decide (v56=(0:Int))) then ((aO3 N w).bind fun r71=>some (r71,(⟨(⟨(0:Int),(0:Int)⟩:V),v56,v51⟩:aL3))) else some ((⟨v47,v48,v49⟩:Wd),(⟨(⟨v54,v55⟩:V),(0:Int),v51⟩:aL3))))=some (bM2 w c'):=by
  rw [p4]
  simp only [Option.bind_some,aS6 N w hs,bM2]
  by_cases he:c'.err=0
  ·rw [decide_eq_true he,if_pos he]; rfl
  ·rw [decide_eq_false he,if_neg he]; rfl
 unfold aQ4 at hb
 by_cases hj:(y9 w c.name (D9 w.heap c.self_)).2 < 0
 ·rw [if_pos hj] at hb
  cases hb
  rw [decide_eq_true hj]
  simp only [cond_true,aY1,Option.bind_some]
  simp only [aS6 N w hs] at fin
  exact fin
 ·rw [if_neg hj] at hb
  rw [decide_eq_false hj]
  have hself:c.self_.k=3→aK8 c.self_.n:=h5.num
  have hh:=bM0 hb
  have:=cM1 (N:=N) hgq hm hq (O5 w) rfl (by simp [O5]) (by simp [O5]) (fun f hf=>by cases hf) _ _ c.self_ c.args hself (fun v hv hk=>(h6 v hv).num hk) (by omega) c1 hb
  have e:(O5 w).toM w fuel=(⟨(⟨w.classes,w.heap,w.epoch⟩:Wd),fuel,0,0,[],⟨0,0⟩,0⟩:l9):=rfl
  rw [e] at this
  simp only [cond_false,this,Option.bind_some]
  simp only [aS6 N w hs] at fin
  rw [hh] at fin
  exact fin
def cA9 (w:Wd) (c:O6) (fuel:Int) (Q:Int→Int→Fs×Bool) (r:Wd×aL3):Prop :=
 (M6 w c fuel≠0∧r=(w,⟨⟨0,0⟩,M6 w c fuel,0⟩)) ∨
 (M6 w c fuel=0∧∃c1 c',aQ4 w fuel Q c=some c1∧Path w fuel (fun _ k s=>y9 w s k) Q c1 c'∧c'.done∧r=bM2 w c')
theorem cA9.det {w:Wd} {c:O6} {fuel:Int} {Q:Int→Int→Fs×Bool} {r s:Wd×aL3} (h:cA9 w c fuel Q r) (h':cA9 w c fuel Q s):r=s:=by
 rcases h with ⟨h1,h2⟩|⟨h1,c1,c',h2,h3,h4,h5⟩<;>rcases h' with ⟨k1,k2⟩|⟨k1,d1,d',k2,k3,k4,k5⟩
 ·rw [h2,k2]
 ·exact absurd k1 h1
 ·exact absurd h1 k1
 ·rw [h2] at k2
  cases k2
  rw [h5,k5,Path.det h3 h4 k3 k4]
theorem dF5 {w:Wd} {N:Nat} {fuel:Int} {gl:St→Int→ByteArray→Option (Int×Int)} {gq:Int→Int→Option (Fs×Bool)} {Q:Int→Int→Fs×Bool} (hN:4194304≤N) (hs:Q6 w) (hp:aC1 N w) (hQ:∀k j,(Q k j).2=false)
  (hgl:∀s k n,gl s k n=some (y9 w n k)) (hgq:∀k j x m,p8 w.classes k=some x→p8 x.methods j=some m→gq k j=some (Q k j)) (c:O6):∃r,aP7 N w c fuel gl gq=some r∧cA9 w c fuel Q r:=by
 by_cases hw:M6 w c fuel=0
 ·have W:=hp.wOk hN hs
  have hcl:0 < w.classes.length:=by have:=hp.many.1; omega
  have hq:∀k j,(Q k j).2=true→0≤(Q k j).1.temps∧(Q k j).1.temps≤1000:=fun k j h=>by rw [hQ] at h; cases h
  obtain ⟨c1,b1,b2,b3,b4,b5,b6⟩:=cL6 (Q:=Q) hN hs hp hQ c hw
  obtain ⟨c',p1,p2,p3,p4⟩:=cR7 (L:=fun _ k s=>y9 w s k) hN hs hp.rise hgl hgq (aF4 w fuel) (fun c I he hne=>by
   refine ⟨I.wk W hq,?_⟩
   cases hfs:c.fs with
   |nil=>exact absurd hfs hne
   |cons f F =>
    obtain ⟨c1,k1,k2⟩:=a90 (Q:=Q) W hcl hQ I he hfs
    exact ⟨c1,k1,k2.mu,k2.inv⟩) W.temps hq c hw c1 b1 b6 b5
  exact ⟨_,p4,.inr ⟨hw,c1,c',b1,p1,p2,rfl⟩⟩
 ·exact ⟨_,b76 hs c hw,.inl ⟨hw,rfl⟩⟩
end Go.Proofs.Ytkecefjmcimemaa
