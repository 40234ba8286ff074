import Derived.Test.YtahmeibkdhbngaaPl21
/- The machine, plainly: what comes of a run. No program in sight. -/
namespace Go.Proofs.Ytahmeibkdhbngaa
open Go.RowKit
set_option linter.unusedVariables false
theorem bR7 (N:Nat) {l:List Ins} (h:l.length≤1048576):aN8 N l=some l:=by
 unfold aN8
 rw [H7 (by omega)]
 rfl
theorem b58 (N:Nat) (m:Me) (h:m.code.length≤1048576):aQ3 N m=some m:=by
 unfold aQ3
 rw [bR7 N h]
 rfl
theorem bI2 (N:Nat):∀(l:List Me) (k:Nat) (acc:List Me),(∀m∈l,m.code.length≤1048576)→acc.length+l.length≤1048576→aD9 N l k acc=some (acc++l)
 |[],k,acc,_,_=>by simp [aD9]
 |x::l,k,acc,h,hl=>by
  rw [aD9,b58 N x (h x (by simp))]
  simp only [Option.bind_some]
  rw [H7 (by simp at hl ⊢; omega)]
  simp only [cond_true]
  rw [bI2 N l (k+1) _ (fun o ho=>h o (by simp [ho])) (by simp at hl ⊢; omega)]
  simp
theorem bI6 (N:Nat):∀(l:List Cl) (k:Nat) (acc:List Cl),(∀x∈l,x.methods.length≤1048576∧∀m∈x.methods,m.code.length≤1048576)→acc.length+l.length≤1048576→aD7 N l k acc=some (acc++l)
 |[],k,acc,_,_=>by simp [aD7]
 |x::l,k,acc,h,hl=>by
  have hx:=h x (by simp)
  rw [aD7,bI2 N x.methods 0 [] hx.2 (by simpa using hx.1)]
  simp only [Option.bind_some,List.nil_append]
  rw [H7 (by simp at hl ⊢; omega)]
  simp only [cond_true]
  rw [bI6 N l (k+1) _ (fun o ho=>h o (by simp [ho])) (by simp at hl ⊢; omega)]
  simp
theorem aQ7 (N:Nat) (w:Wd) (h:V7 w):aM5 N w=some w:=by
 unfold aM5
 rw [bT9 N h.2.2.2 h.2.1]
 simp only [Option.bind_some]
 rw [bI6 N w.classes 0 [] h.2.2.1 (by simpa using h.1)]
 rfl
def bD9 (n:Int):List V→Int
 |[]=>0
 |v::l=>if Y1 v n=0 then bD9 n l else Y1 v n
def bE7 (n:Int):List V→D5 Int Unit
 |[]=>.next ()
 |v::l=>if Y1 v n=0 then bE7 n l else .ret (Y1 v n)
theorem b04 (n:Int):∀l:List V,(match bE7 n l with|.ret r=>some r|.next ()=>some (0:Int))=some (bD9 n l)
 |[]=>rfl
 |x::l=>by
  rw [bE7,bD9]
  by_cases hx:Y1 x n=0
  ·rw [if_pos hx,if_pos hx]; exact b04 n l
  ·rw [if_neg hx,if_neg hx]
def K8 (w:Wd) (c:K7) (fuel:Int):Int:=if aG5 c.name=false then 7 else if 4 < c.args.length then 5 else if fuel < 0∨400 < fuel then 3 else bD9 (w.heap.length:Int) (c.self_::c.args)
theorem cC1 {n:Int}:∀{l:List V},bD9 n l=0→∀v∈l,L9 n v
 |[],_,v,hv=>by cases hv
 |x::l,h,v,hv=>by
  unfold bD9 at h
  by_cases hx:Y1 x n=0
  ·rw [if_pos hx] at h
   rcases List.mem_cons.1 hv with rfl|hv
   ·exact hx
   ·exact cC1 h v hv
  ·rw [if_neg hx] at h; exact absurd h hx
theorem aU2 {w:Wd} {c:K7} {fuel:Int} (h:K8 w c fuel=0):aG5 c.name=true∧c.args.length≤4∧0≤fuel∧fuel≤400∧L9 (w.heap.length:Int) c.self_∧∀v∈c.args,L9 (w.heap.length:Int) v:=by
 unfold K8 at h
 by_cases h1:aG5 c.name=false
 ·rw [if_pos h1] at h; cases h
 rw [if_neg h1] at h
 by_cases h2:4 < c.args.length
 ·rw [if_pos h2] at h; cases h
 rw [if_neg h2] at h
 by_cases h3:fuel < 0∨400 < fuel
 ·rw [if_pos h3] at h; cases h
 rw [if_neg h3] at h
 have:=cC1 h
 exact ⟨by simpa using h1,by omega,by omega,by omega,this _ (by simp),fun v hv=>this v (by simp [hv])⟩
theorem bH1 (N:Nat) (w:Wd) (c:K7):∀(l:List V) (k:Nat),l=([c.self_]++c.args).drop k→aI4 N w c l k=some (bE7 (w.heap.length:Int) l)
 |[],k,_=>rfl
 |x::l,k,h=>by
  obtain ⟨h1,h2,_⟩:=F9 h
  rw [aI4,J3,h1]
  simp only [Option.bind_some,b68]
  rw [bE7]
  by_cases hx:Y1 x (w.heap.length:Int)=0
  ·rw [decide_eq_true hx,if_pos hx]
   simp only [Bool.not_true,cond_false]
   exact bH1 N w c l (k+1) h2
  ·rw [decide_eq_false hx,if_neg hx]
   rfl
theorem bV6 (N:Nat) (w:Wd) (c:K7) (fuel:Int):a96 N w c fuel=some (K8 w c fuel):=by
 unfold a96 K8
 rw [cE5]
 simp only [Option.bind_some]
 cases h1:aG5 c.name with
 |false=>rfl
 |true =>
  simp only [Bool.not_true,cond_false,Bool.true_eq_false,if_false]
  by_cases h2:4 < c.args.length
  ·have h2':(4:Int) < (c.args.length:Int):=by omega
   rw [decide_eq_true h2',if_pos h2]
   rfl
  ·have h2':¬(4:Int) < (c.args.length:Int):=by omega
   rw [decide_eq_false h2',if_neg h2]
   simp only [cond_false]
   by_cases h3:fuel < 0∨400 < fuel
   ·rw [if_pos h3]
    by_cases h4:fuel < 0
    ·rw [decide_eq_true h4]; rfl
    ·rw [decide_eq_false h4,decide_eq_true (show 400 < fuel by omega)]; rfl
   ·rw [if_neg h3,decide_eq_false (show ¬fuel < 0 by omega),decide_eq_false (show ¬400 < fuel by omega)]
    simp only [cond_false,Option.bind_some]
    rw [H7 (by simp; omega),bH1 N w c ([c.self_]++c.args) 0 rfl]
    simp only [cond_true,Option.bind_some]
    exact b04 _ _
theorem aU0 (N:Nat) (w:Wd):∀(l:List V) (k:Nat),U5 N w l k=some (bE7 (w.heap.length:Int) l)
 |[],k=>rfl
 |x::l,k=>by
  rw [U5]
  simp only [Option.bind_some,aX0]
  rw [bE7]
  by_cases hx:Y1 x (w.heap.length:Int)=0
  ·rw [decide_eq_true hx,if_pos hx]
   simp only [Bool.not_true,cond_false]
   exact aU0 N w l (k+1)
  ·rw [decide_eq_false hx,if_neg hx]
   rfl
theorem bR9 (N:Nat) (w:Wd) (c:K7) (fuel:Int):aH4 N w c fuel=some (K8 w c fuel):=by
 unfold aH4 K8
 rw [aA4]
 simp only [Option.bind_some]
 cases h1:aG5 c.name with
 |false=>rfl
 |true =>
  simp only [Bool.not_true,cond_false,Bool.true_eq_false,if_false]
  by_cases h2:4 < c.args.length
  ·have h2':(4:Int) < (c.args.length:Int):=by omega
   rw [decide_eq_true h2',if_pos h2]
   rfl
  ·have h2':¬(4:Int) < (c.args.length:Int):=by omega
   rw [decide_eq_false h2',if_neg h2]
   simp only [cond_false]
   by_cases h3:fuel < 0∨400 < fuel
   ·rw [if_pos h3]
    by_cases h4:fuel < 0
    ·rw [decide_eq_true h4]; rfl
    ·rw [decide_eq_false h4,decide_eq_true (show 400 < fuel by omega)]; rfl
   ·rw [if_neg h3,decide_eq_false (show ¬fuel < 0 by omega),decide_eq_false (show ¬400 < fuel by omega)]
    simp only [cond_false,Option.bind_some,aX0,aU0,bD9]
    by_cases hx:Y1 c.self_ (w.heap.length:Int)=0
    ·rw [decide_eq_true hx,if_pos hx]
     simp only [Bool.not_true,cond_false]
     exact b04 _ _
    ·rw [decide_eq_false hx,if_neg hx]
     rfl
def noQ : Int→Int→Fs×Bool:=fun _ _=>(⟨0,ByteArray.empty,0,0,[]⟩,false)
inductive Path (w:Wd) (fuel:Int) (L:St→Int→ByteArray→Int×Int) (Q:Int→Int→Fs×Bool):Cf→Cf→Prop
 |refl (c:Cf):Path w fuel L Q c c
 |step {c c1 c2:Cf}:c.err=0→c.fs≠[]→aJ9 w fuel L Q c=some c1→Path w fuel L Q c1 c2→Path w fuel L Q c c2
def Cf.done (c:Cf):Prop:=c.err≠0∨c.fs=[]
theorem Path.trans {w:Wd} {fuel:Int} {L:St→Int→ByteArray→Int×Int} {Q:Int→Int→Fs×Bool} {a b c:Cf} (h:Path w fuel L Q a b) (h':Path w fuel L Q b c):Path w fuel L Q a c:=by
 induction h with
 |refl=>exact h'
 |step h1 h2 h3 _ ih=>exact .step h1 h2 h3 (ih h')
theorem Path.det {w:Wd} {fuel:Int} {L:St→Int→ByteArray→Int×Int} {Q:Int→Int→Fs×Bool} {a b c:Cf} (h:Path w fuel L Q a b) (hb:b.done) (h':Path w fuel L Q a c) (hc:c.done):b=c:=by
 induction h with
 |refl =>
  cases h' with
  |refl=>rfl
  |step h1 h2=>rcases hb with hb|hb; exact absurd h1 hb; exact absurd hb h2
 |step h1 h2 h3 _ ih =>
  cases h' with
  |refl=>rcases hc with hc|hc; exact absurd h1 hc; exact absurd hc h2
  |step k1 k2 k3 k4 =>
   rw [h3] at k3
   cases k3
   exact ih hb k4
def aZ3 (w:Wd) (c:Cf):Wd×aF1:=if c.err=0 then (⟨w.classes,c.heap,w.epoch⟩,⟨c.back,0,c.sends⟩) else (w,⟨⟨0,0⟩,c.err,c.sends⟩)
def aB2 (w:Wd):Cf:=⟨w.heap,0,0,[],⟨0,0⟩,0,[]⟩
def aO2 (w:Wd) (fuel:Int) (Q:Int→Int→Fs×Bool) (c:K7):Option Cf :=
 if (F3 w c.name (G7 w.heap c.self_)).2 < 0 then some (M6 (aB2 w) 10) else aM0 w fuel Q (aB2 w) (F3 w c.name (G7 w.heap c.self_)).1 (F3 w c.name (G7 w.heap c.self_)).2 c.self_ c.args
theorem c86 {fuel:Int} {c:Cf} (hf:fuel≤400) (hs:0≤c.sends) (ht:0≤c.turns) (hp:(c.fs.map pot).sum≤100000):mu fuel c < 1048576:=by
 unfold mu
 omega
theorem b47 {w:Wd} {fuel:Int} {Q:Int→Int→Fs×Bool} (W:WOk w) (h1:0 < w.classes.length) (hQ:∀k j,(Q k j).2=false) {c c':Cf} (p:Path w fuel (fun _ k s=>F3 w s k) Q c c') (hs:c.sends≤fuel) (hI:c.err=0→aM6 w fuel c) :
  c.sends≤c'.sends∧c'.sends≤fuel∧c.heap.length≤c'.heap.length∧(c'.err=0→aM6 w fuel c'):=by
 induction p with
 |refl=>exact ⟨Int.le_refl _,hs,Nat.le_refl _,hI⟩
 |@step c c1 c2 he hne hst _ ih =>
  cases hfs:c.fs with
  |nil=>exact absurd hfs hne
  |cons f F =>
   obtain ⟨c1',k1,k2⟩:=aZ6 (Q:=Q) W h1 hQ (hI he) he hfs
   rw [hst] at k1
   cases k1
   obtain ⟨a1,a2,a3,a4⟩:=ih k2.sends.2 k2.inv
   exact ⟨Int.le_trans k2.sends.1 a1,a2,Nat.le_trans k2.heap a3,a4⟩
theorem b35 {w:Wd} {N:Nat} (h:aE2 N w):aL8 w w.heap:=⟨h.many.2.2,fun o ho=>by
 have:=h.obj o ho
 exact ⟨this.1,this.2.1,this.2.2.1,this.2.2.2.1,this.2.2.2.2⟩⟩
theorem cK4 {w:Wd} {N:Nat} {fuel:Int} {Q:Int→Int→Fs×Bool} (hN:4194304≤N) (hs:V7 w) (hp:aE2 N w) (hQ:∀k j,(Q k j).2=false) (c:K7) (hw:K8 w c fuel=0) :
  ∃c1,aO2 w fuel Q c=some c1∧0≤c1.sends∧c1.sends≤fuel∧c1.heap=w.heap∧mu fuel c1 < 1048576∧(c1.err=0→aM6 w fuel c1):=by
 have W:=hp.wOk hN hs
 obtain ⟨h1,h2,h3,h4,h5,h6⟩:=aU2 hw
 have hmu:mu fuel (aB2 w) < 1048576:=c86 h4 (Int.le_refl _) (Int.le_refl _) (by simp [aB2])
 unfold aO2
 by_cases hj:(F3 w c.name (G7 w.heap c.self_)).2 < 0
 ·rw [if_pos hj]
  exact ⟨_,rfl,Int.le_refl _,h3,rfl,hmu,fun e=>by cases e⟩
 ·rw [if_neg hj]
  obtain ⟨x,m,hx,hm,_⟩:=bE0 (w:=w) (s:=c.name) (c:=G7 w.heap c.self_) (by omega)
  obtain ⟨c1,a1,a2,a3,a4,a5,a6⟩:=b28 (Q:=Q) (fuel:=fuel) W hQ (aB2 w) rfl (b35 hp) (by simp [aB2]) (fun g hg=>by cases hg) ⟨Int.le_refl _,h3,h4⟩ ⟨Int.le_refl _,by simp [aB2]⟩ (L9.nil _) _ _ c.self_ c.args h5 h6 ⟨x,m,hx,hm⟩
  exact ⟨c1,a1,a2,a3,a4,Nat.lt_of_le_of_lt a5 hmu,a6⟩
def cI9 (w:Wd) (c:K7) (fuel:Int) (Q:Int→Int→Fs×Bool) (r:Wd×aF1):Prop :=
 (K8 w c fuel≠0∧r=(w,⟨⟨0,0⟩,K8 w c fuel,0⟩)) ∨
 (K8 w c fuel=0∧∃c1 c',aO2 w fuel Q c=some c1∧Path w fuel (fun _ k s=>F3 w s k) Q c1 c'∧c'.done∧r=aZ3 w c')
theorem cI9.det {w:Wd} {c:K7} {fuel:Int} {Q:Int→Int→Fs×Bool} {r s:Wd×aF1} (h:cI9 w c fuel Q r) (h':cI9 w c fuel Q s):r=s:=by
 rcases h with ⟨h1,h2⟩|⟨h1,c1,c',h2,h3,h4,h5⟩<;>rcases h' with ⟨k1,k2⟩|⟨k1,d1,d',k2,k3,k4,k5⟩
 ·rw [h2,k2]
 ·exact absurd k1 h1
 ·exact absurd h1 k1
 ·rw [h2] at k2
  cases k2
  rw [h5,k5,Path.det h3 h4 k3 k4]
def bT1 (w:Wd) (c:K7) (fuel:Int) (r:Wd×aF1) (ev:List (St×Int)):Prop :=
 (K8 w c fuel≠0∧r=(w,⟨⟨0,0⟩,K8 w c fuel,0⟩)∧ev=[]) ∨
 (K8 w c fuel=0∧∃c1 c',aO2 w fuel noQ c=some c1∧Path w fuel (fun _ k s=>F3 w s k) noQ c1 c'∧c'.done∧r=aZ3 w c'∧ev=c'.ev)
theorem bT1.ran {w:Wd} {c:K7} {fuel:Int} {r:Wd×aF1} {ev:List (St×Int)} (h:bT1 w c fuel r ev):cI9 w c fuel noQ r:=by
 rcases h with ⟨h1,h2,_⟩|⟨h1,c1,c',h2,h3,h4,h5,_⟩
 ·exact .inl ⟨h1,h2⟩
 ·exact .inr ⟨h1,c1,c',h2,h3,h4,h5⟩
theorem bT1.det {w:Wd} {c:K7} {fuel:Int} {r s:Wd×aF1} {ev ev':List (St×Int)} (h:bT1 w c fuel r ev) (h':bT1 w c fuel s ev'):r=s∧ev=ev':=by
 rcases h with ⟨h1,h2,h3⟩|⟨h1,c1,c',h2,h3,h4,h5,h6⟩<;>rcases h' with ⟨k1,k2,k3⟩|⟨k1,d1,d',k2,k3,k4,k5,k6⟩
 ·rw [h2,k2,h3,k3]; exact ⟨rfl,rfl⟩
 ·exact absurd k1 h1
 ·exact absurd h1 k1
 ·rw [h2] at k2
  cases k2
  have:=Path.det h3 h4 k3 k4
  subst this
  rw [h5,k5,h6,k6]
  exact ⟨rfl,rfl⟩
end Go.Proofs.Ytahmeibkdhbngaa
