import Derived.Test.YtahmeibkdhbngaaPl21
/- The machine, plainly: what comes of a run. No program in sight. -/
namespace Go.Proofs.Ytahmeibkdhbngaa
open Go.RowKit
set_option linter.unusedVariables false
theorem bL7 (N:Nat) {l:List Ins} (h:l.length≤1048576):aK6 N l=some l:=by
 unfold aK6
 rw [J5 (by omega)]
 rfl
theorem bV2 (N:Nat) (m:Me) (h:m.code.length≤1048576):aM8 N m=some m:=by
 unfold aM8
 rw [bL7 N h]
 rfl
theorem bB6 (N:Nat):∀(l:List Me) (k:Nat) (acc:List Me),(∀m∈l,m.code.length≤1048576)→acc.length+l.length≤1048576→aB9 N l k acc=some (acc++l)
 |[],k,acc,_,_=>by simp [aB9]
 |x::l,k,acc,h,hl=>by
  rw [aB9,bV2 N x (h x (by simp))]
  simp only [Option.bind_some]
  rw [J5 (by simp at hl ⊢; omega)]
  simp only [cond_true]
  rw [bB6 N l (k+1) _ (fun o ho=>h o (by simp [ho])) (by simp at hl ⊢; omega)]
  simp
theorem bC0 (N:Nat):∀(l:List Cl) (k:Nat) (acc:List Cl),(∀x∈l,x.methods.length≤1048576∧∀m∈x.methods,m.code.length≤1048576)→acc.length+l.length≤1048576→aB6 N l k acc=some (acc++l)
 |[],k,acc,_,_=>by simp [aB6]
 |x::l,k,acc,h,hl=>by
  have hx:=h x (by simp)
  rw [aB6,bB6 N x.methods 0 [] hx.2 (by simpa using hx.1)]
  simp only [Option.bind_some,List.nil_append]
  rw [J5 (by simp at hl ⊢; omega)]
  simp only [cond_true]
  rw [bC0 N l (k+1) _ (fun o ho=>h o (by simp [ho])) (by simp at hl ⊢; omega)]
  simp
theorem aN0 (N:Nat) (w:Wd) (h:Y1 w):aJ2 N w=some w:=by
 unfold aJ2
 rw [bO3 N h.2.2.2 h.2.1]
 simp only [Option.bind_some]
 rw [bC0 N w.classes 0 [] h.2.2.1 (by simpa using h.1)]
 rfl
def bF7 (n:Int):List V→Int
 |[]=>0
 |v::l=>if V8 v n=0 then bF7 n l else V8 v n
def bN8 (n:Int):List V→D9 Int Unit
 |[]=>.next ()
 |v::l=>if V8 v n=0 then bN8 n l else .ret (V8 v n)
theorem cD6 (n:Int):∀l:List V,(match bN8 n l with|.ret r=>some r|.next ()=>some (0:Int))=some (bF7 n l)
 |[]=>rfl
 |x::l=>by
  rw [bN8,bF7]
  by_cases hx:V8 x n=0
  ·rw [if_pos hx,if_pos hx]; exact cD6 n l
  ·rw [if_neg hx,if_neg hx]
def M6 (w:Wd) (c:O4) (fuel:Int):Int:=if aF6 c.name=false then 7 else if 4 < c.args.length then 5 else if fuel < 0∨400 < fuel then 3 else bF7 (w.heap.length:Int) (c.self_::c.args)
theorem b60 {n:Int}:∀{l:List V},bF7 n l=0→∀v∈l,J8 n v
 |[],_,v,hv=>by cases hv
 |x::l,h,v,hv=>by
  unfold bF7 at h
  by_cases hx:V8 x n=0
  ·rw [if_pos hx] at h
   rcases List.mem_cons.1 hv with rfl|hv
   ·exact hx
   ·exact b60 h v hv
  ·rw [if_neg hx] at h; exact absurd h hx
theorem bK0 {w:Wd} {c:O4} {fuel:Int} (h:M6 w c fuel=0):aF6 c.name=true∧c.args.length≤4∧0≤fuel∧fuel≤400∧J8 (w.heap.length:Int) c.self_∧∀v∈c.args,J8 (w.heap.length:Int) v:=by
 unfold M6 at h
 by_cases h1:aF6 c.name=false
 ·rw [if_pos h1] at h; cases h
 rw [if_neg h1] at h
 by_cases h2:4 < c.args.length
 ·rw [if_pos h2] at h; cases h
 rw [if_neg h2] at h
 by_cases h3:fuel < 0∨400 < fuel
 ·rw [if_pos h3] at h; cases h
 rw [if_neg h3] at h
 have:=b60 h
 exact ⟨by simpa using h1,by omega,by omega,by omega,this _ (by simp),fun v hv=>this v (by simp [hv])⟩
theorem bD2 (N:Nat) (w:Wd) (c:O4):∀(l:List V) (k:Nat),l=([c.self_]++c.args).drop k→aE5 N w c l k=some (bN8 (w.heap.length:Int) l)
 |[],k,_=>rfl
 |x::l,k,h=>by
  obtain ⟨h1,h2,_⟩:=H9 h
  rw [aE5,N7,h1]
  simp only [Option.bind_some,b23]
  rw [bN8]
  by_cases hx:V8 x (w.heap.length:Int)=0
  ·rw [decide_eq_true hx,if_pos hx]
   simp only [Bool.not_true,cond_false]
   exact bD2 N w c l (k+1) h2
  ·rw [decide_eq_false hx,if_neg hx]
   rfl
theorem bN0 (N:Nat) (w:Wd) (c:O4) (fuel:Int):aY7 N w c fuel=some (M6 w c fuel):=by
 unfold aY7 M6
 rw [b79]
 simp only [Option.bind_some]
 cases h1:aF6 c.name with
 |false=>rfl
 |true =>
  simp only [Bool.not_true,cond_false,Bool.true_eq_false,if_false]
  by_cases h2:4 < c.args.length
  ·have h2':(4:Int) < (c.args.length:Int):=by omega
   rw [decide_eq_true h2',if_pos h2]
   rfl
  ·have h2':¬(4:Int) < (c.args.length:Int):=by omega
   rw [decide_eq_false h2',if_neg h2]
   simp only [cond_false]
   by_cases h3:fuel < 0∨400 < fuel
   ·rw [if_pos h3]
    by_cases h4:fuel < 0
    ·rw [decide_eq_true h4]; rfl
    ·rw [decide_eq_false h4,decide_eq_true (show 400 < fuel by omega)]; rfl
   ·rw [if_neg h3,decide_eq_false (show ¬fuel < 0 by omega),decide_eq_false (show ¬400 < fuel by omega)]
    simp only [cond_false,Option.bind_some]
    rw [J5 (by simp; omega),bD2 N w c ([c.self_]++c.args) 0 rfl]
    simp only [cond_true,Option.bind_some]
    exact cD6 _ _
def noQ : Int→Int→Fs×Bool:=fun _ _=>(⟨0,ByteArray.empty,0,0,[]⟩,false)
inductive Path (w:Wd) (fuel:Int) (L:St→Int→ByteArray→Int×Int) (Q:Int→Int→Fs×Bool):Cf→Cf→Prop
 |refl (c:Cf):Path w fuel L Q c c
 |step {c c1 c2:Cf}:c.err=0→c.fs≠[]→aX5 w fuel L Q c=some c1→Path w fuel L Q c1 c2→Path w fuel L Q c c2
def Cf.done (c:Cf):Prop:=c.err≠0∨c.fs=[]
theorem Path.trans {w:Wd} {fuel:Int} {L:St→Int→ByteArray→Int×Int} {Q:Int→Int→Fs×Bool} {a b c:Cf} (h:Path w fuel L Q a b) (h':Path w fuel L Q b c):Path w fuel L Q a c:=by
 induction h with
 |refl=>exact h'
 |step h1 h2 h3 _ ih=>exact .step h1 h2 h3 (ih h')
theorem Path.det {w:Wd} {fuel:Int} {L:St→Int→ByteArray→Int×Int} {Q:Int→Int→Fs×Bool} {a b c:Cf} (h:Path w fuel L Q a b) (hb:b.done) (h':Path w fuel L Q a c) (hc:c.done):b=c:=by
 induction h with
 |refl =>
  cases h' with
  |refl=>rfl
  |step h1 h2=>rcases hb with hb|hb; exact absurd h1 hb; exact absurd hb h2
 |step h1 h2 h3 _ ih =>
  cases h' with
  |refl=>rcases hc with hc|hc; exact absurd h1 hc; exact absurd hc h2
  |step k1 k2 k3 k4 =>
   rw [h3] at k3
   cases k3
   exact ih hb k4
def bI9 (w:Wd) (c:Cf):Wd×aK0:=if c.err=0 then (⟨w.classes,c.heap,w.epoch⟩,⟨c.back,0,c.sends⟩) else (w,⟨⟨0,0⟩,c.err,c.sends⟩)
def aO0 (w:Wd):Cf:=⟨w.heap,0,0,[],⟨0,0⟩,0,[]⟩
def aT8 (w:Wd) (fuel:Int) (Q:Int→Int→Fs×Bool) (c:O4):Option Cf :=
 if (F5 w c.name (M3 w.heap c.self_)).2 < 0 then some (Z7 (aO0 w) 10) else aN2 w fuel Q (aO0 w) (F5 w c.name (M3 w.heap c.self_)).1 (F5 w c.name (M3 w.heap c.self_)).2 c.self_ c.args
theorem dB2 {fuel:Int} {c:Cf} (hf:fuel≤400) (hs:0≤c.sends) (ht:0≤c.turns) (hp:(c.fs.map pot).sum≤100000):mu fuel c < 1048576:=by
 unfold mu
 omega
theorem cL3 {w:Wd} {N:Nat} (h:aG6 N w):aN1 w w.heap:=⟨h.many.2.2,fun o ho=>by
 have:=h.obj o ho
 exact ⟨this.1,this.2.1,this.2.2.1,this.2.2.2.1,this.2.2.2.2⟩⟩
theorem cD2 {w:Wd} {N:Nat} {fuel:Int} {Q:Int→Int→Fs×Bool} (hN:4194304≤N) (hs:Y1 w) (hp:aG6 N w) (hQ:∀k j,(Q k j).2=false) (c:O4) (hw:M6 w c fuel=0) :
  ∃c1,aT8 w fuel Q c=some c1∧0≤c1.sends∧c1.sends≤fuel∧c1.heap=w.heap∧mu fuel c1 < 1048576∧(c1.err=0→aW3 w fuel c1):=by
 have W:=hp.wOk hN hs
 obtain ⟨h1,h2,h3,h4,h5,h6⟩:=bK0 hw
 have hmu:mu fuel (aO0 w) < 1048576:=dB2 h4 (Int.le_refl _) (Int.le_refl _) (by simp [aO0])
 unfold aT8
 by_cases hj:(F5 w c.name (M3 w.heap c.self_)).2 < 0
 ·rw [if_pos hj]
  exact ⟨_,rfl,Int.le_refl _,h3,rfl,hmu,fun e=>by cases e⟩
 ·rw [if_neg hj]
  obtain ⟨x,m,hx,hm,_⟩:=bI6 (w:=w) (s:=c.name) (c:=M3 w.heap c.self_) (by omega)
  obtain ⟨c1,a1,a2,a3,a4,a5,a6⟩:=cA8 (Q:=Q) (fuel:=fuel) W hQ (aO0 w) rfl (cL3 hp) (by simp [aO0]) (fun g hg=>by cases hg) ⟨Int.le_refl _,h3,h4⟩ ⟨Int.le_refl _,by simp [aO0]⟩ (J8.nil _) _ _ c.self_ c.args h5 h6 ⟨x,m,hx,hm⟩
  exact ⟨c1,a1,a2,a3,a4,Nat.lt_of_le_of_lt a5 hmu,a6⟩
def cM9 (w:Wd) (c:O4) (fuel:Int) (Q:Int→Int→Fs×Bool) (r:Wd×aK0):Prop :=
 (M6 w c fuel≠0∧r=(w,⟨⟨0,0⟩,M6 w c fuel,0⟩)) ∨
 (M6 w c fuel=0∧∃c1 c',aT8 w fuel Q c=some c1∧Path w fuel (fun _ k s=>F5 w s k) Q c1 c'∧c'.done∧r=bI9 w c')
theorem cM9.det {w:Wd} {c:O4} {fuel:Int} {Q:Int→Int→Fs×Bool} {r s:Wd×aK0} (h:cM9 w c fuel Q r) (h':cM9 w c fuel Q s):r=s:=by
 rcases h with ⟨h1,h2⟩|⟨h1,c1,c',h2,h3,h4,h5⟩<;>rcases h' with ⟨k1,k2⟩|⟨k1,d1,d',k2,k3,k4,k5⟩
 ·rw [h2,k2]
 ·exact absurd k1 h1
 ·exact absurd h1 k1
 ·rw [h2] at k2
  cases k2
  rw [h5,k5,Path.det h3 h4 k3 k4]
def bO0 (w:Wd) (c:O4) (fuel:Int) (r:Wd×aK0) (ev:List (St×Int)):Prop :=
 (M6 w c fuel≠0∧r=(w,⟨⟨0,0⟩,M6 w c fuel,0⟩)∧ev=[]) ∨
 (M6 w c fuel=0∧∃c1 c',aT8 w fuel noQ c=some c1∧Path w fuel (fun _ k s=>F5 w s k) noQ c1 c'∧c'.done∧r=bI9 w c'∧ev=c'.ev)
theorem bO0.ran {w:Wd} {c:O4} {fuel:Int} {r:Wd×aK0} {ev:List (St×Int)} (h:bO0 w c fuel r ev):cM9 w c fuel noQ r:=by
 rcases h with ⟨h1,h2,_⟩|⟨h1,c1,c',h2,h3,h4,h5,_⟩
 ·exact .inl ⟨h1,h2⟩
 ·exact .inr ⟨h1,c1,c',h2,h3,h4,h5⟩
theorem bO0.det {w:Wd} {c:O4} {fuel:Int} {r s:Wd×aK0} {ev ev':List (St×Int)} (h:bO0 w c fuel r ev) (h':bO0 w c fuel s ev'):r=s∧ev=ev':=by
 rcases h with ⟨h1,h2,h3⟩|⟨h1,c1,c',h2,h3,h4,h5,h6⟩<;>rcases h' with ⟨k1,k2,k3⟩|⟨k1,d1,d',k2,k3,k4,k5,k6⟩
 ·rw [h2,k2,h3,k3]; exact ⟨rfl,rfl⟩
 ·exact absurd k1 h1
 ·exact absurd h1 k1
 ·rw [h2] at k2
  cases k2
  have:=Path.det h3 h4 k3 k4
  subst this
  rw [h5,k5,h6,k6]
  exact ⟨rfl,rfl⟩
end Go.Proofs.Ytahmeibkdhbngaa
