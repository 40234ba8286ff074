import Derived.Test.YtkecefjmcimemaaPl21
/- The machine, plainly: what comes of a run. No program in sight. -/
namespace Go.Proofs.Ytkecefjmcimemaa
open Go.RowKit
set_option linter.unusedVariables false
theorem slices_Clone_Ins_eq (N:Nat) {l:List Ins} (h:l.length≤1048576):slices_Clone_Ins N l=some l:=by
 unfold slices_Clone_Ins
 rw [ble_true (by omega)]
 rfl
theorem class_Method_eq (N:Nat) (m:Me) (h:m.code.length≤1048576):class_Method N m=some m:=by
 unfold class_Method
 rw [slices_Clone_Ins_eq N h]
 rfl
theorem class_Own_l2_eq (N:Nat):∀(l:List Me) (k:Nat) (acc:List Me),(∀m∈l,m.code.length≤1048576)→acc.length+l.length≤1048576→class_Own_l2 N l k acc=some (acc++l)
 |[],k,acc,_,_=>by simp [class_Own_l2]
 |x::l,k,acc,h,hl=>by
  rw [class_Own_l2,class_Method_eq N x (h x (by simp))]
  simp only [Option.bind_some]
  rw [ble_true (by simp at hl ⊢; omega)]
  simp only [cond_true]
  rw [class_Own_l2_eq N l (k+1) _ (fun o ho=>h o (by simp [ho])) (by simp at hl ⊢; omega)]
  simp
theorem class_Own_l1_eq (N:Nat):∀(l:List Cl) (k:Nat) (acc:List Cl),(∀x∈l,x.methods.length≤1048576∧∀m∈x.methods,m.code.length≤1048576)→acc.length+l.length≤1048576→class_Own_l1 N l k acc=some (acc++l)
 |[],k,acc,_,_=>by simp [class_Own_l1]
 |x::l,k,acc,h,hl=>by
  have hx:=h x (by simp)
  rw [class_Own_l1,class_Own_l2_eq N x.methods 0 [] hx.2 (by simpa using hx.1)]
  simp only [Option.bind_some,List.nil_append]
  rw [ble_true (by simp at hl ⊢; omega)]
  simp only [cond_true]
  rw [class_Own_l1_eq N l (k+1) _ (fun o ho=>h o (by simp [ho])) (by simp at hl ⊢; omega)]
  simp
theorem class_Own_eq (N:Nat) (w:Wd) (h:SmallW w):class_Own N w=some w:=by
 unfold class_Own
 rw [value_Own_eq N h.2.2.2 h.2.1]
 simp only [Option.bind_some]
 rw [class_Own_l1_eq N w.classes 0 [] h.2.2.1 (by simpa using h.1)]
 rfl
def firstW (n:Int):List V→Int
 |[]=>0
 |v::l=>if wrongN v n=0 then firstW n l else wrongN v n
def firstC (n:Int):List V→Ctl Int Unit
 |[]=>.next ()
 |v::l=>if wrongN v n=0 then firstC n l else .ret (wrongN v n)
theorem firstC_W (n:Int):∀l:List V,(match firstC n l with|.ret r=>some r|.next ()=>some (0:Int))=some (firstW n l)
 |[]=>rfl
 |x::l=>by
  rw [firstC,firstW]
  by_cases hx:wrongN x n=0
  ·rw [if_pos hx,if_pos hx]; exact firstC_W n l
  ·rw [if_neg hx,if_neg hx]
def wrongCallN (w:Wd) (c:TCall) (fuel:Int):Int:=if nameN c.name=false then 7 else if 4 < c.args.length then 5 else if fuel < 0∨400 < fuel then 3 else firstW (w.heap.length:Int) (c.self_::c.args)
theorem firstW_ok {n:Int}:∀{l:List V},firstW n l=0→∀v∈l,VOk n v
 |[],_,v,hv=>by cases hv
 |x::l,h,v,hv=>by
  unfold firstW at h
  by_cases hx:wrongN x n=0
  ·rw [if_pos hx] at h
   rcases List.mem_cons.1 hv with rfl|hv
   ·exact hx
   ·exact firstW_ok h v hv
  ·rw [if_neg hx] at h; exact absurd h hx
theorem wrongCallN_ok {w:Wd} {c:TCall} {fuel:Int} (h:wrongCallN w c fuel=0):nameN c.name=true∧c.args.length≤4∧0≤fuel∧fuel≤400∧VOk (w.heap.length:Int) c.self_∧∀v∈c.args,VOk (w.heap.length:Int) v:=by
 unfold wrongCallN at h
 by_cases h1:nameN c.name=false
 ·rw [if_pos h1] at h; cases h
 rw [if_neg h1] at h
 by_cases h2:4 < c.args.length
 ·rw [if_pos h2] at h; cases h
 rw [if_neg h2] at h
 by_cases h3:fuel < 0∨400 < fuel
 ·rw [if_pos h3] at h; cases h
 rw [if_neg h3] at h
 have:=firstW_ok h
 exact ⟨by simpa using h1,by omega,by omega,by omega,this _ (by simp),fun v hv=>this v (by simp [hv])⟩
theorem run_Wrong_l1_eq (N:Nat) (w:Wd) (c:TCall):∀(l:List V) (k:Nat),l=([c.self_]++c.args).drop k→run_Wrong_l1 N w c l k=some (firstC (w.heap.length:Int) l)
 |[],k,_=>rfl
 |x::l,k,h=>by
  obtain ⟨h1,h2,_⟩:=restCons h
  rw [run_Wrong_l1,nthO_nat,h1]
  simp only [Option.bind_some,value_Wrong_eq]
  rw [firstC]
  by_cases hx:wrongN x (w.heap.length:Int)=0
  ·rw [decide_eq_true hx,if_pos hx]
   simp only [Bool.not_true,cond_false]
   exact run_Wrong_l1_eq N w c l (k+1) h2
  ·rw [decide_eq_false hx,if_neg hx]
   rfl
theorem run_Wrong_eq (N:Nat) (w:Wd) (c:TCall) (fuel:Int):run_Wrong N w c fuel=some (wrongCallN w c fuel):=by
 unfold run_Wrong wrongCallN
 rw [class_Name_eq]
 simp only [Option.bind_some]
 cases h1:nameN c.name with
 |false=>rfl
 |true =>
  simp only [Bool.not_true,cond_false,Bool.true_eq_false,if_false]
  by_cases h2:4 < c.args.length
  ·have h2':(4:Int) < (c.args.length:Int):=by omega
   rw [decide_eq_true h2',if_pos h2]
   rfl
  ·have h2':¬(4:Int) < (c.args.length:Int):=by omega
   rw [decide_eq_false h2',if_neg h2]
   simp only [cond_false]
   by_cases h3:fuel < 0∨400 < fuel
   ·rw [if_pos h3]
    by_cases h4:fuel < 0
    ·rw [decide_eq_true h4]; rfl
    ·rw [decide_eq_false h4,decide_eq_true (show 400 < fuel by omega)]; rfl
   ·rw [if_neg h3,decide_eq_false (show ¬fuel < 0 by omega),decide_eq_false (show ¬400 < fuel by omega)]
    simp only [cond_false,Option.bind_some]
    rw [ble_true (by simp; omega),run_Wrong_l1_eq N w c ([c.self_]++c.args) 0 rfl]
    simp only [cond_true,Option.bind_some]
    exact firstC_W _ _
def noQ : Int→Int→Fs×Bool:=fun _ _=>(⟨0,ByteArray.empty,0,0,[]⟩,false)
inductive Path (w:Wd) (fuel:Int) (L:St→Int→ByteArray→Int×Int) (Q:Int→Int→Fs×Bool):Cf→Cf→Prop
 |refl (c:Cf):Path w fuel L Q c c
 |step {c c1 c2:Cf}:c.err=0→c.fs≠[]→cStep w fuel L Q c=some c1→Path w fuel L Q c1 c2→Path w fuel L Q c c2
def Cf.done (c:Cf):Prop:=c.err≠0∨c.fs=[]
theorem Path.trans {w:Wd} {fuel:Int} {L:St→Int→ByteArray→Int×Int} {Q:Int→Int→Fs×Bool} {a b c:Cf} (h:Path w fuel L Q a b) (h':Path w fuel L Q b c):Path w fuel L Q a c:=by
 induction h with
 |refl=>exact h'
 |step h1 h2 h3 _ ih=>exact .step h1 h2 h3 (ih h')
theorem Path.det {w:Wd} {fuel:Int} {L:St→Int→ByteArray→Int×Int} {Q:Int→Int→Fs×Bool} {a b c:Cf} (h:Path w fuel L Q a b) (hb:b.done) (h':Path w fuel L Q a c) (hc:c.done):b=c:=by
 induction h with
 |refl =>
  cases h' with
  |refl=>rfl
  |step h1 h2=>rcases hb with hb|hb; exact absurd h1 hb; exact absurd hb h2
 |step h1 h2 h3 _ ih =>
  cases h' with
  |refl=>rcases hc with hc|hc; exact absurd h1 hc; exact absurd hc h2
  |step k1 k2 k3 k4 =>
   rw [h3] at k3
   cases k3
   exact ih hb k4
theorem loop_is {w:Wd} {fuel:Int} {N:Nat} {gl:St→Int→ByteArray→Option (Int×Int)} {gq:Int→Int→Option (Fs×Bool)} {L:St→Int→ByteArray→Int×Int} {Q:Int→Int→Fs×Bool} (hN:1048578≤N)
  (hgl:∀s k n,gl s k n=some (L s k n)) (hgq:∀k j x m,nthO w.classes k=some x→nthO x.methods j=some m→gq k j=some (Q k j)) (P:Cf→Prop)
  (hP:∀c,P c→c.err=0→c.fs≠[]→Wk w Q c∧∃c1,cStep w fuel L Q c=some c1∧mu fuel c1 < mu fuel c∧(c1.err=0→P c1)):∀(n:Nat) (c:Cf),(c.err=0→P c)→mu fuel c < n →
  ∃c',Path w fuel L Q c c'∧c'.done∧(c'.err=0→P c')∧run_With_l1 N gl gq n w.classes c.heap w.epoch fuel c.sends c.turns c.fs.reverse c.back.k c.back.n c.err =
   some (w.classes,c'.heap,w.epoch,fuel,c'.sends,c'.turns,c'.fs.reverse,c'.back.k,c'.back.n,c'.err)
 |0,c,_,h=>by omega
 |n+1,c,hc,h=>by
  rw [run_With_l1]
  by_cases he:c.err=0
  ·cases hfs:c.fs with
   |nil =>
    refine ⟨c,.refl c,.inr hfs,hc,?_⟩
    simp [he,hfs]
   |cons f F =>
    obtain ⟨W,c1,h1,h2,h3⟩:=hP c (hc he) he (by rw [hfs]; simp)
    obtain ⟨c',p1,p2,p3,p4⟩:=loop_is hN hgl hgq P hP n c1 h3 (by omega)
    refine ⟨c',.step he (by rw [hfs]; simp) h1 p1,p2,p3,?_⟩
    have hs:=step_is hN hgl hgq c W he h1
    have hl:(0:Int) < ((f::F).reverse.length:Int):=by simp
    unfold Cf.toM at hs
    rw [hfs] at hs
    simp only [he,decide_true,cond_true,hl,Option.bind_some,V_eta]
    rw [he] at hs
    rw [hs]
    simp only [Option.bind_some]
    exact p4
  ·refine ⟨c,.refl c,.inl he,hc,?_⟩
   simp [he]
def outN (w:Wd) (c:Cf):Wd×TRan:=if c.err=0 then (⟨w.classes,c.heap,w.epoch⟩,⟨c.back,0,c.sends⟩) else (w,⟨⟨0,0⟩,c.err,c.sends⟩)
def startC (w:Wd):Cf:=⟨w.heap,0,0,[],⟨0,0⟩,0,[]⟩
def beginC (w:Wd) (fuel:Int) (Q:Int→Int→Fs×Bool) (c:TCall):Option Cf :=
 if (findN w c.name (classN w.heap c.self_)).2 < 0 then some (cFail (startC w) 10) else cEnter w fuel Q (startC w) (findN w c.name (classN w.heap c.self_)).1 (findN w c.name (classN w.heap c.self_)).2 c.self_ c.args
theorem mu_le {fuel:Int} {c:Cf} (hf:fuel≤400) (hs:0≤c.sends) (ht:0≤c.turns) (hp:(c.fs.map pot).sum≤100000):mu fuel c < 1048576:=by
 unfold mu
 omega
theorem path_after {w:Wd} {fuel:Int} {Q:Int→Int→Fs×Bool} (W:WOk w) (h1:0 < w.classes.length) (hQ:∀k j,(Q k j).2=false) {c c':Cf} (p:Path w fuel (fun _ k s=>findN w s k) Q c c') (hs:c.sends≤fuel) (hI:c.err=0→CInv w fuel c) :
  c.sends≤c'.sends∧c'.sends≤fuel∧c.heap.length≤c'.heap.length∧(c'.err=0→CInv w fuel c'):=by
 induction p with
 |refl=>exact ⟨Int.le_refl _,hs,Nat.le_refl _,hI⟩
 |@step c c1 c2 he hne hst _ ih =>
  cases hfs:c.fs with
  |nil=>exact absurd hfs hne
  |cons f F =>
   obtain ⟨c1',k1,k2⟩:=cstep_ok (Q:=Q) W h1 hQ (hI he) he hfs
   rw [hst] at k1
   cases k1
   obtain ⟨a1,a2,a3,a4⟩:=ih k2.sends.2 k2.inv
   exact ⟨Int.le_trans k2.sends.1 a1,a2,Nat.le_trans k2.heap a3,a4⟩
theorem startC_inv {w:Wd} {N:Nat} (h:RightP N w):HeapOk w w.heap:=⟨h.many.2.2,fun o ho=>by
 have:=h.obj o ho
 exact ⟨this.1,this.2.1,this.2.2.1,this.2.2.2.1,this.2.2.2.2⟩⟩
theorem begin_ok {w:Wd} {N:Nat} {fuel:Int} {Q:Int→Int→Fs×Bool} (hN:4194304≤N) (hs:SmallW w) (hp:RightP N w) (hQ:∀k j,(Q k j).2=false) (c:TCall) (hw:wrongCallN w c fuel=0) :
  ∃c1,beginC w fuel Q c=some c1∧0≤c1.sends∧c1.sends≤fuel∧c1.heap=w.heap∧mu fuel c1 < 1048576∧(c1.err=0→CInv w fuel c1):=by
 have W:=hp.wOk hN hs
 obtain ⟨h1,h2,h3,h4,h5,h6⟩:=wrongCallN_ok hw
 have hmu:mu fuel (startC w) < 1048576:=mu_le h4 (Int.le_refl _) (Int.le_refl _) (by simp [startC])
 unfold beginC
 by_cases hj:(findN w c.name (classN w.heap c.self_)).2 < 0
 ·rw [if_pos hj]
  exact ⟨_,rfl,Int.le_refl _,h3,rfl,hmu,fun e=>by cases e⟩
 ·rw [if_neg hj]
  obtain ⟨x,m,hx,hm,_⟩:=findN_in (w:=w) (s:=c.name) (c:=classN w.heap c.self_) (by omega)
  obtain ⟨c1,a1,a2,a3,a4,a5,a6⟩:=enter_ok (Q:=Q) (fuel:=fuel) W hQ (startC w) rfl (startC_inv hp) (by simp [startC]) (fun g hg=>by cases hg) ⟨Int.le_refl _,h3,h4⟩ ⟨Int.le_refl _,by simp [startC]⟩ (VOk.nil _) _ _ c.self_ c.args h5 h6 ⟨x,m,hx,hm⟩
  exact ⟨c1,a1,a2,a3,a4,Nat.lt_of_le_of_lt a5 hmu,a6⟩
theorem with_wrong {w:Wd} {N:Nat} {fuel:Int} {gl:St→Int→ByteArray→Option (Int×Int)} {gq:Int→Int→Option (Fs×Bool)} (hs:SmallW w) (c:TCall) (hw:wrongCallN w c fuel≠0) :
  run_With N w c fuel gl gq=some (w,⟨⟨0,0⟩,wrongCallN w c fuel,0⟩):=by
 unfold run_With
 rw [run_Wrong_eq]
 simp only [Option.bind_some]
 rw [decide_eq_false hw,class_Own_eq N w hs]
 rfl
theorem with_is {w:Wd} {N:Nat} {fuel:Int} {gl:St→Int→ByteArray→Option (Int×Int)} {gq:Int→Int→Option (Fs×Bool)} {L:St→Int→ByteArray→Int×Int} {Q:Int→Int→Fs×Bool} (hN:4194304≤N) (hs:SmallW w) (hr:RiseW w)
  (hgl:∀s k n,gl s k n=some (L s k n)) (hgq:∀k j x m,nthO w.classes k=some x→nthO x.methods j=some m→gq k j=some (Q k j)) (P:Cf→Prop)
  (hP:∀c,P c→c.err=0→c.fs≠[]→Wk w Q c∧∃c1,cStep w fuel L Q c=some c1∧mu fuel c1 < mu fuel c∧(c1.err=0→P c1))
  (hm:∀x∈w.classes,∀m∈x.methods,0≤m.temps∧m.temps≤1000) (hq:∀k j,(Q k j).2=true→0≤(Q k j).1.temps∧(Q k j).1.temps≤1000)
  (c:TCall) (hw:wrongCallN w c fuel=0) (c1:Cf) (hb:beginC w fuel Q c=some c1) (hc1:c1.err=0→P c1) (hmu:mu fuel c1 < 1048576) :
  ∃c',Path w fuel L Q c1 c'∧c'.done∧(c'.err=0→P c')∧run_With N w c fuel gl gq=some (outN w c'):=by
 obtain ⟨h1,h2,h3,h4,h5,h6⟩:=wrongCallN_ok hw
 obtain ⟨c',p1,p2,p3,p4⟩:=loop_is (N:=N) (gl:=gl) (gq:=gq) (by omega) hgl hgq P hP N c1 hc1 (by omega)
 refine ⟨c',p1,p2,p3,?_⟩
 unfold run_With
 rw [run_Wrong_eq]
 simp only [Option.bind_some,hw,decide_true,Bool.not_true,cond_false,class_Own_eq N w hs,value_Class_eq]
 have hf:class_Find N (⟨w.classes,w.heap,w.epoch⟩:Wd) (classN w.heap c.self_) c.name=some (findN w c.name (classN w.heap c.self_)):=class_Find_eq N w _ _ (by omega) hr hs
 rw [hf]
 simp only [Option.bind_some]
 have fin:(run_With_l1 N gl gq N w.classes c1.heap w.epoch fuel c1.sends c1.turns c1.fs.reverse c1.back.k c1.back.n c1.err).bind (fun (v47,v48,v49,v50,v51,v52,v53,v54,v55,v56) =>
   (bif (!decide (v56=(0:Int))) then ((class_Own N w).bind fun r71=>some (r71,(⟨(⟨(0:Int),(0:Int)⟩:V),v56,v51⟩:TRan))) else some ((⟨v47,v48,v49⟩:Wd),(⟨(⟨v54,v55⟩:V),(0:Int),v51⟩:TRan))))=some (outN w c'):=by
  rw [p4]
  simp only [Option.bind_some,class_Own_eq N w hs,outN]
  by_cases he:c'.err=0
  ·rw [decide_eq_true he,if_pos he]; rfl
  ·rw [decide_eq_false he,if_neg he]; rfl
 unfold beginC at hb
 by_cases hj:(findN w c.name (classN w.heap c.self_)).2 < 0
 ·rw [if_pos hj] at hb
  cases hb
  rw [decide_eq_true hj]
  simp only [cond_true,fail_is,Option.bind_some]
  simp only [class_Own_eq N w hs] at fin
  exact fin
 ·rw [if_neg hj] at hb
  rw [decide_eq_false hj]
  have hself:c.self_.k=3→numOk c.self_.n:=h5.num
  have hh:=cEnter_heap hb
  have:=enter_is (gl:=gl) (N:=N) hgq hm hq (startC w) rfl (by simp [startC]) (by simp [startC]) (fun f hf=>by cases hf) _ _ c.self_ c.args hself (fun v hv hk=>(h6 v hv).num hk) (by omega) c1 hb
  have e:(startC w).toM w fuel=(⟨(⟨w.classes,w.heap,w.epoch⟩:Wd),fuel,0,0,[],⟨0,0⟩,0⟩:TMachine):=rfl
  rw [e] at this
  simp only [cond_false,this,Option.bind_some]
  simp only [class_Own_eq N w hs] at fin
  rw [hh] at fin
  exact fin
def RanP (w:Wd) (c:TCall) (fuel:Int) (Q:Int→Int→Fs×Bool) (r:Wd×TRan):Prop :=
 (wrongCallN w c fuel≠0∧r=(w,⟨⟨0,0⟩,wrongCallN w c fuel,0⟩)) ∨
 (wrongCallN w c fuel=0∧∃c1 c',beginC w fuel Q c=some c1∧Path w fuel (fun _ k s=>findN w s k) Q c1 c'∧c'.done∧r=outN w c')
theorem RanP.det {w:Wd} {c:TCall} {fuel:Int} {Q:Int→Int→Fs×Bool} {r s:Wd×TRan} (h:RanP w c fuel Q r) (h':RanP w c fuel Q s):r=s:=by
 rcases h with ⟨h1,h2⟩|⟨h1,c1,c',h2,h3,h4,h5⟩<;>rcases h' with ⟨k1,k2⟩|⟨k1,d1,d',k2,k3,k4,k5⟩
 ·rw [h2,k2]
 ·exact absurd k1 h1
 ·exact absurd h1 k1
 ·rw [h2] at k2
  cases k2
  rw [h5,k5,Path.det h3 h4 k3 k4]
theorem slow_is {w:Wd} {N:Nat} {fuel:Int} {gl:St→Int→ByteArray→Option (Int×Int)} {gq:Int→Int→Option (Fs×Bool)} {Q:Int→Int→Fs×Bool} (hN:4194304≤N) (hs:SmallW w) (hp:RightP N w) (hQ:∀k j,(Q k j).2=false)
  (hgl:∀s k n,gl s k n=some (findN w n k)) (hgq:∀k j x m,nthO w.classes k=some x→nthO x.methods j=some m→gq k j=some (Q k j)) (c:TCall):∃r,run_With N w c fuel gl gq=some r∧RanP w c fuel Q r:=by
 by_cases hw:wrongCallN w c fuel=0
 ·have W:=hp.wOk hN hs
  have hcl:0 < w.classes.length:=by have:=hp.many.1; omega
  have hq:∀k j,(Q k j).2=true→0≤(Q k j).1.temps∧(Q k j).1.temps≤1000:=fun k j h=>by rw [hQ] at h; cases h
  obtain ⟨c1,b1,b2,b3,b4,b5,b6⟩:=begin_ok (Q:=Q) hN hs hp hQ c hw
  obtain ⟨c',p1,p2,p3,p4⟩:=with_is (L:=fun _ k s=>findN w s k) hN hs hp.rise hgl hgq (CInv w fuel) (fun c I he hne=>by
   refine ⟨I.wk W hq,?_⟩
   cases hfs:c.fs with
   |nil=>exact absurd hfs hne
   |cons f F =>
    obtain ⟨c1,k1,k2⟩:=cstep_ok (Q:=Q) W hcl hQ I he hfs
    exact ⟨c1,k1,k2.mu,k2.inv⟩) W.temps hq c hw c1 b1 b6 b5
  exact ⟨_,p4,.inr ⟨hw,c1,c',b1,p1,p2,rfl⟩⟩
 ·exact ⟨_,with_wrong hs c hw,.inl ⟨hw,rfl⟩⟩
theorem run_Plain_is {w:Wd} {N:Nat} (hN:4194304≤N) (hs:SmallW w) (hp:RightP N w) (c:TCall) (fuel:Int):∃r,run_Plain N w c fuel=some r∧RanP w c fuel noQ r:=by
 obtain ⟨r,h1,h2⟩:=slow_is (fuel:=fuel) (gl:=fun x0_ x1_ x2_=>run_Plain_1 N x0_ x1_ x2_ w) (gq:=fun x0_ x1_=>run_None N x0_ x1_) (Q:=noQ) hN hs hp (fun _ _=>rfl) (fun s k n=>by
  show run_Plain_1 N s k n w=_
  unfold run_Plain_1
  rw [class_Find_eq N w k n (by omega) hp.rise hs]
  rfl) (fun k j x m _ _=>rfl) c
 refine ⟨r,?_,h2⟩
 unfold run_Plain
 rw [h1]
 rfl
end Go.Proofs.Ytkecefjmcimemaa
