import Derived.Test.YtahmeibkdhbngaaPl22
/- The machine with a look that writes what it captured (api.Cached), plainly. No program in sight. -/
namespace Go.Proofs.Ytahmeibkdhbngaa
open Go.RowKit
set_option linter.unusedVariables false
def b90 (w:Wd) (gl:St→Int→ByteArray→q9→Option (Int×Int×q9)) (L:St→Int→ByteArray→Int×Int) (T:q9→St×Int→q9) (sb:q9) (c:Cf):Prop :=
 ∀f F i x m k,c.fs=f::F→w9 f.code f.at_=some i→i.op=14→w9 w.classes f.class_=some x→w9 x.methods f.method=some m →
  gl (O1 f m i f.at_) k i.name (c.ev.foldl T sb)=some ((L (O1 f m i f.at_) k i.name).1,(L (O1 f m i f.at_) k i.name).2,T (c.ev.foldl T sb) (O1 f m i f.at_,k))
section
variable {w:Wd} {fuel:Int} {N:Nat} {gl:St→Int→ByteArray→q9→Option (Int×Int×q9)} {gq:Int→Int→Option (Fs×Bool)} {L:St→Int→ByteArray→Int×Int} {Q:Int→Int→Fs×Bool}
theorem aU1 {c c':Cf} {k j:Int} {self:V} {args:List V} (h:aN2 w fuel Q c k j self args=some c'):c'.ev=c.ev∧(c'.err≠0∨c'.sends=c.sends+1):=by
 obtain ⟨x,m,_,_,h|h|⟨_,_,_,a,_,h|h⟩|h|h⟩:=bW1 h
 ·rw [h.2]; exact ⟨rfl,.inl (by simp [Z7])⟩
 ·rw [h.2.2]; exact ⟨rfl,.inl (by simp [Z7])⟩
 ·rw [h.2]; exact ⟨rfl,.inl h.1⟩
 ·rw [h.2]; exact ⟨(aQ3 _ _).2.2.2,.inr (aQ3 _ _).1⟩
 ·rw [h.2.2.2.2]; exact ⟨rfl,.inl (by simp [Z7])⟩
 ·rw [h.2.2.2.2]; exact ⟨rfl,.inr rfl⟩
theorem cU4 {c c':Cf} {f:l6} {F:List l6} {i:Ins} (h:bP2 w c f F i=some c'):c'.ev=c.ev:=by
 unfold bP2 at h
 by_cases h1:i.op=1
 ·rw [if_pos h1] at h; cases h; rfl
 rw [if_neg h1] at h
 by_cases h2:i.op=2
 ·rw [if_pos h2] at h; rw [Option.map_eq_some_iff] at h; obtain ⟨_,_,rfl⟩:=h; rfl
 rw [if_neg h2] at h
 by_cases h3:i.op=3
 ·rw [if_pos h3] at h; rw [Option.map_eq_some_iff] at h; obtain ⟨_,_,rfl⟩:=h; rfl
 rw [if_neg h3] at h
 by_cases h4:i.op=4
 ·rw [if_pos h4] at h; cases h; rfl
 rw [if_neg h4] at h
 by_cases h5:i.op=5
 ·rw [if_pos h5] at h; cases h; rfl
 rw [if_neg h5] at h
 by_cases h6:i.op=6
 ·rw [if_pos h6] at h; cases h; rfl
 rw [if_neg h6] at h
 by_cases h7:i.op=7
 ·rw [if_pos h7] at h; cases h; rfl
 rw [if_neg h7] at h
 by_cases h8:i.op=8
 ·rw [if_pos h8] at h; cases h; rfl
 rw [if_neg h8] at h
 by_cases h9:i.op=9
 ·rw [if_pos h9] at h; rw [Option.map_eq_some_iff] at h; obtain ⟨_,_,rfl⟩:=h; rfl
 rw [if_neg h9] at h
 by_cases h10:i.op=10
 ·rw [if_pos h10] at h; rw [Option.map_eq_some_iff] at h; obtain ⟨_,_,rfl⟩:=h; rfl
 rw [if_neg h10] at h
 by_cases h11:i.op=11
 ·rw [if_pos h11] at h; obtain ⟨_,_,h⟩:=j4 h; split at h<;>cases h; rfl
 rw [if_neg h11] at h
 by_cases h12:i.op=12
 ·rw [if_pos h12] at h; obtain ⟨_,_,h⟩:=j4 h; rw [Option.map_eq_some_iff] at h; obtain ⟨_,_,rfl⟩:=h; rfl
 rw [if_neg h12] at h
 by_cases h19:i.op=19
 ·rw [if_pos h19] at h; rw [Option.map_eq_some_iff] at h; obtain ⟨_,_,rfl⟩:=h; rfl
 rw [if_neg h19] at h
 by_cases h20:i.op=20
 ·rw [if_pos h20] at h; obtain ⟨_,_,h⟩:=j4 h; obtain ⟨_,_,h⟩:=j4 h; rw [Option.map_eq_some_iff] at h; obtain ⟨_,_,rfl⟩:=h; rfl
 rw [if_neg h20] at h
 by_cases h13:i.op=13
 ·rw [if_pos h13] at h; split at h<;>cases h<;>rfl
 rw [if_neg h13] at h
 cases h; rfl
theorem bU3 {c c':Cf} (h:aX5 w fuel L Q c=some c'):c'.ev=c.ev∨∃f F i x m k,c.fs=f::F∧w9 f.code f.at_=some i∧i.op=14∧w9 w.classes f.class_=some x∧w9 x.methods f.method=some m ∧
  c'.ev=c.ev++[(O1 f m i f.at_,k)]∧(((L (O1 f m i f.at_) k i.name).2 < 0∧c'.err=10)∨(0≤(L (O1 f m i f.at_) k i.name).2∧(c'.err≠0∨c'.sends=c.sends+1))):=by
 unfold aX5 at h
 cases hfs:c.fs with
 |nil=>rw [hfs] at h; cases h
 |cons f F =>
  rw [hfs] at h
  obtain ⟨i,hi,h⟩:=j4 h
  by_cases h14:i.op=14
  ·rw [if_pos h14] at h
   obtain ⟨x,cl,m,_,_,_,hcl,hm,h⟩:=bP0 h
   right
   rcases h with ⟨a,h⟩|⟨a,h⟩
   ·exact ⟨f,F,i,cl,m,_,rfl,hi,h14,hcl,hm,by rw [h]; rfl,.inl ⟨a,by rw [h]; rfl⟩⟩
   ·exact ⟨f,F,i,cl,m,_,rfl,hi,h14,hcl,hm,(aU1 h).1,.inr ⟨a,(aU1 h).2⟩⟩
  left
  rw [if_neg h14] at h
  split at h
  ·cases h; unfold aX2; split<;>rfl
  split at h
  ·rw [Option.map_eq_some_iff] at h
   obtain ⟨q,_,rfl⟩:=h
   unfold b87
   split
   ·unfold aX2; split<;>rfl
   ·split<;>rfl
  split at h
  ·rw [Option.map_eq_some_iff] at h
   obtain ⟨q,_,rfl⟩:=h
   unfold aI2
   split<;>rfl
  split at h
  ·unfold bO6 at h
   split at h
   ·obtain ⟨x,_,h⟩:=j4 h
    split at h
    ·cases h; rfl
    ·obtain ⟨cl,_,h⟩:=j4 h
     obtain ⟨m,_,h⟩:=j4 h
     split at h<;>cases h
     rfl
   ·cases h
  split at h
  ·cases h; unfold cB8; split
   ·rfl
   ·split<;>rfl
  exact cU4 h
theorem cR9 {sb:q9} {T:q9→St×Int→q9} (hgq:∀k j x m,w9 w.classes k=some x→w9 x.methods j=some m→gq k j=some (Q k j))
  (c:Cf) (W:Wk w Q c) (he:c.err=0) (f:l6) (F:List l6) (hf:WkF f) (hF:∀f∈F,WkF f) (hFl:F.length≤899) (i:Ins) (p:Int) (hgl:∀x m k,w9 w.classes f.class_=some x→w9 x.methods f.method=some m→gl (O1 f m i p) k i.name sb=some ((L (O1 f m i p) k i.name).1,(L (O1 f m i p) k i.name).2,T sb (O1 f m i p,k))) {c':Cf} (h:bQ7 w fuel L Q c f F i p=some c') :
  ∃e,c'.ev=c.ev++[e]∧aB8 N ⟨⟨w.classes,c.heap,w.epoch⟩,fuel,c.sends,c.turns,(f::F).reverse,c.back,c.err⟩ gl gq sb F.length i p=some (T sb e,c'.toM w fuel):=by
 obtain ⟨x,cl,m,h0,h1,hx,hcl,hm,h⟩:=bP0 h
 have hl:=hf.stack
 have e1:wr ((f.stack.length:Int) - i.a)=((f.stack.length - i.a.toNat:Nat):Int):=by rw [I4 (by unfold F9; omega)]; omega
 have e2:wr (((f.stack.length - i.a.toNat:Nat):Int) - 1)=((f.stack.length - i.a.toNat - 1:Nat):Int):=by rw [I4 (by unfold F9; omega)]; omega
 have d1:(decide ((0:Int)≤((f.stack.length - i.a.toNat:Nat):Int)) && decide (((f.stack.length - i.a.toNat:Nat):Int)≤(f.stack.length:Int)))=true:=by simp only [Bool.and_eq_true,decide_eq_true_eq]; omega
 have d2:(decide ((0:Int)≤((f.stack.length - i.a.toNat - 1:Nat):Int)) && decide (((f.stack.length - i.a.toNat - 1:Nat):Int)≤(f.stack.length:Int)))=true:=by simp only [Bool.and_eq_true,decide_eq_true_eq]; omega
 have hbif:((bif f.fast then some i.c else some p):Option Int)=some (O1 f m i p).pos:=by unfold O1; cases f.fast<;>rfl
 have hs:(⟨f.class_,m.name,(O1 f m i p).pos⟩:St)=O1 f m i p:=rfl
 refine ⟨(O1 f m i p,M3 c.heap x),?_,?_⟩
 ·rcases h with ⟨h2,rfl⟩|⟨h2,h⟩
  ·rfl
  ·rw [(aU1 h).1]
 unfold aB8
 simp only [S9,Option.bind_some,e1,e2,d1,d2,cond_true,Int.toNat_natCast,N7,hx,hcl,hm,aW0,hgl cl m (M3 c.heap x) hcl hm,hbif,hs,he,aS2,W9,
  aQ1 N (show (f.stack.drop (f.stack.length - i.a.toNat)).length≤1048576 by simp; omega)]
 rcases h with ⟨h2,rfl⟩|⟨h2,h⟩
 ·simp only [h2,decide_true,cond_true]
  rfl
 ·rw [decide_eq_false (by omega)]
  simp only [cond_false]
  have:=cE6 (N:=N) hgq W.meth W.quick _ (by exact he) (by have:=W.sends; exact ⟨this.1,by simp only; omega⟩) (by simp; omega) (fun g hg=>by
    rcases List.mem_cons.1 hg with rfl|hg
    ·simp; omega
    ·exact (hF g hg).stack) _ _ x _ (hf.num x (List.mem_of_getElem? hx)) (fun v hv=>hf.num v (List.mem_of_mem_drop hv)) (by simp; omega) c' h
  simp only [Cf.toM,he] at this
  rw [this]
  simp only [Option.bind_some,Cf.toM]
  have hh:c'.heap=c.heap:=(bE3 h).trans rfl
  rw [hh]
theorem cR1 {T:q9→St×Int→q9} {sb:q9} (hN:1048578≤N) (hgq:∀k j x m,w9 w.classes k=some x→w9 x.methods j=some m→gq k j=some (Q k j))
  (c:Cf) (W:Wk w Q c) (he:c.err=0) (hgl:b90 w gl L T sb c) {c':Cf} (h:aX5 w fuel L Q c=some c'):aB4 N (c.toM w fuel) gl gq (c.ev.foldl T sb)=some (c'.ev.foldl T sb,c'.toM w fuel):=by
 have hst0:=h
 unfold aX5 at h
 cases hfs:c.fs with
 |nil=>rw [hfs] at h; cases h
 |cons f F =>
  rw [hfs] at h
  obtain ⟨i,hi,h⟩:=j4 h
  have hfsl:=W.fs
  rw [hfs] at hfsl
  simp only [List.length_cons] at hfsl
  have hf:WkF f:=W.fr f (by rw [hfs]; simp)
  have hF:∀g∈F,WkF g:=fun g hg=>W.fr g (by rw [hfs]; simp [hg])
  have hp:=bP6 hi
  have hcode:=hf.code
  have wp:wr (f.at_+1)=f.at_+1:=I4 (by unfold F9; omega)
  have wt:=cE1 (f:=f) (F:=F) (by omega)
  generalize hg:({ f with at_:=f.at_+1 }:l6)=g at h
  have hgl2:g.stack.length≤1000:=by rw [←hg]; exact hf.stack
  have hgw:WkF g:=by rw [←hg]; exact ⟨hf.stack,hf.code,hf.num⟩
  unfold aB4 Cf.toM
  have fin:∀(x:Cf),(⟨⟨w.classes,x.heap,w.epoch⟩,fuel,x.sends,x.turns,x.fs.reverse,⟨x.back.k,x.back.n⟩,x.err⟩:l7)=x.toM w fuel:=fun x=>rfl
  simp only [hfs,wt,wp,cI4,hi,Option.bind_some,Int.toNat_natCast,W9,hg]
  by_cases h14:i.op=14
  ·rw [if_pos h14] at h
   obtain ⟨e,e1,this⟩:=cR9 (gl:=gl) (N:=N) (sb:=c.ev.foldl T sb) (T:=T) hgq c W he g F hgw hF (by omega) i f.at_ (by subst hg; intro x m k hx hm; exact hgl f F i x m k hfs hi h14 hx hm) h
   have hh:=cM1 h
   rw [e1,List.foldl_append]
   simp only [h14,this,decide_true,cond_true,Option.bind_some,Cf.toM,bI4,hh,List.foldl_cons,List.foldl_nil]
  have hev:c'.ev=c.ev:=by
   rcases bU3 hst0 with h'|⟨f',F',i',_,_,_,a1,a2,a3,_⟩
   ·exact h'
   ·rw [hfs] at a1
    cases a1
    rw [hi] at a2
    cases a2
    exact absurd a3 h14
  rw [hev]
  clear hev hst0 hgl
  generalize c.ev.foldl T sb=s0
  rw [if_neg h14] at h
  by_cases h15:i.op=15
  ·rw [if_pos h15] at h
   cases h
   have:=cJ4 (w:=w) (fuel:=fuel) (N:=N) c g F i.a he (by have:=W.turns; omega)
   simp only [h15,this,decide_true,cond_true,Option.bind_some,Cf.toM]
   unfold aX2
   split<;>rfl
  rw [if_neg h15] at h
  by_cases h16:i.op=16
  ·rw [if_pos h16] at h
   rw [Option.map_eq_some_iff] at h
   obtain ⟨q,hq,rfl⟩:=h
   have:=cJ4 (w:=w) (fuel:=fuel) (N:=N) c q.2 F i.a he (by have:=W.turns; omega)
   unfold b87
   by_cases k1:q.1.k=1
   ·simp only [h16,bE9 hq hgl2,this,k1,decide_true,cond_true,Option.bind_some,Cf.toM,if_true]
    unfold aX2
    split<;>rfl
   ·by_cases k2:q.1.k=2
    ·simp only [h16,bE9 hq hgl2,k2,decide_true,cond_true,Option.bind_some,if_true]
     rfl
    ·simp only [h16,bE9 hq hgl2,k1,k2,he,aS2,decide_true,decide_false,cond_true,cond_false,Option.bind_some,if_false]
     rfl
  rw [if_neg h16] at h
  by_cases h17:i.op=17
  ·rw [if_pos h17] at h
   rw [Option.map_eq_some_iff] at h
   obtain ⟨q,hq,rfl⟩:=h
   have wt2:=cE1 (f:=q.2) (F:=F) (by omega)
   have hg2:=cA0 (w:=w) (fuel:=fuel) (N:=N) { c with fs:=F } q.1 (by simp only; omega) (fun x hx=>(hF x hx).stack)
   simp only [Cf.toM] at hg2
   have d1:(decide ((0:Int)≤(F.length:Int)) && decide ((F.length:Int)≤((q.2::F).reverse.length:Int)))=true:=by simp; omega
   simp only [decide_eq_false h14,decide_eq_false h15,decide_eq_false h16,decide_eq_true h17,bE9 hq hgl2,wt2,d1,Int.toNat_natCast,cY6,hg2,cond_true,cond_false,Option.bind_some,bI4,a13]
  rw [if_neg h17] at h
  by_cases h18:i.op=18
  ·rw [if_pos h18] at h
   have:=cT4 (w:=w) (fuel:=fuel) (N:=N) c g F i hgl2 h
   have hh:c'.heap=c.heap:=by
    unfold bO6 at h
    split at h
    ·obtain ⟨x,_,h⟩:=j4 h
     split at h
     ·cases h; rfl
     ·obtain ⟨cl,_,h⟩:=j4 h
      obtain ⟨m,_,h⟩:=j4 h
      split at h<;>cases h
      rfl
    ·cases h
   simp only [decide_eq_false h14,decide_eq_false h15,decide_eq_false h16,decide_eq_false h17,decide_eq_true h18,this,cond_true,cond_false,Option.bind_some,Cf.toM,bI4,hh]
  rw [if_neg h18] at h
  by_cases h21:i.op=21
  ·rw [if_pos h21] at h
   cases h
   have:=cG7 (N:=N) (cl:=w.classes) (H:=c.heap) (ep:=w.epoch) (fuel:=fuel) (sends:=c.sends) (turns:=c.turns) (back:=c.back) (g::F).reverse true (by have:=W.sends; omega)
   simp only [h21,he,this,decide_true,cond_true,Option.bind_some]
   unfold cB8
   by_cases k1:fuel≤c.sends
   ·simp only [k1,if_true]; rfl
   ·by_cases k2:20≤(g::F).length
    ·simp only [k1,k2,List.length_reverse,if_true,if_false,and_self]; rfl
    ·simp only [k1,k2,List.length_reverse,if_false,and_false]; rfl
  rw [if_neg h21] at h
  have:=c02 (w:=w) (fuel:=fuel) (N:=N) c W hN he g F hgw i h
  simp only [h14,h15,h16,h17,h18,h21,this,decide_false,cond_false,Option.bind_some,Cf.toM,bI4]
end
theorem b45 {w:Wd} {fuel:Int} {N:Nat} {gl:St→Int→ByteArray→q9→Option (Int×Int×q9)} {T:q9→St×Int→q9} {sb:q9} {gq:Int→Int→Option (Fs×Bool)} {L:St→Int→ByteArray→Int×Int} {Q:Int→Int→Fs×Bool} (hN:1048578≤N)
  (hgq:∀k j x m,w9 w.classes k=some x→w9 x.methods j=some m→gq k j=some (Q k j)) (P:Cf→Prop)
  (hP:∀c,P c→c.err=0→c.fs≠[]→Wk w Q c∧b90 w gl L T sb c∧∃c1,aX5 w fuel L Q c=some c1∧mu fuel c1 < mu fuel c∧(c1.err=0→P c1)):∀(n:Nat) (c:Cf),(c.err=0→P c)→mu fuel c < n →
  ∃c',Path w fuel L Q c c'∧c'.done∧(c'.err=0→P c')∧Z0 N gl gq n (c.ev.foldl T sb) w.classes c.heap w.epoch fuel c.sends c.turns c.fs.reverse c.back.k c.back.n c.err =
   some (c'.ev.foldl T sb,w.classes,c'.heap,w.epoch,fuel,c'.sends,c'.turns,c'.fs.reverse,c'.back.k,c'.back.n,c'.err)
 |0,c,_,h=>by omega
 |n+1,c,hc,h=>by
  rw [Z0]
  by_cases he:c.err=0
  ·cases hfs:c.fs with
   |nil =>
    refine ⟨c,.refl c,.inr hfs,hc,?_⟩
    simp [he,hfs]
   |cons f F =>
    obtain ⟨W,hlk,c1,h1,h2,h3⟩:=hP c (hc he) he (by rw [hfs]; simp)
    obtain ⟨c',p1,p2,p3,p4⟩:=b45 hN hgq P hP n c1 h3 (by omega)
    refine ⟨c',.step he (by rw [hfs]; simp) h1 p1,p2,p3,?_⟩
    have hs:=cR1 hN hgq c W he hlk h1
    have hl:(0:Int) < ((f::F).reverse.length:Int):=by simp
    unfold Cf.toM at hs
    rw [hfs] at hs
    simp only [he,decide_true,cond_true,hl,Option.bind_some,bI4]
    rw [he] at hs
    rw [hs]
    simp only [Option.bind_some]
    exact p4
  ·refine ⟨c,.refl c,.inl he,hc,?_⟩
   simp [he]
theorem b91 {w:Wd} {N:Nat} {fuel:Int} {gl:St→Int→ByteArray→q9→Option (Int×Int×q9)} {sb:q9} {gq:Int→Int→Option (Fs×Bool)} (hs:Y1 w) (c:O4) (hw:M6 w c fuel≠0) :
  aK4 N w c fuel gl sb gq=some (w,⟨⟨0,0⟩,M6 w c fuel,0⟩,sb):=by
 unfold aK4
 rw [bN0]
 simp only [Option.bind_some]
 rw [decide_eq_false hw,aN0 N w hs]
 rfl
theorem cN9 {w:Wd} {N:Nat} {fuel:Int} {gl:St→Int→ByteArray→q9→Option (Int×Int×q9)} {T:q9→St×Int→q9} {sb:q9} {gq:Int→Int→Option (Fs×Bool)} {L:St→Int→ByteArray→Int×Int} {Q:Int→Int→Fs×Bool} (hN:4194304≤N) (hs:Y1 w) (hr:aO6 w)
  (hgq:∀k j x m,w9 w.classes k=some x→w9 x.methods j=some m→gq k j=some (Q k j)) (P:Cf→Prop)
  (hP:∀c,P c→c.err=0→c.fs≠[]→Wk w Q c∧b90 w gl L T sb c∧∃c1,aX5 w fuel L Q c=some c1∧mu fuel c1 < mu fuel c∧(c1.err=0→P c1))
  (hm:∀x∈w.classes,∀m∈x.methods,0≤m.temps∧m.temps≤1000) (hq:∀k j,(Q k j).2=true→0≤(Q k j).1.temps∧(Q k j).1.temps≤1000)
  (c:O4) (hw:M6 w c fuel=0) (c1:Cf) (hb:aT8 w fuel Q c=some c1) (hc1:c1.err=0→P c1) (hmu:mu fuel c1 < 1048576) :
  ∃c',Path w fuel L Q c1 c'∧c'.done∧(c'.err=0→P c')∧aK4 N w c fuel gl sb gq=some ((bI9 w c').1,(bI9 w c').2,c'.ev.foldl T sb):=by
 obtain ⟨h1,h2,h3,h4,h5,h6⟩:=bK0 hw
 obtain ⟨c',p1,p2,p3,p4⟩:=b45 (N:=N) (gl:=gl) (gq:=gq) (by omega) hgq P hP N c1 hc1 (by omega)
 have hev:c1.ev=[]:=by
  unfold aT8 at hb
  split at hb
  ·cases hb; rfl
  ·exact (aU1 hb).1
 rw [hev] at p4
 refine ⟨c',p1,p2,p3,?_⟩
 unfold aK4
 rw [bN0]
 simp only [Option.bind_some,hw,decide_true,Bool.not_true,cond_false,aN0 N w hs,aW0]
 have hf:aG5 N (⟨w.classes,w.heap,w.epoch⟩:Wd) (M3 w.heap c.self_) c.name=some (F5 w c.name (M3 w.heap c.self_)):=bK2 N w _ _ (by omega) hr hs
 rw [hf]
 simp only [Option.bind_some]
 have fin:(Z0 N gl gq N sb w.classes c1.heap w.epoch fuel c1.sends c1.turns c1.fs.reverse c1.back.k c1.back.n c1.err).bind (fun (v46,v47,v48,v49,v50,v51,v52,v53,v54,v55,v56) =>
   (bif (!decide (v56=(0:Int))) then ((aJ2 N w).bind fun r71=>some (r71,(⟨(⟨(0:Int),(0:Int)⟩:V),v56,v51⟩:aK0),v46)) else some ((⟨v47,v48,v49⟩:Wd),(⟨(⟨v54,v55⟩:V),(0:Int),v51⟩:aK0),v46)))=some ((bI9 w c').1,(bI9 w c').2,c'.ev.foldl T sb):=by
  rw [show sb=([]:List (St×Int)).foldl T sb from rfl,p4]
  simp only [Option.bind_some,aN0 N w hs,bI9]
  by_cases he:c'.err=0
  ·rw [decide_eq_true he,if_pos he]; rfl
  ·rw [decide_eq_false he,if_neg he]; rfl
 unfold aT8 at hb
 by_cases hj:(F5 w c.name (M3 w.heap c.self_)).2 < 0
 ·rw [if_pos hj] at hb
  cases hb
  rw [decide_eq_true hj]
  simp only [cond_true,aS2,Option.bind_some]
  simp only [aN0 N w hs] at fin
  exact fin
 ·rw [if_neg hj] at hb
  rw [decide_eq_false hj]
  have hself:c.self_.k=3→aR0 c.self_.n:=h5.num
  have hh:=bE3 hb
  have:=cE6 (N:=N) hgq hm hq (aO0 w) rfl (by simp [aO0]) (by simp [aO0]) (fun f hf=>by cases hf) _ _ c.self_ c.args hself (fun v hv hk=>(h6 v hv).num hk) (by omega) c1 hb
  have e:(aO0 w).toM w fuel=(⟨(⟨w.classes,w.heap,w.epoch⟩:Wd),fuel,0,0,[],⟨0,0⟩,0⟩:l7):=rfl
  rw [e] at this
  simp only [cond_false,this,Option.bind_some]
  simp only [aN0 N w hs] at fin
  rw [hh] at fin
  exact fin
end Go.Proofs.Ytahmeibkdhbngaa
