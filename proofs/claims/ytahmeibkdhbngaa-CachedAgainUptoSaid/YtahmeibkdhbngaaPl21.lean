import Derived.Test.YtahmeibkdhbngaaPl20
/- The machine, plainly: in a right world each step is one, and leaves it as it must be; it ends. No program in sight. -/
namespace Go.Proofs.Ytahmeibkdhbngaa
open Go.RowKit
set_option linter.unusedVariables false
theorem bR7 {N:Nat} {w:Wd} (h:aG6 N w):∀x∈w.classes,0≤x.slots∧x.slots≤6:=fun x hx=>by
 obtain ⟨j,hj⟩:=List.mem_iff_getElem?.1 hx
 have:=h.cls j x hj
 exact ⟨this.2.2.2.2.1,this.2.2.2.2.2⟩
theorem cM8 {w:Wd} (hw:∀x∈w.classes,0≤x.slots∧x.slots≤6) (hs:w.classes.length≤12) (c:Int):0≤F8 w c∧F8 w c≤78:=by
 have hl:=bS7 w (w.classes.length+1) c
 have h:=a11 hw (aD3 w (w.classes.length+1) c) 0 (by omega) (by omega)
 exact ⟨h.1,Int.le_trans h.2 (by omega)⟩
theorem cQ7 {w:Wd} {k:Int} {m:Me} {i:Ins} (h:aL5 w k m i=0):a94 w k m i=some true∧b84 i=false:=by
 unfold aL5 at h
 cases hn:a94 w k m i with
 |none=>rw [hn] at h; cases h
 |some b =>
  rw [hn] at h
  cases b with
  |false=>simp at h
  |true =>
   cases hf:b84 i with
   |true=>simp [hf] at h
   |false=>exact ⟨rfl,rfl⟩
theorem cW0 {w:Wd} {k:Int} {m:Me} {i:Ins} (h:aL5 w k m i=0) :
  ((i.op=1∨i.op=6∨i.op=7∨i.op=8∨i.op=9∨i.op=10∨i.op=17)∧i.a=0)∨(i.op=2∧0≤i.a∧i.a < m.args)∨((i.op=3∨i.op=11)∧0≤i.a∧i.a < m.temps) ∨
  ((i.op=4∨i.op=12)∧0≤i.a∧i.a < F8 w k)∨(i.op=5∧-1073741824≤i.a∧i.a≤1073741824)∨(i.op=13∧(i.a=0∨(4≤i.a∧i.a < w.classes.length)))∨(i.op=14∧0≤i.a∧i.a < 5) ∨
  ((i.op=15∨i.op=16)∧0≤i.a∧i.a < m.code.length):=by
 have h:=(cQ7 h).1
 unfold a94 at h
 (repeat' split at h)<;>simp only [Option.some.injEq,Bool.and_eq_true,Bool.or_eq_true,decide_eq_true_eq,reduceCtorEq] at h<;>simp_all
def J8 (n:Int) (v:V):Prop:=V8 v n=0
theorem J8.mono {n n':Int} {v:V} (h:J8 n v) (hn:n≤n'):J8 n' v:=by
 unfold J8 V8 at *
 (repeat' split at h)<;>first|(simp at h)|skip
 all_goals (repeat' split)<;>first|rfl|omega
theorem J8.num {n:Int} {v:V} (h:J8 n v) (hk:v.k=3):aR0 v.n:=by
 unfold J8 V8 at h
 simp only [hk] at h
 unfold aR0
 by_cases h1:v.n < -1073741824∨1073741824 < v.n
 ·simp [h1] at h
 ·omega
theorem J8.ref {n:Int} {v:V} (h:J8 n v) (hk:v.k=4):0≤v.n∧v.n < n:=by
 unfold J8 V8 at h
 simp only [hk] at h
 by_cases h1:v.n < 0∨n≤v.n
 ·simp [h1] at h
 ·omega
theorem J8.nil (n:Int):J8 n ⟨0,0⟩:=rfl
theorem J8.fls (n:Int):J8 n ⟨1,0⟩:=rfl
theorem J8.tru (n:Int):J8 n ⟨2,0⟩:=rfl
theorem J8.int (n:Int) {x:Int} (h:-1073741824≤x∧x≤1073741824):J8 n ⟨3,x⟩:=by
 unfold J8 V8
 have:¬(x < -1073741824∨1073741824 < x):=by omega
 simp [this]
theorem J8.obj {n:Int} {x:Int} (h:0≤x∧x < n):J8 n ⟨4,x⟩:=by
 unfold J8 V8
 have:¬(x < 0∨n≤x):=by omega
 simp [this]
theorem J8.prim {n p:Int} {a b:V} (h:(aI1 p a b).2=0):J8 n (aI1 p a b).1:=by
 have hp:∀x:Int,J8 n (bZ7 x):=fun x=>by
  refine J8.int n ?_
  have h1:=Int.tmod_lt_of_pos x (show (0:Int) < 1073741825 by omega)
  have h2:-1073741825 < x.tmod 1073741825:=by
   rcases Int.le_total 0 x with h|h
   ·have:=Int.tmod_nonneg (1073741825:Int) h; omega
   ·have:=Int.tmod_lt_of_pos (-x) (show (0:Int) < 1073741825 by omega)
    rw [Int.neg_tmod] at this
    omega
  omega
 unfold aI1 at *
 by_cases h0:a.k≠3∨b.k≠3
 ·rw [if_pos h0] at h; cases h
 rw [if_neg h0] at h ⊢
 by_cases h1:p=1
 ·rw [if_pos h1]; exact hp _
 rw [if_neg h1] at h ⊢
 by_cases h2:p=2
 ·rw [if_pos h2]; exact hp _
 rw [if_neg h2] at h ⊢
 by_cases h3:p=3
 ·rw [if_pos h3]; exact hp _
 rw [if_neg h3] at h ⊢
 by_cases h4:p=4
 ·rw [if_pos h4]; simp only; split<;>first|exact J8.tru n|exact J8.fls n
 rw [if_neg h4] at h ⊢
 by_cases h5:p=5
 ·rw [if_pos h5]; simp only; split<;>first|exact J8.tru n|exact J8.fls n
 rw [if_neg h5] at h
 cases h
structure MeH (w:Wd) (k:Int) (m:Me):Prop where
 args:0≤m.args∧m.args≤4
 temps:0≤m.temps∧m.temps≤6
 len:m.code.length≤60
 prim:m.prim=0
 num:∀i∈m.code,aL5 w k m i=0
 hgt:∃h,cF6 m h []∧h[0]?=some 0
structure WOk (w:Wd):Prop where
 cls:w.classes.length≤12
 slots:∀k,0≤F8 w k∧F8 w k≤78
 slots6:∀k:Int,0≤k→k < w.classes.length→F8 w k≤6
 ms:∀x∈w.classes,x.methods.length≤8
 code:∀x∈w.classes,∀m∈x.methods,m.code.length≤60
 meth:∀k x j m,w9 w.classes k=some x→w9 x.methods j=some m→MeH w k m∨(m.prim≠0∧m.args=1∧m.temps=0)
theorem WOk.temps {w:Wd} (W:WOk w):∀x∈w.classes,∀m∈x.methods,0≤m.temps∧m.temps≤1000:=fun x hx m hm=>by
 obtain ⟨k,hk⟩:=List.mem_iff_getElem?.1 hx
 obtain ⟨j,hj⟩:=List.mem_iff_getElem?.1 hm
 rcases W.meth k x j m (by rw [N7,hk]) (by rw [N7,hj]) with h|⟨_,_,h⟩
 ·have:=h.temps; omega
 ·omega
theorem cT6.meH {N:Nat} {w:Wd} {k:Int} {m:Me} (h:cT6 N w k m):MeH w k m:=by
 obtain ⟨h',e⟩:=h.hgt
 obtain ⟨h1,_,h2⟩:=b22 m h.neg N _ _ h' e (c47 m) c26
 exact ⟨h.args,h.temps,h.len.2,h.prim,h.num,h',h1,(h2 (0,0) (by simp)).2⟩
theorem cM5 : ∀p∈aM2,p.prim≠0:=by decide
theorem aG6.wOk {N:Nat} {w:Wd} (hN:4194304≤N) (hs:Y1 w) (h:aG6 N w):WOk w:=by
 have hsl:=bR7 h
 refine ⟨h.many.2.1,fun k=>cM8 hsl h.many.2.1 k,fun k h0 h1=>?_,fun x hx=>?_,fun x hx m hm=>?_,fun k x j m hx hm=>?_⟩
 ·obtain ⟨x,hx,_⟩:=aC1 h0 h1
  have:=(h.meth k.toNat x hx).1
  rwa [Int.toNat_of_nonneg h0] at this
 ·obtain ⟨k,hk⟩:=List.mem_iff_getElem?.1 hx
  exact (h.meth k x hk).2.1
 ·obtain ⟨k,hk⟩:=List.mem_iff_getElem?.1 hx
  exact (c92 (by omega) hs.1 h hk hm).len
 ·obtain ⟨h0,hx⟩:=C8 hx
  have hm:=aR2 hm
  rcases (h.meth k.toNat x hx).2.2.2 m hm with ⟨_,p,hp,_,h1,h2,h3,_⟩|⟨f,h1,h2⟩
  ·exact .inr ⟨by rw [←h1]; exact cM5 p hp,h2,h3⟩
  ·rw [Int.toNat_of_nonneg h0,aU7 N w k m (by omega) hs.1 (bM1 hsl hs.1 k)] at h1
   exact .inl (cQ8 h1 h2).meH
structure Fr (w:Wd) (n:Int) (m:Me) (h:List Int) (f:l6) (d:Nat):Prop where
 slow:f.fast=false
 meth:∃x,w9 w.classes f.class_=some x∧w9 x.methods f.method=some m
 code:f.code=m.code
 me:MeH w f.class_ m
 hi:cF6 m h []
 args:(f.args.length:Int)=m.args
 temps:(f.temps.length:Int)=m.temps
 pos:0≤f.at_
 at_:h[f.at_.toNat]?=some ((f.stack.length+d:Nat):Int)
 self:J8 n f.self_
 vargs:∀v∈f.args,J8 n v
 vtemps:∀v∈f.temps,J8 n v
 vstack:∀v∈f.stack,J8 n v
def aJ5 (w:Wd) (n:Int) (d:Nat) (f:l6):Prop:=∃m h,Fr w n m h f d
theorem aJ5.mono {w:Wd} {n n':Int} {d:Nat} {f:l6} (h:aJ5 w n d f) (hn:n≤n'):aJ5 w n' d f:=by
 obtain ⟨m,hh,F⟩:=h
 exact ⟨m,hh,F.slow,F.meth,F.code,F.me,F.hi,F.args,F.temps,F.pos,F.at_,F.self.mono hn,fun v hv=>(F.vargs v hv).mono hn,fun v hv=>(F.vtemps v hv).mono hn,fun v hv=>(F.vstack v hv).mono hn⟩
theorem Fr.len {w:Wd} {n:Int} {m:Me} {h:List Int} {f:l6} {d:Nat} (F:Fr w n m h f d):∃i,f.code[f.at_.toNat]?=some i∧w9 f.code f.at_=some i∧i∈m.code∧f.at_ < f.code.length∧f.stack.length+d≤12 ∧
  (O3 i f.at_).1≤((f.stack.length+d:Nat):Int)∧(i.op=17→f.stack.length+d=1)∧0≤wr (((f.stack.length+d:Nat):Int)+(O3 i f.at_).2.1) ∧
  ∀to∈(O3 i f.at_).2.2,0≤to∧h[to.toNat]?=some (wr (((f.stack.length+d:Nat):Int)+(O3 i f.at_).2.1)):=by
 have hlt:f.at_.toNat < m.code.length:=by
  have:=(List.getElem?_eq_some_iff.1 F.at_).1
  rw [F.hi.len] at this
  exact this
 have hi:m.code[f.at_.toNat]?=some m.code[f.at_.toNat]:=List.getElem?_eq_getElem hlt
 have:=F.hi.at_ f.at_.toNat _ _ F.at_ (by omega) hi
 rw [Int.toNat_of_nonneg F.pos] at this
 obtain ⟨a1,a2,a3,a4,a5⟩:=this
 refine ⟨m.code[f.at_.toNat],by rw [F.code,hi],by rw [F.code,aR6 F.pos,hi],List.getElem_mem hlt,by rw [F.code]; have:=F.pos; omega,by omega,a1,fun e=>by have:=a3 e; omega,a4,fun to hto=>?_⟩
 rcases a5 to hto with h|h
 ·cases h
 ·exact h
theorem Fr.go {w:Wd} {n:Int} {m:Me} {h:List Int} {f:l6} {d:Nat} (F:Fr w n m h f d) (to:Int) (T S:List V) (d':Nat) (h0:0≤to) (hto:h[to.toNat]?=some ((S.length+d':Nat):Int)) (hT:T.length=f.temps.length)
  (vT:∀v∈T,J8 n v) (vS:∀v∈S,J8 n v):Fr w n m h { f with at_:=to,temps:=T,stack:=S } d' :=
 ⟨F.slow,F.meth,F.code,F.me,F.hi,F.args,by rw [show ({ f with at_:=to,temps:=T,stack:=S }:l6).temps=T from rfl,hT]; exact F.temps,h0,hto,F.self,F.vargs,vT,vS⟩
def obN (w:Wd) (n:Int) (o:Ob):Prop:=0≤o.cls∧(0 < o.cls→4≤o.cls)∧o.cls < w.classes.length∧(o.slots.length:Int)=F8 w o.cls∧∀v∈o.slots,J8 n v
theorem obN.mono {w:Wd} {n n':Int} {o:Ob} (h:obN w n o) (hn:n≤n'):obN w n' o:=⟨h.1,h.2.1,h.2.2.1,h.2.2.2.1,fun v hv=>(h.2.2.2.2 v hv).mono hn⟩
structure aN1 (w:Wd) (h:List Ob):Prop where
 len:h.length≤60
 ob:∀o∈h,obN w (h.length:Int) o
def cS5 (w:Wd) (n:Int):List l6→Prop
 |[]=>True
 |f::F=>aJ5 w n 0 f∧∀g∈F,aJ5 w n 1 g
structure aW3 (w:Wd) (fuel:Int) (c:Cf):Prop where
 heap:aN1 w c.heap
 fl:c.fs.length≤20
 fs:cS5 w (c.heap.length:Int) c.fs
 sends:0≤c.sends∧c.sends≤fuel∧fuel≤400
 turns:0≤c.turns∧c.turns≤300
 back:J8 (c.heap.length:Int) c.back
theorem aW3.frs {w:Wd} {fuel:Int} {c:Cf} (I:aW3 w fuel c):∀f∈c.fs,∃d,aJ5 w (c.heap.length:Int) d f:=fun f hf=>by
 have h:=I.fs
 cases hc:c.fs with
 |nil=>rw [hc] at hf; cases hf
 |cons g G =>
  rw [hc] at h hf
  rcases List.mem_cons.1 hf with rfl|hf
  ·exact ⟨0,h.1⟩
  ·exact ⟨1,h.2 f hf⟩
theorem aW3.wk {w:Wd} {fuel:Int} {c:Cf} (W:WOk w) (I:aW3 w fuel c) {Q:Int→Int→Fs×Bool} (hQ:∀k j,(Q k j).2=true→0≤(Q k j).1.temps∧(Q k j).1.temps≤1000):Wk w Q c:=by
 refine ⟨by have:=W.cls; omega,W.temps,fun k=>by have:=W.slots k; omega,hQ,⟨by have:=I.heap.len; omega,fun o ho=>?_⟩,by have:=I.fl; omega,fun f hf=>?_,by have:=I.sends; omega,by have:=I.turns; omega⟩
 ·have h:=(I.heap.ob o ho).2.2.2.1
  have:=W.slots o.cls
  omega
 ·obtain ⟨d,m,h,F⟩:=I.frs f hf
  obtain ⟨i,_,_,_,_,h5,_⟩:=F.len
  exact ⟨by omega,by rw [F.code]; have:=F.me.len; omega,fun v hv hk=>(F.vstack v hv).num hk⟩
def pot (f:l6):Nat:=(f.code.length - f.at_).toNat+(if f.fast=true then 70 else 0)
def mu (fuel:Int) (c:Cf):Nat:=(c.fs.map pot).sum+1000*(fuel - c.sends).toNat+1000*(301 - c.turns).toNat
structure After (w:Wd) (fuel:Int) (c c':Cf):Prop where
 mu:mu fuel c' < mu fuel c
 sends:c.sends≤c'.sends∧c'.sends≤fuel
 heap:c.heap.length≤c'.heap.length
 inv:c'.err=0→aW3 w fuel c'
theorem cS5.tail {w:Wd} {n:Int} {f:l6} {F:List l6} (h:cS5 w n (f::F)):∀g∈F,aJ5 w n 1 g:=h.2
theorem cX9 {f:l6} (h:f.at_ < f.code.length):pot { f with at_:=f.at_+1 }+1=pot f:=by
 unfold pot
 simp only
 omega
theorem cD0 {w:Wd} {fuel:Int} {c:Cf} {v:V} (hh:aN1 w c.heap) (hl:c.fs.length≤20) (hf:∀g∈c.fs,aJ5 w (c.heap.length:Int) 1 g) (hs:0≤c.sends∧c.sends≤fuel∧fuel≤400) (ht:0≤c.turns∧c.turns≤300)
  (hb:J8 (c.heap.length:Int) c.back) (hv:J8 (c.heap.length:Int) v):aW3 w fuel (aI2 c v):=by
 unfold aI2
 cases hc:c.fs with
 |nil=>exact ⟨hh,by simp,by simp only; trivial,hs,ht,hv⟩
 |cons f F =>
  rw [hc] at hl hf
  refine ⟨hh,by simpa using hl,⟨?_,fun g hg=>hf g (by simp [hg])⟩,hs,ht,hb⟩
  obtain ⟨m,h,R⟩:=hf f (by simp)
  refine ⟨m,h,R.slow,R.meth,R.code,R.me,R.hi,R.args,R.temps,R.pos,?_,R.self,R.vargs,R.vtemps,fun u hu=>?_⟩
  ·rw [show (aA9 f v).at_=f.at_ from rfl,R.at_]
   simp [aA9]
  ·simp only [aA9,List.mem_append,List.mem_singleton] at hu
   rcases hu with hu|rfl
   ·exact R.vstack u hu
   ·exact hv
theorem cH9 {fuel:Int} {c:Cf} {v:V}:mu fuel (aI2 c v)=mu fuel c:=by
 unfold aI2
 cases hc:c.fs with
 |nil=>simp [mu,hc]
 |cons f F=>simp [mu,hc,pot,aA9]
theorem aQ3 (c:Cf) (v:V):(aI2 c v).sends=c.sends∧(aI2 c v).turns=c.turns∧(aI2 c v).err=c.err∧(aI2 c v).ev=c.ev:=by
 unfold aI2
 split<;>exact ⟨rfl,rfl,rfl,rfl⟩
theorem b40 {Q:Int→Int→Fs×Bool} (hQ:∀k j,(Q k j).2=false) (k j:Int) (m:Me) (self:V) (args:List V):b29 Q k j m self args=⟨k,j,false,m.code,self,args,List.replicate m.temps.toNat ⟨0,0⟩,[],0⟩:=by
 unfold b29
 rw [hQ]
 rfl
theorem cA8 {w:Wd} {fuel:Int} {Q:Int→Int→Fs×Bool} (W:WOk w) (hQ:∀k j,(Q k j).2=false) (c:Cf) (he:c.err=0) (hh:aN1 w c.heap) (hl:c.fs.length≤20) (hf:∀g∈c.fs,aJ5 w (c.heap.length:Int) 1 g)
  (hs:0≤c.sends∧c.sends≤fuel∧fuel≤400) (ht:0≤c.turns∧c.turns≤300) (hb:J8 (c.heap.length:Int) c.back) (k j:Int) (self:V) (args:List V) (hself:J8 (c.heap.length:Int) self) (hargs:∀v∈args,J8 (c.heap.length:Int) v)
  (hx:∃x m,w9 w.classes k=some x∧w9 x.methods j=some m):∃c',aN2 w fuel Q c k j self args=some c'∧c.sends≤c'.sends∧c'.sends≤fuel∧c'.heap=c.heap∧mu fuel c'≤mu fuel c∧(c'.err=0→aW3 w fuel c'):=by
 obtain ⟨x,m,hx,hm⟩:=hx
 unfold aN2
 rw [hx]
 simp only [Option.bind_some]
 rw [hm]
 simp only [Option.bind_some]
 by_cases h1:m.args=args.length
 ·rw [if_neg (by simpa using h1)]
  by_cases h2:m.prim=0
  ·rw [if_neg (by simpa using h2)]
   by_cases h3:fuel≤c.sends
   ·rw [if_pos h3]
    exact ⟨_,rfl,Int.le_refl _,hs.2.1,rfl,Nat.le_refl _,fun h=>by cases h⟩
   rw [if_neg h3]
   by_cases h4:20≤c.fs.length
   ·rw [if_pos h4]
    exact ⟨_,rfl,Int.le_refl _,hs.2.1,rfl,Nat.le_refl _,fun h=>by cases h⟩
   rw [if_neg h4]
   have hM:MeH w k m:=by
    rcases W.meth k x j m hx hm with h|h
    ·exact h
    ·exact absurd h2 h.1
   refine ⟨_,rfl,by simp only; omega,by simp only; omega,rfl,?_,fun _=>⟨hh,by simp only [List.length_cons]; omega,⟨?_,hf⟩,by simp only; omega,ht,hb⟩⟩
   ·have hc:=hM.len
    simp only [mu,List.map_cons,List.sum_cons,b40 hQ,pot]
    simp only [Bool.false_eq_true,if_false]
    omega
   ·obtain ⟨h,hi,h0⟩:=hM.hgt
    rw [b40 hQ]
    refine ⟨m,h,rfl,⟨x,hx,hm⟩,rfl,hM,hi,by rw [h1],?_,Int.le_refl _,by simpa using h0,hself,hargs,fun v hv=>?_,fun v hv=>by cases hv⟩
    ·have:=hM.temps
     simp only [List.length_replicate]
     omega
    ·rw [(List.mem_replicate.1 hv).2]; exact J8.nil _
  ·rw [if_pos (by simpa using h2)]
   by_cases h3:fuel≤c.sends
   ·rw [if_pos h3]
    exact ⟨_,rfl,Int.le_refl _,hs.2.1,rfl,Nat.le_refl _,fun h=>by cases h⟩
   rw [if_neg h3]
   have ha:m.args=1:=by
    rcases W.meth k x j m hx hm with h|h
    ·exact absurd h.prim h2
    ·exact h.2.1
   obtain ⟨a,_,ha⟩:=aC1 (l:=args) (i:=0) (Int.le_refl _) (by omega)
   rw [ha]
   simp only [Option.bind_some]
   by_cases h4:(aI1 m.prim self a).2=0
   ·rw [if_neg (by simpa using h4)]
    refine ⟨_,rfl,by rw [(aQ3 _ _).1]; simp only; omega,by rw [(aQ3 _ _).1]; simp only; omega,a13 _ _,?_,fun _=>?_⟩
    ·rw [cH9]
     simp only [mu]
     omega
    ·exact cD0 hh hl hf ⟨by simp only; omega,by simp only; omega,hs.2.2⟩ ht hb (J8.prim h4)
   ·rw [if_pos (by simpa using h4)]
    exact ⟨_,rfl,by simp only [Z7]; omega,by simp only [Z7]; omega,rfl,by simp only [mu,Z7]; omega,fun h=>absurd h h4⟩
 ·rw [if_pos (by simpa using h1)]
  exact ⟨_,rfl,Int.le_refl _,hs.2.1,rfl,Nat.le_refl _,fun h=>by cases h⟩
theorem aP1 {i:Ins} {p:Int} (h:i.op=1∨i.op=2∨i.op=3∨i.op=4∨i.op=5∨i.op=6∨i.op=7∨i.op=8∨i.op=13):O3 i p=(0,1,[wr (p+1)]):=by
 unfold O3
 rcases h with h|h|h|h|h|h|h|h|h<;>simp [h]
theorem bV4 {i:Ins} {p:Int} (h:i.op=9∨i.op=11∨i.op=12):O3 i p=(1,-1,[wr (p+1)]):=by
 unfold O3
 simp [h]
theorem cO8 {i:Ins} {p:Int} (h:i.op=10):O3 i p=(1,1,[wr (p+1)]):=by
 unfold O3
 simp [h]
theorem c41 {i:Ins} {p:Int} (h:i.op=14):O3 i p=(wr (i.a+1),-i.a,[wr (p+1)]):=by
 unfold O3
 simp [h]
theorem c45 {i:Ins} {p:Int} (h:i.op=15):O3 i p=(0,0,[i.a]):=by
 unfold O3
 simp [h]
theorem cI0 {i:Ins} {p:Int} (h:i.op=16):O3 i p=(1,-1,[wr (p+1),i.a]):=by
 unfold O3
 simp [h]
section
variable {w:Wd} {fuel:Int} {c:Cf} {f:l6} {F:List l6}
theorem aL2 (I:aW3 w fuel c) (hfs:c.fs=f::F) {c':Cf} {g:l6} (e1:c'.fs=g::F) (e2:c'.sends=c.sends) (e3:c'.turns=c.turns) (e4:c'.back=c.back) (hH:aN1 w c'.heap) (hle:c.heap.length≤c'.heap.length)
  (hp:pot g+1=pot f) (hg:c'.err=0→aJ5 w (c'.heap.length:Int) 0 g):After w fuel c c':=by
 have hfs2:=I.fs
 have hfl:=I.fl
 rw [hfs] at hfs2 hfl
 refine ⟨?_,by rw [e2]; exact ⟨Int.le_refl _,I.sends.2.1⟩,hle,fun he=>⟨hH,by rw [e1]; simpa using hfl,?_,by rw [e2]; exact I.sends,by rw [e3]; exact I.turns,by rw [e4]; exact I.back.mono (by omega)⟩⟩
 ·simp only [mu,e1,e2,e3,hfs,List.map_cons,List.sum_cons]
  omega
 ·rw [e1]
  exact ⟨hg he,fun x hx=>(hfs2.2 x hx).mono (by omega)⟩
theorem cI8 (I:aW3 w fuel c) (hfs:c.fs=f::F) (g:l6) (hat:g.at_=f.at_+1) (hc:g.code=f.code) (hf:g.fast=f.fast) (hcl:f.code.length≤1000) (hsl:f.fast=false) (h0:0≤f.at_∧f.at_ < f.code.length) (to:Int) (hto:0≤to) (he:c.err=0)
  (hg:aJ5 w (c.heap.length:Int) 0 { g with at_:=to }) (hcl60:f.code.length≤60):After w fuel c (aX2 c g F to):=by
 have hfs2:=I.fs
 have hfl:=I.fl
 have ht:=I.turns
 rw [hfs] at hfs2 hfl
 unfold aX2
 by_cases h:to < g.at_
 ·rw [if_pos h]
  refine ⟨?_,⟨Int.le_refl _,I.sends.2.1⟩,Nat.le_refl _,fun he'=>⟨I.heap,by simpa using hfl,⟨hg,hfs2.2⟩,I.sends,?_,I.back⟩⟩
  ·simp only [mu,hfs,List.map_cons,List.sum_cons,pot,hc,hf,hsl]
   simp only [Bool.false_eq_true,if_false]
   omega
  ·simp only at he' ⊢
   by_cases h3:300 < c.turns+1
   ·rw [if_pos h3] at he'; cases he'
   ·omega
 ·rw [if_neg h]
  refine ⟨?_,⟨Int.le_refl _,I.sends.2.1⟩,Nat.le_refl _,fun he'=>⟨I.heap,by simpa using hfl,⟨hg,hfs2.2⟩,I.sends,I.turns,I.back⟩⟩
  simp only [mu,hfs,List.map_cons,List.sum_cons,pot,hc,hf,hsl]
  simp only [Bool.false_eq_true,if_false]
  omega
theorem c56 {n:Int} {h:List Ob} (hh:aN1 w h) (hn:n=h.length) (v:V) (k:Int):J8 n (bQ3 h v k):=by
 unfold bQ3
 split
 ·split
  ·rename_i o ho
   rw [List.getD_eq_getElem?_getD]
   cases hs:o.slots[k.toNat]? with
   |none=>exact J8.nil n
   |some x =>
    have:=(hh.ob o (List.mem_of_getElem? ho)).2.2.2.2 x (List.mem_of_getElem? hs)
    rw [hn]
    exact this
  ·exact J8.nil n
 ·exact J8.nil n
theorem dA2 {h:List Ob} (hh:aN1 w h) {o v:V} {k:Int} (ho:J8 (h.length:Int) o) (hv:J8 (h.length:Int) v) (hk:0≤k):∃h',b25 h o k v=some h'∧aN1 w h'∧h'.length=h.length:=by
 unfold b25
 by_cases h4:o.k=4
 ·rw [if_pos h4]
  have hr:=ho.ref h4
  rw [if_pos hr.1]
  obtain ⟨b,hb,_⟩:=aC1 hr.1 hr.2
  rw [hb]
  simp only
  by_cases hs:k < (b.slots.length:Int)
  ·rw [if_pos hs,if_pos hk]
   refine ⟨_,rfl,⟨by rw [List.length_set]; exact hh.len,fun x hx=>?_⟩,List.length_set⟩
   rw [List.length_set]
   rcases List.mem_or_eq_of_mem_set hx with hx|rfl
   ·exact hh.ob x hx
   ·have hB:=hh.ob b (List.mem_of_getElem? hb)
    refine ⟨hB.1,hB.2.1,hB.2.2.1,by simp only [List.length_set]; exact hB.2.2.2.1,fun u hu=>?_⟩
    rcases List.mem_or_eq_of_mem_set hu with hu|rfl
    ·exact hB.2.2.2.2 u hu
    ·exact hv
  ·rw [if_neg hs]; exact ⟨_,rfl,hh,rfl⟩
 ·rw [if_neg h4]; exact ⟨_,rfl,hh,rfl⟩
theorem c77 (W:WOk w) {h:List Ob} (hh:aN1 w h) (hl:h.length < 60) {a:Int} (ha:a=0∨(4≤a∧a < w.classes.length)) (h1:0 < w.classes.length):aN1 w (h++[⟨a,List.replicate (F8 w a).toNat ⟨0,0⟩⟩]):=by
 refine ⟨by simp; omega,fun o ho=>?_⟩
 rcases List.mem_append.1 ho with ho|ho
 ·exact (hh.ob o ho).mono (by simp; omega)
 ·simp only [List.mem_singleton] at ho
  subst ho
  have:=W.slots a
  exact ⟨by simp only; omega,by simp only; omega,by simp only; omega,by simp only [List.length_replicate]; omega,fun v hv=>by rw [(List.mem_replicate.1 hv).2]; exact J8.nil _⟩
theorem bM3 {l:List V} (h:1≤l.length):∃v,l.getLast?=some v∧v∈l:=by
 cases hl:l.getLast? with
 |none=>rw [List.getLast?_eq_none_iff] at hl; subst hl; simp at h
 |some v=>exact ⟨v,rfl,List.mem_of_getLast? hl⟩
theorem bF4 {f:l6} (h:1≤f.stack.length):∃v,aK5 f=some (v,{ f with stack:=f.stack.dropLast })∧v∈f.stack:=by
 obtain ⟨v,h1,h2⟩:=bM3 h
 exact ⟨v,by unfold aK5; rw [h1]; rfl,h2⟩
theorem b99 {Q:Int→Int→Fs×Bool} (W:WOk w) (h1:0 < w.classes.length) (hQ:∀k j,(Q k j).2=false) (I:aW3 w fuel c) (he:c.err=0) (hfs:c.fs=f::F):∃c',aX5 w fuel (fun _ k s=>F5 w s k) Q c=some c'∧After w fuel c c':=by
 have hF:=I.fs
 have hfl:=I.fl
 rw [hfs] at hF hfl
 simp only [List.length_cons] at hfl
 obtain ⟨⟨m,h,R⟩,hF⟩:=hF
 obtain ⟨i,hi1,hi2,him,hlt,h12,hneed,hback,hpos,hnext⟩:=R.len
 simp only [Nat.add_zero] at h12 hneed hback hpos hnext
 have hat:=R.pos
 have hme:=R.me
 have hcl:f.code.length≤60:=by rw [R.code]; exact hme.len
 have wat:wr (f.at_+1)=f.at_+1:=I4 (by unfold F9; omega)
 have hops:=cW0 (hme.num i him)
 have hpt:=cX9 hlt
 unfold aX5
 rw [hfs]
 simp only [hi2,Option.bind_some]
 have push:∀v:V,J8 (c.heap.length:Int) v→O3 i f.at_=(0,1,[wr (f.at_+1)])→∀n:Int,(c.heap.length:Int)≤n→aJ5 w n 0 (aA9 { f with at_:=f.at_+1 } v):=by
  intro v hv hx n hn
  rw [hx] at hnext
  have:=hnext (wr (f.at_+1)) (by simp)
  rw [wat] at this
  simp only at this
  rw [I4 (by unfold F9; omega)] at this
  refine aJ5.mono ⟨m,h,R.go (f.at_+1) f.temps (f.stack++[v]) 0 (by omega) (by rw [this.2]; simp) rfl R.vtemps (fun u hu=>?_)⟩ hn
  rcases List.mem_append.1 hu with hu|hu
  ·exact R.vstack u hu
  ·rw [List.mem_singleton.1 hu]; exact hv
 have pushN:∀v:V,J8 (c.heap.length:Int) v→O3 i f.at_=(0,1,[wr (f.at_+1)])→After w fuel c { c with fs:=aA9 { f with at_:=f.at_+1 } v::F }:=fun v hv hx =>
  aL2 I hfs rfl rfl rfl rfl I.heap (Nat.le_refl _) hpt fun _=>push v hv hx _ (Int.le_refl _)
 have drop:∀v:V,aK5 f=some (v,{ f with stack:=f.stack.dropLast })→O3 i f.at_=(1,-1,[wr (f.at_+1)])→∀T:List V,T.length=f.temps.length→(∀u∈T,J8 (c.heap.length:Int) u) →
   aJ5 w (c.heap.length:Int) 0 { f with at_:=f.at_+1,temps:=T,stack:=f.stack.dropLast }:=by
  intro v hv hx T hT hT2
  rw [hx] at hnext hneed
  have:=hnext (wr (f.at_+1)) (by simp)
  rw [wat] at this
  simp only at this hneed
  rw [I4 (by unfold F9; omega)] at this
  exact ⟨m,h,R.go (f.at_+1) T f.stack.dropLast 0 (by omega) (by rw [this.2,List.length_dropLast]; congr 1; omega) hT hT2 fun u hu=>R.vstack u ((List.dropLast_sublist _).subset hu)⟩
 by_cases o14:i.op=14
 ·rw [if_pos o14]
  rw [c41 o14] at hneed hnext
  have ha:0≤i.a∧i.a < 5:=by
   rcases hops with ⟨h,_⟩|⟨h,_⟩|⟨h,_⟩|⟨h,_⟩|⟨h,_⟩|⟨h,_⟩|⟨_,h⟩|⟨h,_⟩<;>omega
  rw [I4 (by unfold F9; omega)] at hneed
  simp only at hneed
  obtain ⟨cl,hcl2,hm⟩:=R.meth
  have hx:=hnext (wr (f.at_+1)) (by simp)
  rw [wat] at hx
  simp only at hx
  rw [I4 (by unfold F9; omega)] at hx
  unfold bQ7
  rw [if_pos (by simp only; omega)]
  have hlen:f.stack.length - i.a.toNat - 1 < f.stack.length:=by omega
  simp only [List.getElem?_eq_getElem hlen,hcl2,hm,Option.bind_some]
  have hself:J8 (c.heap.length:Int) f.stack[f.stack.length - i.a.toNat - 1]:=R.vstack _ (List.getElem_mem hlen)
  by_cases hj:(F5 w i.name (M3 c.heap f.stack[f.stack.length - i.a.toNat - 1])).2 < 0
  ·rw [if_pos hj]
   exact ⟨_,rfl,aL2 I hfs rfl rfl rfl rfl I.heap (Nat.le_refl _) hpt fun e=>by cases e⟩
  ·rw [if_neg hj]
   obtain ⟨x',m',hx',hm',_⟩:=bI6 (w:=w) (s:=i.name) (c:=M3 c.heap f.stack[f.stack.length - i.a.toNat - 1]) (by omega)
   have hg:aJ5 w (c.heap.length:Int) 1 { f with at_:=f.at_+1,stack:=f.stack.take (f.stack.length - i.a.toNat - 1) } :=
    ⟨m,h,R.go (f.at_+1) f.temps (f.stack.take (f.stack.length - i.a.toNat - 1)) 1 (by omega) (by rw [hx.2]; congr 1; simp; omega) rfl R.vtemps fun u hu=>R.vstack u (List.mem_of_mem_take hu)⟩
   obtain ⟨c',h1',h2',h3',h4',h5',h6'⟩:=cA8 (Q:=Q) (fuel:=fuel) W hQ { c with fs:={ f with at_:=f.at_+1,stack:=f.stack.take (f.stack.length - i.a.toNat - 1) }::F,ev:=c.ev++[(O1 { f with at_:=f.at_+1 } m i f.at_,M3 c.heap f.stack[f.stack.length - i.a.toNat - 1])] }
    he I.heap (by simp; omega) (fun g hg'=>by
     rcases List.mem_cons.1 hg' with rfl|hg'
     ·exact hg
     ·exact hF g hg') I.sends I.turns I.back _ _ _ (f.stack.drop (f.stack.length - i.a.toNat)) hself (fun v hv=>R.vstack v (List.mem_of_mem_drop hv)) ⟨x',m',hx',hm'⟩
   refine ⟨c',h1',?_,⟨h2',h3'⟩,by rw [h4']; exact Nat.le_refl _,h6'⟩
   refine Nat.lt_of_le_of_lt h5' ?_
   simp only [mu,hfs,List.map_cons,List.sum_cons]
   have:pot { f with at_:=f.at_+1,stack:=f.stack.take (f.stack.length - i.a.toNat - 1) }=pot { f with at_:=f.at_+1 }:=rfl
   rw [this]
   omega
 rw [if_neg o14]
 by_cases o15:i.op=15
 ·rw [if_pos o15]
  rw [c45 o15] at hnext
  have hx:=hnext i.a (by simp)
  simp only [Int.add_zero] at hx
  rw [I4 (by unfold F9; omega)] at hx
  refine ⟨_,rfl,cI8 I hfs { f with at_:=f.at_+1 } rfl rfl rfl (by omega) R.slow ⟨hat,hlt⟩ i.a hx.1 he ?_ hcl⟩
  exact ⟨m,h,R.go i.a f.temps f.stack 0 hx.1 (by rw [hx.2]; rfl) rfl R.vtemps R.vstack⟩
 rw [if_neg o15]
 by_cases o16:i.op=16
 ·rw [if_pos o16]
  have hn1:1≤f.stack.length:=by rw [cI0 o16] at hneed; simp only at hneed; omega
  obtain ⟨v,hv,hvm⟩:=bF4 (f:={ f with at_:=f.at_+1 }) hn1
  rw [hv]
  rw [cI0 o16] at hnext
  have hx:=hnext i.a (by simp)
  have hy:=hnext (wr (f.at_+1)) (by simp)
  rw [wat] at hy
  simp only at hx hy
  rw [I4 (by unfold F9; omega)] at hx hy
  have hd:(f.stack.length:Int)+-1=((f.stack.dropLast.length:Nat):Int):=by rw [List.length_dropLast]; omega
  have hy':aJ5 w (c.heap.length:Int) 0 { f with at_:=f.at_+1,stack:=f.stack.dropLast }:=⟨m,h,R.go (f.at_+1) f.temps f.stack.dropLast 0 (by omega) (by rw [hy.2,hd]; rfl) rfl R.vtemps fun u hu=>R.vstack u ((List.dropLast_sublist _).subset hu)⟩
  refine ⟨_,rfl,?_⟩
  unfold b87
  by_cases k1:v.k=1
  ·rw [if_pos k1]
   refine cI8 I hfs { f with at_:=f.at_+1,stack:=f.stack.dropLast } rfl rfl rfl (by omega) R.slow ⟨hat,hlt⟩ i.a hx.1 he ?_ hcl
   exact ⟨m,h,R.go i.a f.temps f.stack.dropLast 0 hx.1 (by rw [hx.2,hd]; rfl) rfl R.vtemps fun u hu=>R.vstack u ((List.dropLast_sublist _).subset hu)⟩
  ·rw [if_neg k1]
   by_cases k2:v.k=2
   ·rw [if_pos k2]
    exact aL2 I hfs rfl rfl rfl rfl I.heap (Nat.le_refl _) hpt fun _=>hy'
   ·rw [if_neg k2]
    exact aL2 I hfs rfl rfl rfl rfl I.heap (Nat.le_refl _) hpt fun e=>by cases e
 rw [if_neg o16]
 by_cases o17:i.op=17
 ·rw [if_pos o17]
  have hn1:1≤f.stack.length:=by have:=hback o17; omega
  obtain ⟨v,hv,hvm⟩:=bF4 (f:={ f with at_:=f.at_+1 }) hn1
  rw [hv]
  refine ⟨_,rfl,?_,?_,?_,fun e=>?_⟩
  ·rw [cH9]
   simp only [mu,hfs,List.map_cons,List.sum_cons]
   omega
  ·rw [(aQ3 _ _).1]; exact ⟨Int.le_refl _,I.sends.2.1⟩
  ·rw [a13]; exact Nat.le_refl _
  ·exact cD0 I.heap (by simp only; omega) hF I.sends I.turns I.back (R.vstack v hvm)
 rw [if_neg o17]
 have o18:¬i.op=18:=by
  rcases hops with ⟨h,_⟩|⟨h,_⟩|⟨h,_⟩|⟨h,_⟩|⟨h,_⟩|⟨h,_⟩|⟨h,_⟩|⟨h,_⟩<;>omega
 have o21:¬i.op=21:=by
  rcases hops with ⟨h,_⟩|⟨h,_⟩|⟨h,_⟩|⟨h,_⟩|⟨h,_⟩|⟨h,_⟩|⟨h,_⟩|⟨h,_⟩<;>omega
 rw [if_neg o18,if_neg o21]
 have o19:¬i.op=19:=by
  rcases hops with ⟨h,_⟩|⟨h,_⟩|⟨h,_⟩|⟨h,_⟩|⟨h,_⟩|⟨h,_⟩|⟨h,_⟩|⟨h,_⟩<;>omega
 have o20:¬i.op=20:=by
  rcases hops with ⟨h,_⟩|⟨h,_⟩|⟨h,_⟩|⟨h,_⟩|⟨h,_⟩|⟨h,_⟩|⟨h,_⟩|⟨h,_⟩<;>omega
 unfold bP2
 by_cases o1:i.op=1
 ·rw [if_pos o1]; exact ⟨_,rfl,pushN _ R.self (aP1 (by omega))⟩
 rw [if_neg o1]
 by_cases o2:i.op=2
 ·rw [if_pos o2]
  have ha:0≤i.a∧i.a < m.args:=by
   rcases hops with ⟨h,_⟩|⟨h,_⟩|⟨h,_⟩|⟨h,_⟩|⟨h,_⟩|⟨h,_⟩|⟨h,_⟩|⟨h,_⟩<;>omega
  obtain ⟨v,hv1,hv⟩:=aC1 (l:=f.args) ha.1 (by rw [R.args]; exact ha.2)
  simp only [hv,Option.map_some]
  exact ⟨_,rfl,pushN v (R.vargs v (aR2 hv)) (aP1 (by omega))⟩
 rw [if_neg o2]
 by_cases o3:i.op=3
 ·rw [if_pos o3]
  have ha:0≤i.a∧i.a < m.temps:=by
   rcases hops with ⟨h,_⟩|⟨h,_⟩|⟨h,_⟩|⟨h,_⟩|⟨h,_⟩|⟨h,_⟩|⟨h,_⟩|⟨h,_⟩<;>omega
  obtain ⟨v,hv1,hv⟩:=aC1 (l:=f.temps) ha.1 (by rw [R.temps]; exact ha.2)
  simp only [hv,Option.map_some]
  exact ⟨_,rfl,pushN v (R.vtemps v (aR2 hv)) (aP1 (by omega))⟩
 rw [if_neg o3]
 by_cases o4:i.op=4
 ·rw [if_pos o4]; exact ⟨_,rfl,pushN _ (c56 I.heap rfl _ _) (aP1 (by omega))⟩
 rw [if_neg o4]
 by_cases o5:i.op=5
 ·rw [if_pos o5]
  have ha:-1073741824≤i.a∧i.a≤1073741824:=by
   rcases hops with ⟨h,_⟩|⟨h,_⟩|⟨h,_⟩|⟨h,_⟩|⟨_,h⟩|⟨h,_⟩|⟨h,_⟩|⟨h,_⟩<;>omega
  exact ⟨_,rfl,pushN _ (J8.int _ ha) (aP1 (by omega))⟩
 rw [if_neg o5]
 by_cases o6:i.op=6
 ·rw [if_pos o6]; exact ⟨_,rfl,pushN _ (J8.nil _) (aP1 (by omega))⟩
 rw [if_neg o6]
 by_cases o7:i.op=7
 ·rw [if_pos o7]; exact ⟨_,rfl,pushN _ (J8.fls _) (aP1 (by omega))⟩
 rw [if_neg o7]
 by_cases o8:i.op=8
 ·rw [if_pos o8]; exact ⟨_,rfl,pushN _ (J8.tru _) (aP1 (by omega))⟩
 rw [if_neg o8]
 have need1:i.op=9∨i.op=11∨i.op=12→1≤f.stack.length:=fun hh=>by rw [bV4 hh] at hneed; simp only at hneed; omega
 by_cases o9:i.op=9
 ·rw [if_pos o9]
  obtain ⟨v,hv,hvm⟩:=bF4 (f:=f) (need1 (by omega))
  have hv':aK5 { f with at_:=f.at_+1 }=some (v,{ f with at_:=f.at_+1,stack:=f.stack.dropLast }):=by
   obtain ⟨h1,_⟩:=aN3 hv
   unfold aK5
   rw [show ({ f with at_:=f.at_+1 }:l6).stack=f.stack from rfl,h1]
   rfl
  rw [hv']
  exact ⟨_,rfl,aL2 I hfs rfl rfl rfl rfl I.heap (Nat.le_refl _) hpt fun _=>drop v hv (bV4 (by omega)) f.temps rfl R.vtemps⟩
 rw [if_neg o9]
 by_cases o10:i.op=10
 ·rw [if_pos o10]
  have hn1:1≤f.stack.length:=by rw [cO8 o10] at hneed; simp only at hneed; omega
  obtain ⟨v,hv,hvm⟩:=bM3 (l:=f.stack) hn1
  simp only [hv,Option.map_some]
  refine ⟨_,rfl,aL2 I hfs rfl rfl rfl rfl I.heap (Nat.le_refl _) hpt fun _=>?_⟩
  rw [cO8 o10] at hnext
  have:=hnext (wr (f.at_+1)) (by simp)
  rw [wat] at this
  simp only at this
  rw [I4 (by unfold F9; omega)] at this
  refine ⟨m,h,R.go (f.at_+1) f.temps (f.stack++[v]) 0 (by omega) (by rw [this.2]; simp) rfl R.vtemps (fun u hu=>?_)⟩
  rcases List.mem_append.1 hu with hu|hu
  ·exact R.vstack u hu
  ·rw [List.mem_singleton.1 hu]; exact R.vstack v hvm
 rw [if_neg o10]
 by_cases o11:i.op=11
 ·rw [if_pos o11]
  obtain ⟨v,hv,hvm⟩:=bF4 (f:=f) (need1 (by omega))
  have hv':aK5 { f with at_:=f.at_+1 }=some (v,{ f with at_:=f.at_+1,stack:=f.stack.dropLast }):=by
   obtain ⟨h1,_⟩:=aN3 hv
   unfold aK5
   rw [show ({ f with at_:=f.at_+1 }:l6).stack=f.stack from rfl,h1]
   rfl
  have ha:0≤i.a∧i.a < m.temps:=by
   rcases hops with ⟨h,_⟩|⟨h,_⟩|⟨h,_⟩|⟨h,_⟩|⟨h,_⟩|⟨h,_⟩|⟨h,_⟩|⟨h,_⟩<;>omega
  simp only [hv',Option.bind_some]
  rw [if_pos ⟨ha.1,by rw [R.temps]; exact ha.2⟩]
  refine ⟨_,rfl,aL2 I hfs rfl rfl rfl rfl I.heap (Nat.le_refl _) hpt fun _=>drop v hv (bV4 (by omega)) (f.temps.set i.a.toNat v) List.length_set fun u hu=>?_⟩
  rcases List.mem_or_eq_of_mem_set hu with hu|rfl
  ·exact R.vtemps u hu
  ·exact R.vstack _ hvm
 rw [if_neg o11]
 by_cases o12:i.op=12
 ·rw [if_pos o12]
  obtain ⟨v,hv,hvm⟩:=bF4 (f:=f) (need1 (by omega))
  have hv':aK5 { f with at_:=f.at_+1 }=some (v,{ f with at_:=f.at_+1,stack:=f.stack.dropLast }):=by
   obtain ⟨h1,_⟩:=aN3 hv
   unfold aK5
   rw [show ({ f with at_:=f.at_+1 }:l6).stack=f.stack from rfl,h1]
   rfl
  have ha:0≤i.a:=by
   rcases hops with ⟨h,_⟩|⟨h,_⟩|⟨h,_⟩|⟨h,_⟩|⟨h,_⟩|⟨h,_⟩|⟨h,_⟩|⟨h,_⟩<;>omega
  obtain ⟨H',e1,e2,e3⟩:=dA2 I.heap (o:=f.self_) (v:=v) (k:=i.a) R.self (R.vstack v hvm) ha
  simp only [hv',Option.bind_some,e1,Option.map_some]
  refine ⟨_,rfl,aL2 I hfs rfl rfl rfl rfl e2 (by simp only [e3]; exact Nat.le_refl _) hpt fun _=>?_⟩
  simp only [e3]
  exact drop v hv (bV4 (by omega)) f.temps rfl R.vtemps
 rw [if_neg o12,if_neg o19,if_neg o20]
 by_cases o13:i.op=13
 ·rw [if_pos o13]
  have ha:i.a=0∨(4≤i.a∧i.a < w.classes.length):=by
   rcases hops with ⟨h,_⟩|⟨h,_⟩|⟨h,_⟩|⟨h,_⟩|⟨h,_⟩|⟨_,h⟩|⟨h,_⟩|⟨h,_⟩<;>omega
  by_cases h60:60≤c.heap.length
  ·rw [if_pos h60]
   exact ⟨_,rfl,aL2 I hfs rfl rfl rfl rfl I.heap (Nat.le_refl _) hpt fun e=>by cases e⟩
  ·rw [if_neg h60]
   have hnew:=c77 W I.heap (by omega) ha h1
   refine ⟨_,rfl,aL2 I hfs rfl rfl rfl rfl hnew (by simp) hpt fun _=>?_⟩
   have hx:=aP1 (i:=i) (p:=f.at_) (by omega)
   rw [hx] at hnext
   have:=hnext (wr (f.at_+1)) (by simp)
   rw [wat] at this
   simp only at this
   rw [I4 (by unfold F9; omega)] at this
   obtain ⟨m2,h2,R2⟩:aJ5 w ((c.heap++[(⟨i.a,List.replicate (F8 w i.a).toNat ⟨0,0⟩⟩:Ob)]).length:Int) 0 f:=aJ5.mono ⟨m,h,R⟩ (by simp only [List.length_append,List.length_singleton]; omega)
   have R3:Fr w ((c.heap++[(⟨i.a,List.replicate (F8 w i.a).toNat ⟨0,0⟩⟩:Ob)]).length:Int) m h f 0 :=
    ⟨R.slow,R.meth,R.code,R.me,R.hi,R.args,R.temps,R.pos,R.at_,R2.self,R2.vargs,R2.vtemps,R2.vstack⟩
   show aJ5 w _ 0 { f with at_:=f.at_+1,temps:=f.temps,stack:=f.stack++[⟨4,(c.heap.length:Int)⟩] }
   refine ⟨m,h,R3.go (f.at_+1) f.temps (f.stack++[⟨4,(c.heap.length:Int)⟩]) 0 (by omega) (by rw [this.2]; simp) rfl R3.vtemps (fun u hu=>?_)⟩
   rcases List.mem_append.1 hu with hu|hu
   ·exact R3.vstack u hu
   ·rw [List.mem_singleton.1 hu]; exact J8.obj (by simp; omega)
 ·exfalso
  rcases hops with ⟨h,_⟩|⟨h,_⟩|⟨h,_⟩|⟨h,_⟩|⟨h,_⟩|⟨h,_⟩|⟨h,_⟩|⟨h,_⟩<;>omega
end
end Go.Proofs.Ytahmeibkdhbngaa
