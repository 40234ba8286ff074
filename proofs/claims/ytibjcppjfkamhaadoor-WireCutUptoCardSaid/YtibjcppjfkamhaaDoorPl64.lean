import Derived.Test.YtibjcppjfkamhaaDoorPl63
/- Plain laws: the reference's text; right worlds may be written. No program in sight. -/
namespace Go.Proofs.YtibjcppjfkamhaaDoor
open Go.RowKit
set_option linter.unusedVariables false
def tx (t:BL):ByteArray:=⟨t.toArray⟩
theorem bW4 (t:BL):(tx t).size=t.length:=by show t.toArray.size=_; simp
theorem bU6 (s:ByteArray):tx s.data.toList=s:=aY5 rfl
theorem b36 (a b:BL):tx a++tx b=tx (a++b):=by
 apply aY5
 show (tx a++tx b).data.toList=a++b
 simp [tx]
theorem cG6 (t:BL) (s:ByteArray):(tx t++s)++(⟨#[32]⟩:ByteArray)=tx (t++wdT s):=by
 have e:(⟨#[32]⟩:ByteArray)=tx [32]:=rfl
 rw [e,←bU6 s,b36,b36,bU6,wdT,List.append_assoc]
theorem bY3 {α:Type} (t:BL) (s:ByteArray) (y:ByteArray→Option α) (h:t.length+(wdT s).length≤4611686018427387904) :
  (bif decide ((tx t).size+s.size≤4611686018427387904) then (bif decide (((tx t)++s).size+(⟨#[32]⟩:ByteArray).size≤4611686018427387904) then y (((tx t)++s)++(⟨#[32]⟩:ByteArray)) else none) else none)=y (tx (t++wdT s)):=by
 have hz:=aN1 s
 simp only [wdT,List.length_append,List.length_singleton,hz] at h
 have e1:(⟨#[32]⟩:ByteArray).size=1:=rfl
 rw [decide_eq_true (by rw [bW4]; omega),decide_eq_true (by rw [ByteArray.size_append,bW4,e1]; omega),cG6]
 rfl
theorem bQ8 (N:Nat):∀(l:List Int) (k:Nat) (t:BL),t.length+(M5 l).length≤4611686018427387904→J8 N l k (tx t)=some (tx (t++M5 l))
 |[],k,t,_=>by simp [J8,M5]
 |n::l,k,t,h=>by
  have e:M5 (n::l)=nmT n++M5 l:=by simp [M5]
  rw [e,List.length_append] at h
  have ew:wdT ⟨(Lib.itoa n).toArray⟩=nmT n:=rfl
  rw [J8]
  simp only [strconv_Itoa,Option.bind_some]
  rw [bY3 t ⟨(Lib.itoa n).toArray⟩ (fun v=>J8 N l (k+1) v) (by rw [ew]; omega),ew,bQ8 N l (k+1) _ (by rw [List.length_append]; omega),e,List.append_assoc]
theorem text1 (N:Nat) (l:List Int) (t:BL) (h:t.length+(M5 l).length≤4611686018427387904):I5 N l (tx t)=some (tx (t++M5 l)):=by
 unfold I5
 rw [bQ8 N l 0 t h]
 rfl
theorem a08 {α:Type} (f:α→BL) (L:List α→Nat→ByteArray→Option ByteArray) (h0:∀k a,L [] k a=some a)
  (hs:∀x l k t,t.length+(f x).length≤4611686018427387904→L (x::l) k (tx t)=L l (k+1) (tx (t++f x))):∀(l:List α) (k:Nat) (t:BL),t.length+(l.map f).flatten.length≤4611686018427387904→L l k (tx t)=some (tx (t++(l.map f).flatten))
 |[],k,t,_=>by simp [h0]
 |x::l,k,t,h=>by
  simp only [List.map_cons,List.flatten_cons,List.length_append] at h
  rw [hs x l k t (by omega),a08 f L h0 hs l (k+1) _ (by rw [List.length_append]; omega),List.map_cons,List.flatten_cons,List.append_assoc]
theorem cH2 (N:Nat):∀(l:List Ins) (k:Nat) (t:BL),t.length+(l.map aA9).flatten.length≤4611686018427387904→M3 N l k (tx t)=some (tx (t++(l.map aA9).flatten)) :=
 a08 aA9 (M3 N) (fun k a=>rfl) fun i l k t h=>by
  simp only [aA9,List.length_append] at h
  rw [M3,text1 N _ t (by omega)]
  simp only [Option.bind_some]
  by_cases ho:i.op=14
  ·rw [if_pos ho] at h
   rw [ho] at h ⊢
   simp only [decide_true,cond_true]
   rw [bY3 _ i.name (fun v=>some v) (by rw [List.length_append]; omega)]
   simp only [Option.bind_some,aA9,ho,if_true,List.append_assoc]
  ·simp only [ho,decide_false,cond_false,Option.bind_some,aA9,if_false,List.append_nil]
theorem cF2 (N:Nat):∀(l:List Me) (k:Nat) (t:BL),t.length+(l.map meT).flatten.length≤4611686018427387904→K4 N l k (tx t)=some (tx (t++(l.map meT).flatten)) :=
 a08 meT (K4 N) (fun k a=>rfl) fun m l k t h=>by
  simp only [meT,List.length_append] at h
  rw [K4]
  rw [bY3 t m.name (fun v=>(I5 N [m.args,m.temps,m.prim,(m.code.length:Int)] v).bind fun r38=>((M3 N m.code 0 r38).bind fun v44=>K4 N l (k+1) v44)) (by omega)]
  rw [text1 N _ _ (by rw [List.length_append]; omega)]
  simp only [Option.bind_some]
  rw [cH2 N m.code 0 _ (by simp only [List.length_append]; omega)]
  simp only [Option.bind_some,meT,List.append_assoc]
theorem cE4 (N:Nat):∀(l:List Cl) (k:Nat) (t:BL),t.length+(l.map clT).flatten.length≤4611686018427387904→M4 N l k (tx t)=some (tx (t++(l.map clT).flatten)) :=
 a08 clT (M4 N) (fun k a=>rfl) fun m l k t h=>by
  simp only [clT,List.length_append] at h
  rw [M4]
  rw [bY3 t m.name (fun v=>(I5 N [m.super,m.slots,(m.methods.length:Int)] v).bind fun r20=>((K4 N m.methods 0 r20).bind fun v26=>M4 N l (k+1) v26)) (by omega)]
  rw [text1 N _ _ (by rw [List.length_append]; omega)]
  simp only [Option.bind_some]
  rw [cF2 N m.methods 0 _ (by simp only [List.length_append]; omega)]
  simp only [Option.bind_some,clT,List.append_assoc]
theorem cH6 (N:Nat):∀(l:List V) (k:Nat) (t:BL),t.length+(l.map vT).flatten.length≤4611686018427387904→O7 N l k (tx t)=some (tx (t++(l.map vT).flatten)) :=
 a08 vT (O7 N) (fun k a=>rfl) fun v l k t h=>by
  rw [O7,text1 N _ t h]
  rfl
theorem cG8 (N:Nat):∀(l:List Ob) (k:Nat) (t:BL),t.length+(l.map obT).flatten.length≤4611686018427387904→O5 N l k (tx t)=some (tx (t++(l.map obT).flatten)) :=
 a08 obT (O5 N) (fun k a=>rfl) fun o l k t h=>by
  simp only [obT,List.length_append] at h
  rw [O5,text1 N _ t (by omega)]
  simp only [Option.bind_some]
  rw [cH6 N o.slots 0 _ (by rw [List.length_append]; omega)]
  simp only [Option.bind_some,obT,List.append_assoc]
theorem cD9 (N:Nat) (w:Wd) (h:(Z7 w).length≤140737488355328):aF2 N w=some (tx (Z7 w)):=by
 simp only [Z7,List.length_append] at h
 have e0:(⟨#[]⟩:ByteArray)=tx []:=rfl
 unfold aF2
 rw [e0,text1 N _ [] (by simp only [List.length_nil]; omega)]
 simp only [Option.bind_some,List.nil_append]
 rw [cE4 N w.classes 0 _ (by omega)]
 simp only [Option.bind_some]
 rw [text1 N _ _ (by simp only [List.length_append]; omega)]
 simp only [Option.bind_some]
 rw [cG8 N w.heap 0 _ (by simp only [List.length_append]; omega)]
 simp only [Option.bind_some,Z7,List.append_assoc]
theorem cO0 (t:BL):strOfNums (U t)=tx t:=aY5 (bN2 t)
theorem aT6 {α:Type} {f:α→BL} {bk:α→Nat} {l:List α} (h:∀x∈l,(f x).length≤22*bk x):(l.map f).flatten.length+22≤22*bkL bk l:=by
 induction l with
 |nil=>simp [bkL]
 |cons x l ih =>
  have h1:=h x (by simp)
  have h2:=ih fun y hy=>h y (by simp [hy])
  rw [bB1]
  simp only [List.map_cons,List.flatten_cons,List.length_append]
  omega
theorem bH3 (s:ByteArray):(wdT s).length=s.size+1:=by rw [wdT,List.length_append,aN1]; rfl
theorem aT9 {n:Nat} (h:n≤maxLen):z8 (n:Int):=by simp only [maxLen] at h; unfold z8; omega
theorem b73 {i:Ins} (h:bM6 i):(aA9 i).length≤22*aH3 i:=by
 obtain ⟨h1,h2,_⟩:=h
 have a1:=Q3 h1
 have a2:=Q3 h2
 have a3:=bH3 i.name
 unfold aA9 aH3 bkI bkS
 rw [List.length_append,aE6,List.length_append]
 split
 ·omega
 ·simp only [List.length_nil]; omega
theorem cF4 {m:Me} (h:bZ7 m):(meT m).length≤22*aJ2 m:=by
 obtain ⟨_,h1,h2,h3,h4,h5⟩:=h
 have a1:=Q3 h1
 have a2:=Q3 h2
 have a3:=Q3 h3
 have a4:=Q3 (aT9 h4)
 have a5:=bH3 m.name
 have a6:=aT6 (f:=aA9) (bk:=aH3) fun i hi=>b73 (h5 i hi)
 unfold meT aJ2 bkI bkS
 simp only [List.length_append,bX9]
 omega
theorem cG0 {c:Cl} (h:bO1 c):(clT c).length≤22*aL2 c:=by
 obtain ⟨_,h1,h2,h4,h5⟩:=h
 have a1:=Q3 h1
 have a2:=Q3 h2
 have a4:=Q3 (aT9 h4)
 have a5:=bH3 c.name
 have a6:=aT6 (f:=meT) (bk:=aJ2) fun i hi=>cF4 (h5 i hi)
 unfold clT aL2 bkI bkS
 simp only [List.length_append,bY7]
 omega
theorem cI7 {v:V} (h:okV v):(vT v).length≤22*bkV v:=by
 have a1:=Q3 h.1
 have a2:=Q3 h.2
 unfold vT bkV bkI
 simp only [aE6,List.length_append]
 omega
theorem cD7 {o:Ob} (h:bY0 o):(obT o).length≤22*aL4 o:=by
 obtain ⟨h1,h4,h5⟩:=h
 have a1:=Q3 h1
 have a4:=Q3 (aT9 h4)
 have a6:=aT6 (f:=vT) (bk:=bkV) fun i hi=>cI7 (h5 i hi)
 unfold obT aL4 bkI
 simp only [aE6,List.length_append]
 omega
theorem bV5 {w:Wd} (h:bQ4 w):(Z7 w).length≤22*aV2 w:=by
 obtain ⟨⟨h1,h2⟩,⟨h3,h4⟩,h5⟩:=h
 have a1:=Q3 h5
 have a2:=Q3 (aT9 h1)
 have a3:=Q3 (aT9 h3)
 have a6:=aT6 (f:=clT) (bk:=aL2) fun i hi=>cG0 (h2 i hi)
 have a7:=aT6 (f:=obT) (bk:=aL4) fun i hi=>cD7 (h4 i hi)
 unfold Z7 aV2 bkI
 simp only [aE6,bX0,List.length_append]
 omega
theorem bJ2 {w:Wd}:∀{l:List Cl} {k:Nat},l=w.classes.drop k→aE1 w l k=.next ()→∀j c,k≤j→w.classes[j]?=some c→aM9 (w.classes.take j) j c=0
 |[],k,h,_,j,c,hj,hc=>by
  have h1:=(List.getElem?_eq_some_iff.1 hc).1
  have h2:=List.drop_eq_nil_iff.1 h.symm
  omega
 |d::l,k,h,he,j,c,hj,hc=>by
  obtain ⟨hd,hl,_⟩:=F8 h
  rw [aE1] at he
  by_cases hz:aM9 (w.classes.take k) k d=0
  ·rw [decide_eq_true hz] at he
   rcases Nat.eq_or_lt_of_le hj with rfl|hj
   ·rw [hd] at hc; cases hc; exact hz
   ·exact bJ2 hl he j c hj hc
  ·rw [decide_eq_false hz] at he
   cases he
theorem cH0 {ps:List Cl} {k:Nat} {c:Cl} (h:aM9 ps k c=0):Z5 c.name=true∧aZ0 ps c.name=false∧b23 k c=false∧b06 k c=false:=by
 unfold aM9 at h
 cases h1:(!Z5 c.name || (aZ0 ps c.name || b23 k c)) with
 |true=>rw [h1] at h; cases h
 |false =>
  rw [h1] at h
  cases h2:b06 k c with
  |true=>rw [h2] at h; cases h
  |false =>
   simp only [Bool.or_eq_false_iff,Bool.not_eq_false'] at h1
   exact ⟨h1.1,h1.2.1,h1.2.2,rfl⟩
theorem bJ9 {N:Nat} {w:Wd} {k:Nat} {ms:List Me}:∀{l:List Me} {j:Nat},l=ms.drop j→aB3 N w k ms l j=some (.next ())→∀i m,j≤i→ms[i]?=some m→aW0 N w k (if i=0 then none else ms[i - 1]?) m=some 0
 |[],j,h,_,i,m,hi,hm=>by
  have h1:=(List.getElem?_eq_some_iff.1 hm).1
  have h2:=List.drop_eq_nil_iff.1 h.symm
  omega
 |x::l,j,h,he,i,m,hi,hm=>by
  obtain ⟨hx,hl,_⟩:=F8 h
  rw [aB3,Option.bind_eq_some_iff] at he
  obtain ⟨e,h1,h2⟩:=he
  by_cases hz:e=0
  ·subst hz
   rcases Nat.eq_or_lt_of_le hi with rfl|hi
   ·rw [hx] at hm; cases hm; exact h1
   ·exact bJ9 hl h2 i m hi hm
  ·rw [decide_eq_false hz] at h2
   cases h2
theorem bK3 {N:Nat} {w:Wd}:∀{l:List Cl} {k:Nat},l=w.classes.drop k→aC4 N w l k=some (.next ())→∀j c,k≤j→w.classes[j]?=some c→aB0 w (j:Int)≤6∧c.methods.length≤8∧aB3 N w j c.methods c.methods 0=some (.next ())
 |[],k,h,_,j,c,hj,hc=>by
  have h1:=(List.getElem?_eq_some_iff.1 hc).1
  have h2:=List.drop_eq_nil_iff.1 h.symm
  omega
 |d::l,k,h,he,j,c,hj,hc=>by
  obtain ⟨hd,hl,_⟩:=F8 h
  rw [aC4] at he
  by_cases h1:6 < aB0 w (k:Int)
  ·rw [decide_eq_true h1] at he; cases he
  rw [decide_eq_false h1] at he
  by_cases h2:8 < (d.methods.length:Int)
  ·rw [decide_eq_true h2] at he; cases he
  rw [decide_eq_false h2] at he
  simp only [cond_false,Option.bind_eq_some_iff] at he
  obtain ⟨o,h3,h4⟩:=he
  cases o with
  |ret r=>cases h4
  |next u =>
   rcases Nat.eq_or_lt_of_le hj with rfl|hj
   ·rw [hd] at hc; cases hc; exact ⟨by omega,by omega,h3⟩
   ·exact bK3 hl h4 j c hj hc
theorem bK6 {w:Wd}:∀{l:List Ob},aE0 w l=.next ()→∀o∈l,obB w o=false∧aH0 (w.heap.length:Int) o.slots=.next ()
 |[],_,o,ho=>by cases ho
 |x::l,h,o,ho=>by
  rw [aE0] at h
  cases hb:obB w x with
  |true=>rw [hb] at h; cases h
  |false =>
   rw [hb] at h
   simp only [cond_false] at h
   cases hv:aH0 (w.heap.length:Int) x.slots with
   |ret r=>rw [hv] at h; cases h
   |next u =>
    rw [hv] at h
    rcases List.mem_cons.1 ho with rfl|ho
    ·exact ⟨hb,hv⟩
    ·exact bK6 h o ho
structure bQ2 (N:Nat) (w:Wd):Prop where
 many:4≤w.classes.length∧w.classes.length≤12∧w.heap.length≤60
 epoch:0≤w.epoch∧w.epoch≤1073741824
 cls:∀(j:Nat) c,w.classes[j]?=some c→aM9 (w.classes.take j) j c=0
 meth:∀(j:Nat) c,w.classes[j]?=some c→aB0 w (j:Int)≤6∧c.methods.length≤8∧aB3 N w j c.methods c.methods 0=some (.next ())
 obj:∀o∈w.heap,obB w o=false∧aH0 (w.heap.length:Int) o.slots=.next ()
theorem b77 {N:Nat} {w:Wd} (h:aP3 N w=some 0):bQ2 N w:=by
 unfold aP3 at h
 cases h1:(decide ((w.classes.length:Int) < 4) || (decide (12 < (w.classes.length:Int)) || decide (60 < (w.heap.length:Int)))) with
 |true=>rw [h1] at h; cases h
 |false =>
  rw [h1] at h
  cases h2:(decide (w.epoch < 0) || decide (1073741824 < w.epoch)) with
  |true=>rw [h2] at h; cases h
  |false =>
   rw [h2] at h
   simp only [cond_false] at h
   have ret0:∀{l:List Cl} {k:Nat} {r:Int},aE1 w l k=.ret r→r≠0:=by
    intro l
    induction l with
    |nil=>intro k r h; cases h
    |cons c l ih =>
     intro k r h
     rw [aE1] at h
     by_cases hz:aM9 (w.classes.take k) k c=0
     ·rw [decide_eq_true hz] at h; exact ih h
     ·rw [decide_eq_false hz] at h; cases h; exact hz
   have mret0:∀{k:Nat} {ms:List Me} {l:List Me} {j:Nat} {r:Int},aB3 N w k ms l j=some (.ret r)→r≠0:=by
    intro k ms l
    induction l with
    |nil=>intro j r h; rw [aB3] at h; cases h
    |cons c l ih =>
     intro j r h
     rw [aB3,Option.bind_eq_some_iff] at h
     obtain ⟨e,_,h⟩:=h
     by_cases hz:e=0
     ·rw [decide_eq_true hz] at h; exact ih h
     ·rw [decide_eq_false hz] at h; cases h; exact hz
   have ret1:∀{l:List Cl} {k:Nat} {r:Int},aC4 N w l k=some (.ret r)→r≠0:=by
    intro l
    induction l with
    |nil=>intro k r h; rw [aC4] at h; cases h
    |cons c l ih =>
     intro k r h
     rw [aC4] at h
     cases q1:decide (6 < aB0 w (k:Int)) with
     |true=>rw [q1] at h; cases h; decide
     |false =>
      rw [q1] at h
      cases q2:decide (8 < (c.methods.length:Int)) with
      |true=>rw [q2] at h; cases h; decide
      |false =>
       rw [q2] at h
       simp only [cond_false,Option.bind_eq_some_iff] at h
       obtain ⟨o,h3,h⟩:=h
       cases o with
       |ret r'=>cases h; exact mret0 h3
       |next u=>exact ih h
   have vret0:∀{n:Int} {l:List V} {r:Int},aH0 n l=.ret r→r≠0:=by
    intro n l
    induction l with
    |nil=>intro r h; cases h
    |cons v l ih =>
     intro r h
     rw [aH0] at h
     by_cases hz:aU2 v n=0
     ·rw [decide_eq_true hz] at h; exact ih h
     ·rw [decide_eq_false hz] at h; cases h; exact hz
   have ret2:∀{l:List Ob} {r:Int},aE0 w l=.ret r→r≠0:=by
    intro l
    induction l with
    |nil=>intro r h; cases h
    |cons o l ih =>
     intro r h
     rw [aE0] at h
     cases hb:obB w o with
     |true=>rw [hb] at h; cases h; decide
     |false =>
      rw [hb] at h
      simp only [cond_false] at h
      cases hv:aH0 (w.heap.length:Int) o.slots with
      |ret r'=>rw [hv] at h; cases h; exact vret0 hv
      |next u=>rw [hv] at h; exact ih h
   simp only [Bool.or_eq_false_iff,decide_eq_false_iff_not] at h1 h2
   cases c1:aE1 w w.classes 0 with
   |ret r=>rw [c1] at h; cases h; exact absurd rfl (ret0 c1)
   |next u =>
    rw [c1] at h
    simp only [Option.bind_eq_some_iff] at h
    obtain ⟨o,c2,h⟩:=h
    cases o with
    |ret r=>cases h; exact absurd rfl (ret1 c2)
    |next u =>
     cases c3:aE0 w w.heap with
     |ret r=>simp only [c3] at h; cases h; exact absurd rfl (ret2 c3)
     |next u=>exact ⟨by omega,by omega,fun j c hc=>bJ2 (k:=0) rfl c1 j c (Nat.zero_le _) hc,fun j c hc=>bK3 (k:=0) rfl c2 j c (Nat.zero_le _) hc,bK6 c3⟩
theorem aS2 {s:ByteArray} (h:Z5 s=true):WrW s:=by
 unfold Z5 at h
 simp only [Bool.and_eq_true,decide_eq_true_eq] at h
 refine ⟨fun e=>?_,fun e=>?_⟩
 ·have:=aN1 s
  rw [e] at this
  simp at this
  omega
 ·have:=List.all_eq_true.1 h.1 32 e
  revert this
  decide
theorem b85 {w:Wd} {c:Int} {m:Me} {i:Ins} (h:aP5 w c m i=0):i.b=0∧i.c=0∧(i.op=14→WrW i.name)∧(i.op≠14→i.name=ByteArray.empty):=by
 unfold aP5 at h
 split at h
 ·cases h
 ·split at h
  ·split at h
   ·cases h
   ·rename_i hf
    unfold bZ4 at hf
    simp only [Bool.or_eq_true,Bool.and_eq_true,Bool.not_eq_true',decide_eq_true_eq,decide_eq_false_iff_not,not_or,not_and,Classical.not_not,Bool.not_eq_false] at hf
    exact ⟨hf.1.2,hf.2,fun ho=>aS2 (hf.1.1.1 ho),fun ho=>hf.1.1.2 ho⟩
  ·cases h
theorem cC1 {N:Nat} {w:Wd} {k:Nat} {p:Option Me} {m:Me} (h:aW0 N w k p m=some 0):WrW m.name∧m.code.length≤60∧∀i∈m.code,i.b=0∧i.c=0∧(i.op=14→WrW i.name)∧(i.op≠14→i.name=ByteArray.empty):=by
 unfold aW0 at h
 cases hp:a10 p m with
 |true=>rw [hp] at h; cases h
 |false =>
  rw [hp] at h
  cases hb:aV3 k m with
  |true =>
   unfold aV3 at hb
   simp only [Bool.and_eq_true,decide_eq_true_eq] at hb
   obtain ⟨_,ha,_,_,hc⟩:=hb
   obtain ⟨q,hq,e,_⟩:=(bN9 ha).2
   have hn:∀q∈K3,Z5 q.name=true:=by decide
   exact ⟨by rw [←e]; exact aS2 (hn q hq),by rw [hc]; simp,by rw [hc]; intro i hi; cases hi⟩
  |false =>
   rw [hb] at h
   simp only [cond_false,Option.map_eq_some_iff] at h
   obtain ⟨f,hf,he⟩:=h
   have F:=b58 hf he
   exact ⟨aS2 F.name,F.len.2,fun i hi=>b85 (F.num i hi)⟩
theorem bQ2.wr {N:Nat} {w:Wd} (h:bQ2 N w) (ho:bQ4 w):bH2 w:=by
 obtain ⟨⟨h1,h2⟩,⟨h3,h4⟩,h5⟩:=ho
 refine ⟨h5,h.many.2.1,h.many.2.2,fun c hc=>?_,fun o hob=>?_⟩
 ·obtain ⟨j,hj⟩:=List.mem_iff_getElem?.1 hc
  obtain ⟨a1,a2,a3,a4⟩:=cH0 (h.cls j c hj)
  obtain ⟨b1,b2,b3⟩:=h.meth j c hj
  obtain ⟨_,o1,o2,o3,o4⟩:=h2 c hc
  refine ⟨aS2 a1,o1,o2,b2,fun m hm=>?_⟩
  obtain ⟨i,hi⟩:=List.mem_iff_getElem?.1 hm
  obtain ⟨m1,m2,m3⟩:=cC1 (bJ9 (j:=0) rfl b3 i m (Nat.zero_le _) hi)
  obtain ⟨_,q1,q2,q3,q4,q5⟩:=o4 m hm
  exact ⟨m1,q1,q2,q3,m2,fun x hx=>⟨(q5 x hx).1,(q5 x hx).2.1,m3 x hx⟩⟩
 ·obtain ⟨q1,q2⟩:=h.obj o hob
  obtain ⟨o1,o2,o3⟩:=h4 o hob
  refine ⟨o1,?_,fun v hv=>o3 v hv⟩
  unfold obB at q1
  simp only [Bool.or_eq_false_iff,Bool.and_eq_false_iff,Bool.not_eq_false',decide_eq_false_iff_not,decide_eq_true_eq] at q1
  have hr:0≤o.cls∧o.cls < w.classes.length:=by
   have:=h.many.1
   rcases q1.1 with e|e<;>omega
  obtain ⟨c,hc⟩:∃c,w.classes[o.cls.toNat]?=some c:=⟨_,List.getElem?_eq_getElem (by omega)⟩
  have:=(h.meth o.cls.toNat c hc).1
  have e:((o.cls.toNat:Nat):Int)=o.cls:=by omega
  rw [e] at this
  omega
theorem b27 (N:Nat):aP3 N J3=some 0:=by kernel_rfl
theorem cI8 : bH2 J3:=by
 have hW:∀s:ByteArray,Z5 s=true→WrW s:=fun s h=>aS2 h
 have hn:∀m∈K3,Z5 m.name=true∧z8 m.args∧z8 m.temps∧z8 m.prim∧m.code=[]:=by decide
 have hms:∀m∈K3,b92 m:=fun m hm=>by
  obtain ⟨a,b,c,d,e⟩:=hn m hm
  exact ⟨hW _ a,b,c,d,by rw [e]; simp,by rw [e]; intro i hi; cases hi⟩
 refine ⟨by decide,by decide,by decide,fun c hc=>?_,fun o ho=>by cases ho⟩
 simp only [J3,List.mem_cons,List.not_mem_nil,or_false] at hc
 rcases hc with rfl|rfl|rfl|rfl
 ·exact ⟨hW _ (by decide),by decide,by decide,by decide,fun m hm=>by cases hm⟩
 ·exact ⟨hW _ (by decide),by decide,by decide,by decide,fun m hm=>by cases hm⟩
 ·exact ⟨hW _ (by decide),by decide,by decide,by decide,fun m hm=>by cases hm⟩
 ·exact ⟨hW _ (by decide),by decide,by decide,by decide,hms⟩
theorem bR5 {s:ByteArray} (h:s.size≤12):okS s:=by unfold okS; simp only [maxLen]; omega
theorem b70 : bQ4 J3∧aV2 J3≤1000:=by
 have hn:∀m∈K3,m.name.size≤12∧z8 m.args∧z8 m.temps∧z8 m.prim∧m.code=[]:=by decide
 have e:∀(s:ByteArray) (a b:Int) ,s.size≤12→z8 a→z8 b→bO1 ⟨s,a,b,[]⟩:=fun s a b h1 h2 h3=>⟨bR5 h1,h2,h3,Nat.zero_le _,fun m hm=>by cases hm⟩
 refine ⟨⟨⟨show (4:Nat)≤maxLen by decide,fun c hc=>?_⟩,⟨show (0:Nat)≤maxLen by decide,fun o ho=>by cases ho⟩,show z8 0 by decide⟩,by decide⟩
 simp only [J3,List.mem_cons,List.not_mem_nil,or_false] at hc
 rcases hc with rfl|rfl|rfl|rfl
 ·exact e _ _ _ (by decide) (by decide) (by decide)
 ·exact e _ _ _ (by decide) (by decide) (by decide)
 ·exact e _ _ _ (by decide) (by decide) (by decide)
 ·refine ⟨bR5 (by decide),show z8 0 by decide,show z8 0 by decide,show (5:Nat)≤maxLen by decide,fun m hm=>?_⟩
  obtain ⟨a,b,c,d,f⟩:=hn m hm
  exact ⟨bR5 a,b,c,d,by rw [f]; exact ⟨Nat.zero_le _,fun i hi=>by cases hi⟩⟩
theorem bW7 (N:Nat) (hN:4194304≤N):aD4 N=some true:=by
 have hl:=bV5 b70.1
 have hk:=b70.2
 have hb:(Z7 J3).length≤140737488355328:=by omega
 have hR:P8 N J3=some 0:=by rw [aL3 N J3 hN bK0]; exact b27 N
 have hR5:P8 N ⟨[],[],0⟩=some 5:=by
  rw [aL3 N ⟨[],[],0⟩ hN ⟨by decide,by decide,fun c hc=>(by cases hc),fun o ho=>(by cases ho)⟩]
  rfl
 have hP:aB9 N (U (Z7 J3))=some (J3,0):=by
  rw [bP2 N _ (by rw [aB7]; omega),bN2,cH9 cI8]
  simp only [hR,Option.bind_some]
  rfl
 unfold aD4 aM3
 simp only [Option.bind_some,bN6 N J3 hb,hP,cD9 N J3 hb,hR,hR5,cO0]
 have e4:(J3.classes.length:Int)=4:=rfl
 simp only [e4,decide_true,cond_true,Option.bind_some]
end Go.Proofs.YtibjcppjfkamhaaDoor
