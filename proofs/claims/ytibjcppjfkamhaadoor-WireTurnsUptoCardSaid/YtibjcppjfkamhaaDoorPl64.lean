import Derived.Test.YtibjcppjfkamhaaDoorPl63
/- Plain laws: the reference's text; right worlds may be written. No program in sight. -/
namespace Go.Proofs.YtibjcppjfkamhaaDoor
open Go.RowKit
set_option linter.unusedVariables false
def tx (t:BL):ByteArray:=⟨t.toArray⟩
theorem bX4 (t:BL):(tx t).size=t.length:=by show t.toArray.size=_; simp
theorem bZ2 (s:ByteArray):tx s.data.toList=s:=aV8 rfl
theorem b80 (a b:BL):tx a++tx b=tx (a++b):=by
 apply aV8
 show (tx a++tx b).data.toList=a++b
 simp [tx]
theorem cI3 (t:BL) (s:ByteArray):(tx t++s)++(⟨#[32]⟩:ByteArray)=tx (t++wdT s):=by
 have e:(⟨#[32]⟩:ByteArray)=tx [32]:=rfl
 rw [e,←bZ2 s,b80,b80,bZ2,wdT,List.append_assoc]
theorem bZ4 {α:Type} (t:BL) (s:ByteArray) (y:ByteArray→Option α) (h:t.length+(wdT s).length≤4611686018427387904) :
  (bif decide ((tx t).size+s.size≤4611686018427387904) then (bif decide (((tx t)++s).size+(⟨#[32]⟩:ByteArray).size≤4611686018427387904) then y (((tx t)++s)++(⟨#[32]⟩:ByteArray)) else none) else none)=y (tx (t++wdT s)):=by
 have hz:=aO9 s
 simp only [wdT,List.length_append,List.length_singleton,hz] at h
 have e1:(⟨#[32]⟩:ByteArray).size=1:=rfl
 rw [decide_eq_true (by rw [bX4]; omega),decide_eq_true (by rw [ByteArray.size_append,bX4,e1]; omega),cI3]
 rfl
theorem bQ7 (N:Nat):∀(l:List Int) (k:Nat) (t:BL),t.length+(N8 l).length≤4611686018427387904→K3 N l k (tx t)=some (tx (t++N8 l))
 |[],k,t,_=>by simp [K3,N8]
 |n::l,k,t,h=>by
  have e:N8 (n::l)=nmT n++N8 l:=by simp [N8]
  rw [e,List.length_append] at h
  have ew:wdT ⟨(Lib.itoa n).toArray⟩=nmT n:=rfl
  rw [K3]
  simp only [strconv_Itoa,Option.bind_some]
  rw [bZ4 t ⟨(Lib.itoa n).toArray⟩ (fun v=>K3 N l (k+1) v) (by rw [ew]; omega),ew,bQ7 N l (k+1) _ (by rw [List.length_append]; omega),e,List.append_assoc]
theorem text1 (N:Nat) (l:List Int) (t:BL) (h:t.length+(N8 l).length≤4611686018427387904):I7 N l (tx t)=some (tx (t++N8 l)):=by
 unfold I7
 rw [bQ7 N l 0 t h]
 rfl
theorem bA2 {α:Type} (f:α→BL) (L:List α→Nat→ByteArray→Option ByteArray) (h0:∀k a,L [] k a=some a)
  (hs:∀x l k t,t.length+(f x).length≤4611686018427387904→L (x::l) k (tx t)=L l (k+1) (tx (t++f x))):∀(l:List α) (k:Nat) (t:BL),t.length+(l.map f).flatten.length≤4611686018427387904→L l k (tx t)=some (tx (t++(l.map f).flatten))
 |[],k,t,_=>by simp [h0]
 |x::l,k,t,h=>by
  simp only [List.map_cons,List.flatten_cons,List.length_append] at h
  rw [hs x l k t (by omega),bA2 f L h0 hs l (k+1) _ (by rw [List.length_append]; omega),List.map_cons,List.flatten_cons,List.append_assoc]
theorem cK0 (N:Nat):∀(l:List Ins) (k:Nat) (t:BL),t.length+(l.map aC4).flatten.length≤4611686018427387904→N7 N l k (tx t)=some (tx (t++(l.map aC4).flatten)) :=
 bA2 aC4 (N7 N) (fun k a=>rfl) fun i l k t h=>by
  simp only [aC4,List.length_append] at h
  rw [N7,text1 N _ t (by omega)]
  simp only [Option.bind_some]
  by_cases ho:i.op=14
  ·rw [if_pos ho] at h
   rw [ho] at h ⊢
   simp only [decide_true,cond_true]
   rw [bZ4 _ i.name (fun v=>some v) (by rw [List.length_append]; omega)]
   simp only [Option.bind_some,aC4,ho,if_true,List.append_assoc]
  ·simp only [ho,decide_false,cond_false,Option.bind_some,aC4,if_false,List.append_nil]
theorem cH5 (N:Nat):∀(l:List Me) (k:Nat) (t:BL),t.length+(l.map meT).flatten.length≤4611686018427387904→K8 N l k (tx t)=some (tx (t++(l.map meT).flatten)) :=
 bA2 meT (K8 N) (fun k a=>rfl) fun m l k t h=>by
  simp only [meT,List.length_append] at h
  rw [K8]
  rw [bZ4 t m.name (fun v=>(I7 N [m.args,m.temps,m.prim,(m.code.length:Int)] v).bind fun r38=>((N7 N m.code 0 r38).bind fun v44=>K8 N l (k+1) v44)) (by omega)]
  rw [text1 N _ _ (by rw [List.length_append]; omega)]
  simp only [Option.bind_some]
  rw [cK0 N m.code 0 _ (by simp only [List.length_append]; omega)]
  simp only [Option.bind_some,meT,List.append_assoc]
theorem cK4 (N:Nat):∀(l:List Cl) (k:Nat) (t:BL),t.length+(l.map clT).flatten.length≤4611686018427387904→N9 N l k (tx t)=some (tx (t++(l.map clT).flatten)) :=
 bA2 clT (N9 N) (fun k a=>rfl) fun m l k t h=>by
  simp only [clT,List.length_append] at h
  rw [N9]
  rw [bZ4 t m.name (fun v=>(I7 N [m.super,m.slots,(m.methods.length:Int)] v).bind fun r20=>((K8 N m.methods 0 r20).bind fun v26=>N9 N l (k+1) v26)) (by omega)]
  rw [text1 N _ _ (by rw [List.length_append]; omega)]
  simp only [Option.bind_some]
  rw [cH5 N m.methods 0 _ (by simp only [List.length_append]; omega)]
  simp only [Option.bind_some,clT,List.append_assoc]
theorem cG4 (N:Nat):∀(l:List V) (k:Nat) (t:BL),t.length+(l.map vT).flatten.length≤4611686018427387904→P9 N l k (tx t)=some (tx (t++(l.map vT).flatten)) :=
 bA2 vT (P9 N) (fun k a=>rfl) fun v l k t h=>by
  rw [P9,text1 N _ t h]
  rfl
theorem cJ5 (N:Nat):∀(l:List Ob) (k:Nat) (t:BL),t.length+(l.map obT).flatten.length≤4611686018427387904→P8 N l k (tx t)=some (tx (t++(l.map obT).flatten)) :=
 bA2 obT (P8 N) (fun k a=>rfl) fun o l k t h=>by
  simp only [obT,List.length_append] at h
  rw [P8,text1 N _ t (by omega)]
  simp only [Option.bind_some]
  rw [cG4 N o.slots 0 _ (by rw [List.length_append]; omega)]
  simp only [Option.bind_some,obT,List.append_assoc]
theorem cH9 (N:Nat) (w:Wd) (h:(woT w).length≤140737488355328):aG6 N w=some (tx (woT w)):=by
 simp only [woT,List.length_append] at h
 have e0:(⟨#[]⟩:ByteArray)=tx []:=rfl
 unfold aG6
 rw [e0,text1 N _ [] (by simp only [List.length_nil]; omega)]
 simp only [Option.bind_some,List.nil_append]
 rw [cK4 N w.classes 0 _ (by omega)]
 simp only [Option.bind_some]
 rw [text1 N _ _ (by simp only [List.length_append]; omega)]
 simp only [Option.bind_some]
 rw [cJ5 N w.heap 0 _ (by simp only [List.length_append]; omega)]
 simp only [Option.bind_some,woT,List.append_assoc]
theorem cQ9 (t:BL):strOfNums (U t)=tx t:=aV8 (bG0 t)
theorem aU1 {α:Type} {f:α→BL} {bk:α→Nat} {l:List α} (h:∀x∈l,(f x).length≤22*bk x):(l.map f).flatten.length+22≤22*bkL bk l:=by
 induction l with
 |nil=>simp [bkL]
 |cons x l ih =>
  have h1:=h x (by simp)
  have h2:=ih fun y hy=>h y (by simp [hy])
  rw [bE9]
  simp only [List.map_cons,List.flatten_cons,List.length_append]
  omega
theorem bI9 (s:ByteArray):(wdT s).length=s.size+1:=by rw [wdT,List.length_append,aO9]; rfl
theorem aV7 {n:Nat} (h:n≤maxLen):C8 (n:Int):=by simp only [maxLen] at h; unfold C8; omega
theorem cB9 {i:Ins} (h:bP0 i):(aC4 i).length≤22*aI0 i:=by
 obtain ⟨h1,h2,_⟩:=h
 have a1:=S9 h1
 have a2:=S9 h2
 have a3:=bI9 i.name
 unfold aC4 aI0 bkI bkS
 rw [List.length_append,aG2,List.length_append]
 split
 ·omega
 ·simp only [List.length_nil]; omega
theorem cH0 {m:Me} (h:b35 m):(meT m).length≤22*aK2 m:=by
 obtain ⟨_,h1,h2,h3,h4,h5⟩:=h
 have a1:=S9 h1
 have a2:=S9 h2
 have a3:=S9 h3
 have a4:=S9 (aV7 h4)
 have a5:=bI9 m.name
 have a6:=aU1 (f:=aC4) (bk:=aI0) fun i hi=>cB9 (h5 i hi)
 unfold meT aK2 bkI bkS
 simp only [List.length_append,bZ5]
 omega
theorem cJ4 {c:Cl} (h:bQ3 c):(clT c).length≤22*aM7 c:=by
 obtain ⟨_,h1,h2,h4,h5⟩:=h
 have a1:=S9 h1
 have a2:=S9 h2
 have a4:=S9 (aV7 h4)
 have a5:=bI9 c.name
 have a6:=aU1 (f:=meT) (bk:=aK2) fun i hi=>cH0 (h5 i hi)
 unfold clT aM7 bkI bkS
 simp only [List.length_append,b08]
 omega
theorem cN2 {v:V} (h:okV v):(vT v).length≤22*bkV v:=by
 have a1:=S9 h.1
 have a2:=S9 h.2
 unfold vT bkV bkI
 simp only [aG2,List.length_append]
 omega
theorem cG6 {o:Ob} (h:b33 o):(obT o).length≤22*aN0 o:=by
 obtain ⟨h1,h4,h5⟩:=h
 have a1:=S9 h1
 have a4:=S9 (aV7 h4)
 have a6:=aU1 (f:=vT) (bk:=bkV) fun i hi=>cN2 (h5 i hi)
 unfold obT aN0 bkI
 simp only [aG2,List.length_append]
 omega
theorem bY7 {w:Wd} (h:bQ4 w):(woT w).length≤22*aX4 w:=by
 obtain ⟨⟨h1,h2⟩,⟨h3,h4⟩,h5⟩:=h
 have a1:=S9 h5
 have a2:=S9 (aV7 h1)
 have a3:=S9 (aV7 h3)
 have a6:=aU1 (f:=clT) (bk:=aM7) fun i hi=>cJ4 (h2 i hi)
 have a7:=aU1 (f:=obT) (bk:=aN0) fun i hi=>cG6 (h4 i hi)
 unfold woT aX4 bkI
 simp only [aG2,bZ7,List.length_append]
 omega
theorem bM5 {w:Wd}:∀{l:List Cl} {k:Nat},l=w.classes.drop k→aF3 w l k=.next ()→∀j c,k≤j→w.classes[j]?=some c→aO0 (w.classes.take j) j c=0
 |[],k,h,_,j,c,hj,hc=>by
  have h1:=(List.getElem?_eq_some_iff.1 hc).1
  have h2:=List.drop_eq_nil_iff.1 h.symm
  omega
 |d::l,k,h,he,j,c,hj,hc=>by
  obtain ⟨hd,hl,_⟩:=D6 h
  rw [aF3] at he
  by_cases hz:aO0 (w.classes.take k) k d=0
  ·rw [decide_eq_true hz] at he
   rcases Nat.eq_or_lt_of_le hj with rfl|hj
   ·rw [hd] at hc; cases hc; exact hz
   ·exact bM5 hl he j c hj hc
  ·rw [decide_eq_false hz] at he
   cases he
theorem cH6 {ps:List Cl} {k:Nat} {c:Cl} (h:aO0 ps k c=0):aA8 c.name=true∧aZ9 ps c.name=false∧bZ3 k c=false∧b05 k c=false:=by
 unfold aO0 at h
 cases h1:(!aA8 c.name || (aZ9 ps c.name || bZ3 k c)) with
 |true=>rw [h1] at h; cases h
 |false =>
  rw [h1] at h
  cases h2:b05 k c with
  |true=>rw [h2] at h; cases h
  |false =>
   simp only [Bool.or_eq_false_iff,Bool.not_eq_false'] at h1
   exact ⟨h1.1,h1.2.1,h1.2.2,rfl⟩
theorem bL8 {N:Nat} {w:Wd} {k:Nat} {ms:List Me}:∀{l:List Me} {j:Nat},l=ms.drop j→aC7 N w k ms l j=some (.next ())→∀i m,j≤i→ms[i]?=some m→aY1 N w k (if i=0 then none else ms[i - 1]?) m=some 0
 |[],j,h,_,i,m,hi,hm=>by
  have h1:=(List.getElem?_eq_some_iff.1 hm).1
  have h2:=List.drop_eq_nil_iff.1 h.symm
  omega
 |x::l,j,h,he,i,m,hi,hm=>by
  obtain ⟨hx,hl,_⟩:=D6 h
  rw [aC7,Option.bind_eq_some_iff] at he
  obtain ⟨e,h1,h2⟩:=he
  by_cases hz:e=0
  ·subst hz
   rcases Nat.eq_or_lt_of_le hi with rfl|hi
   ·rw [hx] at hm; cases hm; exact h1
   ·exact bL8 hl h2 i m hi hm
  ·rw [decide_eq_false hz] at h2
   cases h2
theorem bN0 {N:Nat} {w:Wd}:∀{l:List Cl} {k:Nat},l=w.classes.drop k→aE0 N w l k=some (.next ())→∀j c,k≤j→w.classes[j]?=some c→aC8 w (j:Int)≤6∧c.methods.length≤8∧aC7 N w j c.methods c.methods 0=some (.next ())
 |[],k,h,_,j,c,hj,hc=>by
  have h1:=(List.getElem?_eq_some_iff.1 hc).1
  have h2:=List.drop_eq_nil_iff.1 h.symm
  omega
 |d::l,k,h,he,j,c,hj,hc=>by
  obtain ⟨hd,hl,_⟩:=D6 h
  rw [aE0] at he
  by_cases h1:6 < aC8 w (k:Int)
  ·rw [decide_eq_true h1] at he; cases he
  rw [decide_eq_false h1] at he
  by_cases h2:8 < (d.methods.length:Int)
  ·rw [decide_eq_true h2] at he; cases he
  rw [decide_eq_false h2] at he
  simp only [cond_false,Option.bind_eq_some_iff] at he
  obtain ⟨o,h3,h4⟩:=he
  cases o with
  |ret r=>cases h4
  |next u =>
   rcases Nat.eq_or_lt_of_le hj with rfl|hj
   ·rw [hd] at hc; cases hc; exact ⟨by omega,by omega,h3⟩
   ·exact bN0 hl h4 j c hj hc
theorem bN6 {w:Wd}:∀{l:List Ob},aE9 w l=.next ()→∀o∈l,obB w o=false∧aI8 (w.heap.length:Int) o.slots=.next ()
 |[],_,o,ho=>by cases ho
 |x::l,h,o,ho=>by
  rw [aE9] at h
  cases hb:obB w x with
  |true=>rw [hb] at h; cases h
  |false =>
   rw [hb] at h
   simp only [cond_false] at h
   cases hv:aI8 (w.heap.length:Int) x.slots with
   |ret r=>rw [hv] at h; cases h
   |next u =>
    rw [hv] at h
    rcases List.mem_cons.1 ho with rfl|ho
    ·exact ⟨hb,hv⟩
    ·exact bN6 h o ho
structure bR1 (N:Nat) (w:Wd):Prop where
 many:4≤w.classes.length∧w.classes.length≤12∧w.heap.length≤60
 epoch:0≤w.epoch∧w.epoch≤1073741824
 cls:∀(j:Nat) c,w.classes[j]?=some c→aO0 (w.classes.take j) j c=0
 meth:∀(j:Nat) c,w.classes[j]?=some c→aC8 w (j:Int)≤6∧c.methods.length≤8∧aC7 N w j c.methods c.methods 0=some (.next ())
 obj:∀o∈w.heap,obB w o=false∧aI8 (w.heap.length:Int) o.slots=.next ()
theorem cB5 {N:Nat} {w:Wd} (h:aR1 N w=some 0):bR1 N w:=by
 unfold aR1 at h
 cases h1:(decide ((w.classes.length:Int) < 4) || (decide (12 < (w.classes.length:Int)) || decide (60 < (w.heap.length:Int)))) with
 |true=>rw [h1] at h; cases h
 |false =>
  rw [h1] at h
  cases h2:(decide (w.epoch < 0) || decide (1073741824 < w.epoch)) with
  |true=>rw [h2] at h; cases h
  |false =>
   rw [h2] at h
   simp only [cond_false] at h
   have ret0:∀{l:List Cl} {k:Nat} {r:Int},aF3 w l k=.ret r→r≠0:=by
    intro l
    induction l with
    |nil=>intro k r h; cases h
    |cons c l ih =>
     intro k r h
     rw [aF3] at h
     by_cases hz:aO0 (w.classes.take k) k c=0
     ·rw [decide_eq_true hz] at h; exact ih h
     ·rw [decide_eq_false hz] at h; cases h; exact hz
   have mret0:∀{k:Nat} {ms:List Me} {l:List Me} {j:Nat} {r:Int},aC7 N w k ms l j=some (.ret r)→r≠0:=by
    intro k ms l
    induction l with
    |nil=>intro j r h; rw [aC7] at h; cases h
    |cons c l ih =>
     intro j r h
     rw [aC7,Option.bind_eq_some_iff] at h
     obtain ⟨e,_,h⟩:=h
     by_cases hz:e=0
     ·rw [decide_eq_true hz] at h; exact ih h
     ·rw [decide_eq_false hz] at h; cases h; exact hz
   have ret1:∀{l:List Cl} {k:Nat} {r:Int},aE0 N w l k=some (.ret r)→r≠0:=by
    intro l
    induction l with
    |nil=>intro k r h; rw [aE0] at h; cases h
    |cons c l ih =>
     intro k r h
     rw [aE0] at h
     cases q1:decide (6 < aC8 w (k:Int)) with
     |true=>rw [q1] at h; cases h; decide
     |false =>
      rw [q1] at h
      cases q2:decide (8 < (c.methods.length:Int)) with
      |true=>rw [q2] at h; cases h; decide
      |false =>
       rw [q2] at h
       simp only [cond_false,Option.bind_eq_some_iff] at h
       obtain ⟨o,h3,h⟩:=h
       cases o with
       |ret r'=>cases h; exact mret0 h3
       |next u=>exact ih h
   have vret0:∀{n:Int} {l:List V} {r:Int},aI8 n l=.ret r→r≠0:=by
    intro n l
    induction l with
    |nil=>intro r h; cases h
    |cons v l ih =>
     intro r h
     rw [aI8] at h
     by_cases hz:aU0 v n=0
     ·rw [decide_eq_true hz] at h; exact ih h
     ·rw [decide_eq_false hz] at h; cases h; exact hz
   have ret2:∀{l:List Ob} {r:Int},aE9 w l=.ret r→r≠0:=by
    intro l
    induction l with
    |nil=>intro r h; cases h
    |cons o l ih =>
     intro r h
     rw [aE9] at h
     cases hb:obB w o with
     |true=>rw [hb] at h; cases h; decide
     |false =>
      rw [hb] at h
      simp only [cond_false] at h
      cases hv:aI8 (w.heap.length:Int) o.slots with
      |ret r'=>rw [hv] at h; cases h; exact vret0 hv
      |next u=>rw [hv] at h; exact ih h
   simp only [Bool.or_eq_false_iff,decide_eq_false_iff_not] at h1 h2
   cases c1:aF3 w w.classes 0 with
   |ret r=>rw [c1] at h; cases h; exact absurd rfl (ret0 c1)
   |next u =>
    rw [c1] at h
    simp only [Option.bind_eq_some_iff] at h
    obtain ⟨o,c2,h⟩:=h
    cases o with
    |ret r=>cases h; exact absurd rfl (ret1 c2)
    |next u =>
     cases c3:aE9 w w.heap with
     |ret r=>simp only [c3] at h; cases h; exact absurd rfl (ret2 c3)
     |next u=>exact ⟨by omega,by omega,fun j c hc=>bM5 (k:=0) rfl c1 j c (Nat.zero_le _) hc,fun j c hc=>bN0 (k:=0) rfl c2 j c (Nat.zero_le _) hc,bN6 c3⟩
theorem aV1 {s:ByteArray} (h:aA8 s=true):WrW s:=by
 unfold aA8 at h
 simp only [Bool.and_eq_true,decide_eq_true_eq] at h
 refine ⟨fun e=>?_,fun e=>?_⟩
 ·have:=aO9 s
  rw [e] at this
  simp at this
  omega
 ·have:=List.all_eq_true.1 h.1 32 e
  revert this
  decide
theorem cA9 {w:Wd} {c:Int} {m:Me} {i:Ins} (h:aP5 w c m i=0):i.b=0∧i.c=0∧(i.op=14→WrW i.name)∧(i.op≠14→i.name=ByteArray.empty):=by
 unfold aP5 at h
 split at h
 ·cases h
 ·split at h
  ·split at h
   ·cases h
   ·rename_i hf
    unfold b38 at hf
    simp only [Bool.or_eq_true,Bool.and_eq_true,Bool.not_eq_true',decide_eq_true_eq,decide_eq_false_iff_not,not_or,not_and,Classical.not_not,Bool.not_eq_false] at hf
    exact ⟨hf.1.2,hf.2,fun ho=>aV1 (hf.1.1.1 ho),fun ho=>hf.1.1.2 ho⟩
  ·cases h
theorem cB4 {N:Nat} {w:Wd} {k:Nat} {p:Option Me} {m:Me} (h:aY1 N w k p m=some 0):WrW m.name∧m.code.length≤60∧∀i∈m.code,i.b=0∧i.c=0∧(i.op=14→WrW i.name)∧(i.op≠14→i.name=ByteArray.empty):=by
 unfold aY1 at h
 cases hp:bA4 p m with
 |true=>rw [hp] at h; cases h
 |false =>
  rw [hp] at h
  cases hb:aW6 k m with
  |true =>
   unfold aW6 at hb
   simp only [Bool.and_eq_true,decide_eq_true_eq] at hb
   obtain ⟨_,ha,_,_,hc⟩:=hb
   obtain ⟨q,hq,e,_⟩:=(bT4 ha).2
   have hn:∀q∈K7,aA8 q.name=true:=by decide
   exact ⟨by rw [←e]; exact aV1 (hn q hq),by rw [hc]; simp,by rw [hc]; intro i hi; cases hi⟩
  |false =>
   rw [hb] at h
   simp only [cond_false,Option.map_eq_some_iff] at h
   obtain ⟨f,hf,he⟩:=h
   have F:=b87 hf he
   exact ⟨aV1 F.name,F.len.2,fun i hi=>cA9 (F.num i hi)⟩
theorem bR1.wr {N:Nat} {w:Wd} (h:bR1 N w) (ho:bQ4 w):bC5 w:=by
 obtain ⟨⟨h1,h2⟩,⟨h3,h4⟩,h5⟩:=ho
 refine ⟨h5,h.many.2.1,h.many.2.2,fun c hc=>?_,fun o hob=>?_⟩
 ·obtain ⟨j,hj⟩:=List.mem_iff_getElem?.1 hc
  obtain ⟨a1,a2,a3,a4⟩:=cH6 (h.cls j c hj)
  obtain ⟨b1,b2,b3⟩:=h.meth j c hj
  obtain ⟨_,o1,o2,o3,o4⟩:=h2 c hc
  refine ⟨aV1 a1,o1,o2,b2,fun m hm=>?_⟩
  obtain ⟨i,hi⟩:=List.mem_iff_getElem?.1 hm
  obtain ⟨m1,m2,m3⟩:=cB4 (bL8 (j:=0) rfl b3 i m (Nat.zero_le _) hi)
  obtain ⟨_,q1,q2,q3,q4,q5⟩:=o4 m hm
  exact ⟨m1,q1,q2,q3,m2,fun x hx=>⟨(q5 x hx).1,(q5 x hx).2.1,m3 x hx⟩⟩
 ·obtain ⟨q1,q2⟩:=h.obj o hob
  obtain ⟨o1,o2,o3⟩:=h4 o hob
  refine ⟨o1,?_,fun v hv=>o3 v hv⟩
  unfold obB at q1
  simp only [Bool.or_eq_false_iff,Bool.and_eq_false_iff,Bool.not_eq_false',decide_eq_false_iff_not,decide_eq_true_eq] at q1
  have hr:0≤o.cls∧o.cls < w.classes.length:=by
   have:=h.many.1
   rcases q1.1 with e|e<;>omega
  obtain ⟨c,hc⟩:∃c,w.classes[o.cls.toNat]?=some c:=⟨_,List.getElem?_eq_getElem (by omega)⟩
  have:=(h.meth o.cls.toNat c hc).1
  have e:((o.cls.toNat:Nat):Int)=o.cls:=by omega
  rw [e] at this
  omega
theorem bC5.small {w:Wd} (h:bC5 w):aL7 w :=
 ⟨by have:=h.2.1; omega,by have:=h.2.2.1; omega,fun c hc=>⟨by have:=(h.2.2.2.1 c hc).2.2.2.1; omega,fun m hm=>by have:=((h.2.2.2.1 c hc).2.2.2.2 m hm).2.2.2.2.1; omega⟩,fun o ho=>by have:=(h.2.2.2.2 o ho).2.1; omega⟩
theorem cO4 {a b:List Int} (h:(strOfNums a).data.toList=(strOfNums b).data.toList):strOfNums a=strOfNums b:=aV8 h
theorem b95 (N:Nat):aR1 N J4=some 0:=by kernel_rfl
theorem cK7 : bC5 J4:=by
 have hW:∀s:ByteArray,aA8 s=true→WrW s:=fun s h=>aV1 h
 have hn:∀m∈K7,aA8 m.name=true∧C8 m.args∧C8 m.temps∧C8 m.prim∧m.code=[]:=by decide
 have hms:∀m∈K7,cA5 m:=fun m hm=>by
  obtain ⟨a,b,c,d,e⟩:=hn m hm
  exact ⟨hW _ a,b,c,d,by rw [e]; simp,by rw [e]; intro i hi; cases hi⟩
 refine ⟨by decide,by decide,by decide,fun c hc=>?_,fun o ho=>by cases ho⟩
 simp only [J4,List.mem_cons,List.not_mem_nil,or_false] at hc
 rcases hc with rfl|rfl|rfl|rfl
 ·exact ⟨hW _ (by decide),by decide,by decide,by decide,fun m hm=>by cases hm⟩
 ·exact ⟨hW _ (by decide),by decide,by decide,by decide,fun m hm=>by cases hm⟩
 ·exact ⟨hW _ (by decide),by decide,by decide,by decide,fun m hm=>by cases hm⟩
 ·exact ⟨hW _ (by decide),by decide,by decide,by decide,hms⟩
theorem bU2 {s:ByteArray} (h:s.size≤12):okS s:=by unfold okS; simp only [maxLen]; omega
theorem b54 : bQ4 J4∧aX4 J4≤1000:=by
 have hn:∀m∈K7,m.name.size≤12∧C8 m.args∧C8 m.temps∧C8 m.prim∧m.code=[]:=by decide
 have e:∀(s:ByteArray) (a b:Int) ,s.size≤12→C8 a→C8 b→bQ3 ⟨s,a,b,[]⟩:=fun s a b h1 h2 h3=>⟨bU2 h1,h2,h3,Nat.zero_le _,fun m hm=>by cases hm⟩
 refine ⟨⟨⟨show (4:Nat)≤maxLen by decide,fun c hc=>?_⟩,⟨show (0:Nat)≤maxLen by decide,fun o ho=>by cases ho⟩,show C8 0 by decide⟩,by decide⟩
 simp only [J4,List.mem_cons,List.not_mem_nil,or_false] at hc
 rcases hc with rfl|rfl|rfl|rfl
 ·exact e _ _ _ (by decide) (by decide) (by decide)
 ·exact e _ _ _ (by decide) (by decide) (by decide)
 ·exact e _ _ _ (by decide) (by decide) (by decide)
 ·refine ⟨bU2 (by decide),show C8 0 by decide,show C8 0 by decide,show (5:Nat)≤maxLen by decide,fun m hm=>?_⟩
  obtain ⟨a,b,c,d,f⟩:=hn m hm
  exact ⟨bU2 a,b,c,d,by rw [f]; exact ⟨Nat.zero_le _,fun i hi=>by cases hi⟩⟩
theorem b06 (N:Nat) (hN:4194304≤N):aF2 N=some true:=by
 have hl:=bY7 b54.1
 have hk:=b54.2
 have hb:(woT J4).length≤140737488355328:=by omega
 have hR:O8 N J4=some 0:=by rw [aB2 N J4 hN bN1]; exact b95 N
 have hR5:O8 N ⟨[],[],0⟩=some 5:=by
  rw [aB2 N ⟨[],[],0⟩ hN ⟨by decide,by decide,fun c hc=>(by cases hc),fun o ho=>(by cases ho)⟩]
  rfl
 have hP:Y6 N (U (woT J4))=some (J4,0):=by
  rw [bD9 N _ (by rw [aE7]; omega),bG0,bX8 cK7]
  simp only [hR,Option.bind_some]
  rfl
 unfold aF2 aO4
 simp only [Option.bind_some,bD7 N J4 hb,hP,cH9 N J4 hb,hR,hR5,cQ9]
 have e4:(J4.classes.length:Int)=4:=rfl
 simp only [e4,decide_true,cond_true,Option.bind_some]
end Go.Proofs.YtibjcppjfkamhaaDoor
