import Derived.Test.YtibjcppjfkamhaaGreatDoorPl63
/- Plain laws: the reference's text; right worlds may be written. No program in sight. -/
namespace Go.Proofs.YtibjcppjfkamhaaGreatDoor
open Go.RowKit
set_option linter.unusedVariables false
def tx (t:BL):ByteArray:=⟨t.toArray⟩
theorem b94 (t:BL):(tx t).size=t.length:=by show t.toArray.size=_; simp
theorem b84 (s:ByteArray):tx s.data.toList=s:=aO4 rfl
theorem cE6 (a b:BL):tx a++tx b=tx (a++b):=by
 apply aO4
 show (tx a++tx b).data.toList=a++b
 simp [tx]
theorem cS5 (t:BL) (s:ByteArray):(tx t++s)++(⟨#[32]⟩:ByteArray)=tx (t++wdT s):=by
 have e:(⟨#[32]⟩:ByteArray)=tx [32]:=rfl
 rw [e,←b84 s,cE6,cE6,b84,wdT,List.append_assoc]
theorem b96 {α:Type} (t:BL) (s:ByteArray) (y:ByteArray→Option α) (h:t.length+(wdT s).length≤4611686018427387904) :
  (bif decide ((tx t).size+s.size≤4611686018427387904) then (bif decide (((tx t)++s).size+(⟨#[32]⟩:ByteArray).size≤4611686018427387904) then y (((tx t)++s)++(⟨#[32]⟩:ByteArray)) else none) else none)=y (tx (t++wdT s)):=by
 have hz:=aD3 s
 simp only [wdT,List.length_append,List.length_singleton,hz] at h
 have e1:(⟨#[32]⟩:ByteArray).size=1:=rfl
 rw [decide_eq_true (by rw [b94]; omega),decide_eq_true (by rw [ByteArray.size_append,b94,e1]; omega),cS5]
 rfl
theorem b48 (N:Nat):∀(l:List Int) (k:Nat) (t:BL),t.length+(Q6 l).length≤4611686018427387904→N9 N l k (tx t)=some (tx (t++Q6 l))
 |[],k,t,_=>by simp [N9,Q6]
 |n::l,k,t,h=>by
  have e:Q6 (n::l)=nmT n++Q6 l:=by simp [Q6]
  rw [e,List.length_append] at h
  have ew:wdT ⟨(Lib.itoa n).toArray⟩=nmT n:=rfl
  rw [N9]
  simp only [strconv_Itoa,Option.bind_some]
  rw [b96 t ⟨(Lib.itoa n).toArray⟩ (fun v=>N9 N l (k+1) v) (by rw [ew]; omega),ew,b48 N l (k+1) _ (by rw [List.length_append]; omega),e,List.append_assoc]
theorem text1 (N:Nat) (l:List Int) (t:BL) (h:t.length+(Q6 l).length≤4611686018427387904):K7 N l (tx t)=some (tx (t++Q6 l)):=by
 unfold K7
 rw [b48 N l 0 t h]
 rfl
theorem bH2 {α:Type} (f:α→BL) (L:List α→Nat→ByteArray→Option ByteArray) (h0:∀k a,L [] k a=some a)
  (hs:∀x l k t,t.length+(f x).length≤4611686018427387904→L (x::l) k (tx t)=L l (k+1) (tx (t++f x))):∀(l:List α) (k:Nat) (t:BL),t.length+(l.map f).flatten.length≤4611686018427387904→L l k (tx t)=some (tx (t++(l.map f).flatten))
 |[],k,t,_=>by simp [h0]
 |x::l,k,t,h=>by
  simp only [List.map_cons,List.flatten_cons,List.length_append] at h
  rw [hs x l k t (by omega),bH2 f L h0 hs l (k+1) _ (by rw [List.length_append]; omega),List.map_cons,List.flatten_cons,List.append_assoc]
theorem cS8 (N:Nat):∀(l:List Ins) (k:Nat) (t:BL),t.length+(l.map aE4).flatten.length≤4611686018427387904→Q9 N l k (tx t)=some (tx (t++(l.map aE4).flatten)) :=
 bH2 aE4 (Q9 N) (fun k a=>rfl) fun i l k t h=>by
  simp only [aE4,List.length_append] at h
  rw [Q9,text1 N _ t (by omega)]
  simp only [Option.bind_some]
  by_cases ho:i.op=14
  ·rw [if_pos ho] at h
   rw [ho] at h ⊢
   simp only [decide_true,cond_true]
   rw [b96 _ i.name (fun v=>some v) (by rw [List.length_append]; omega)]
   simp only [Option.bind_some,aE4,ho,if_true,List.append_assoc]
  ·simp only [ho,decide_false,cond_false,Option.bind_some,aE4,if_false,List.append_nil]
theorem cR3 (N:Nat):∀(l:List Me) (k:Nat) (t:BL),t.length+(l.map meT).flatten.length≤4611686018427387904→O4 N l k (tx t)=some (tx (t++(l.map meT).flatten)) :=
 bH2 meT (O4 N) (fun k a=>rfl) fun m l k t h=>by
  simp only [meT,List.length_append] at h
  rw [O4]
  rw [b96 t m.name (fun v=>(K7 N [m.args,m.temps,m.prim,(m.code.length:Int)] v).bind fun r38=>((Q9 N m.code 0 r38).bind fun v44=>O4 N l (k+1) v44)) (by omega)]
  rw [text1 N _ _ (by rw [List.length_append]; omega)]
  simp only [Option.bind_some]
  rw [cS8 N m.code 0 _ (by simp only [List.length_append]; omega)]
  simp only [Option.bind_some,meT,List.append_assoc]
theorem cP8 (N:Nat):∀(l:List Cl) (k:Nat) (t:BL),t.length+(l.map clT).flatten.length≤4611686018427387904→Q8 N l k (tx t)=some (tx (t++(l.map clT).flatten)) :=
 bH2 clT (Q8 N) (fun k a=>rfl) fun m l k t h=>by
  simp only [clT,List.length_append] at h
  rw [Q8]
  rw [b96 t m.name (fun v=>(K7 N [m.super,m.slots,(m.methods.length:Int)] v).bind fun r20=>((O4 N m.methods 0 r20).bind fun v26=>Q8 N l (k+1) v26)) (by omega)]
  rw [text1 N _ _ (by rw [List.length_append]; omega)]
  simp only [Option.bind_some]
  rw [cR3 N m.methods 0 _ (by simp only [List.length_append]; omega)]
  simp only [Option.bind_some,clT,List.append_assoc]
theorem cS1 (N:Nat):∀(l:List V) (k:Nat) (t:BL),t.length+(l.map vT).flatten.length≤4611686018427387904→V5 N l k (tx t)=some (tx (t++(l.map vT).flatten)) :=
 bH2 vT (V5 N) (fun k a=>rfl) fun v l k t h=>by
  rw [V5,text1 N _ t h]
  rfl
theorem cS6 (N:Nat):∀(l:List Ob) (k:Nat) (t:BL),t.length+(l.map obT).flatten.length≤4611686018427387904→V4 N l k (tx t)=some (tx (t++(l.map obT).flatten)) :=
 bH2 obT (V4 N) (fun k a=>rfl) fun o l k t h=>by
  simp only [obT,List.length_append] at h
  rw [V4,text1 N _ t (by omega)]
  simp only [Option.bind_some]
  rw [cS1 N o.slots 0 _ (by rw [List.length_append]; omega)]
  simp only [Option.bind_some,obT,List.append_assoc]
theorem cT5 (N:Nat) (w:Wd) (h:(woT w).length≤140737488355328):aM3 N w=some (tx (woT w)):=by
 simp only [woT,List.length_append] at h
 have e0:(⟨#[]⟩:ByteArray)=tx []:=rfl
 unfold aM3
 rw [e0,text1 N _ [] (by simp only [List.length_nil]; omega)]
 simp only [Option.bind_some,List.nil_append]
 rw [cP8 N w.classes 0 _ (by omega)]
 simp only [Option.bind_some]
 rw [text1 N _ _ (by simp only [List.length_append]; omega)]
 simp only [Option.bind_some]
 rw [cS6 N w.heap 0 _ (by simp only [List.length_append]; omega)]
 simp only [Option.bind_some,woT,List.append_assoc]
theorem a14 {α:Type} {f:α→BL} {bk:α→Nat} {l:List α} (h:∀x∈l,(f x).length≤22*bk x):(l.map f).flatten.length+22≤22*bkL bk l:=by
 induction l with
 |nil=>simp [bkL]
 |cons x l ih =>
  have h1:=h x (by simp)
  have h2:=ih fun y hy=>h y (by simp [hy])
  rw [bL0]
  simp only [List.map_cons,List.flatten_cons,List.length_append]
  omega
theorem bR1 (s:ByteArray):(wdT s).length=s.size+1:=by rw [wdT,List.length_append,aD3]; rfl
theorem bA4 {n:Nat} (h:n≤maxLen):D6 (n:Int):=by simp only [maxLen] at h; unfold D6; omega
theorem cL6 {i:Ins} (h:b06 i):(aE4 i).length≤22*aP4 i:=by
 obtain ⟨h1,h2,_⟩:=h
 have a1:=Y8 h1
 have a2:=Y8 h2
 have a3:=bR1 i.name
 unfold aE4 aP4 bkI bkS
 rw [List.length_append,aK8,List.length_append]
 split
 ·omega
 ·simp only [List.length_nil]; omega
theorem cQ4 {m:Me} (h:b97 m):(meT m).length≤22*aQ2 m:=by
 obtain ⟨_,h1,h2,h3,h4,h5⟩:=h
 have a1:=Y8 h1
 have a2:=Y8 h2
 have a3:=Y8 h3
 have a4:=Y8 (bA4 h4)
 have a5:=bR1 m.name
 have a6:=a14 (f:=aE4) (bk:=aP4) fun i hi=>cL6 (h5 i hi)
 unfold meT aQ2 bkI bkS
 simp only [List.length_append,cD2]
 omega
theorem cQ2 {c:Cl} (h:cA6 c):(clT c).length≤22*aT2 c:=by
 obtain ⟨_,h1,h2,h4,h5⟩:=h
 have a1:=Y8 h1
 have a2:=Y8 h2
 have a4:=Y8 (bA4 h4)
 have a5:=bR1 c.name
 have a6:=a14 (f:=meT) (bk:=aQ2) fun i hi=>cQ4 (h5 i hi)
 unfold clT aT2 bkI bkS
 simp only [List.length_append,b95]
 omega
theorem cU3 {v:V} (h:okV v):(vT v).length≤22*bkV v:=by
 have a1:=Y8 h.1
 have a2:=Y8 h.2
 unfold vT bkV bkI
 simp only [aK8,List.length_append]
 omega
theorem cR2 {o:Ob} (h:cB9 o):(obT o).length≤22*aS9 o:=by
 obtain ⟨h1,h4,h5⟩:=h
 have a1:=Y8 h1
 have a4:=Y8 (bA4 h4)
 have a6:=a14 (f:=vT) (bk:=bkV) fun i hi=>cU3 (h5 i hi)
 unfold obT aS9 bkI
 simp only [aK8,List.length_append]
 omega
theorem cQ8 {w:Wd} (h:cC6 w):(woT w).length≤22*bG3 w:=by
 obtain ⟨⟨h1,h2⟩,⟨h3,h4⟩,h5⟩:=h
 have a1:=Y8 h5
 have a2:=Y8 (bA4 h1)
 have a3:=Y8 (bA4 h3)
 have a6:=a14 (f:=clT) (bk:=aT2) fun i hi=>cQ2 (h2 i hi)
 have a7:=a14 (f:=obT) (bk:=aS9) fun i hi=>cR2 (h4 i hi)
 unfold woT bG3 bkI
 simp only [aK8,cE1,List.length_append]
 omega
theorem bU5 {w:Wd}:∀{l:List Cl} {k:Nat},l=w.classes.drop k→aI7 w l k=.next ()→∀j c,k≤j→w.classes[j]?=some c→aU9 (w.classes.take j) j c=0
 |[],k,h,_,j,c,hj,hc=>by
  have h1:=(List.getElem?_eq_some_iff.1 hc).1
  have h2:=List.drop_eq_nil_iff.1 h.symm
  omega
 |d::l,k,h,he,j,c,hj,hc=>by
  obtain ⟨hd,hl,_⟩:=z8 h
  rw [aI7] at he
  by_cases hz:aU9 (w.classes.take k) k d=0
  ·rw [decide_eq_true hz] at he
   rcases Nat.eq_or_lt_of_le hj with rfl|hj
   ·rw [hd] at hc; cases hc; exact hz
   ·exact bU5 hl he j c hj hc
  ·rw [decide_eq_false hz] at he
   cases he
theorem b81 {ps:List Cl} {k:Nat} {c:Cl} (h:aU9 ps k c=0):aA7 c.name=true∧aW0 ps c.name=false∧b56 k c=false∧bT4 k c=false:=by
 unfold aU9 at h
 cases h1:(!aA7 c.name || (aW0 ps c.name || b56 k c)) with
 |true=>rw [h1] at h; cases h
 |false =>
  rw [h1] at h
  cases h2:bT4 k c with
  |true=>rw [h2] at h; cases h
  |false =>
   simp only [Bool.or_eq_false_iff,Bool.not_eq_false'] at h1
   exact ⟨h1.1,h1.2.1,h1.2.2,rfl⟩
theorem bW2 {N:Nat} {w:Wd} {k:Nat} {ms:List Me}:∀{l:List Me} {j:Nat},l=ms.drop j→aJ8 N w k ms l j=some (.next ())→∀i m,j≤i→ms[i]?=some m→aZ1 N w k (if i=0 then none else ms[i - 1]?) m=some 0
 |[],j,h,_,i,m,hi,hm=>by
  have h1:=(List.getElem?_eq_some_iff.1 hm).1
  have h2:=List.drop_eq_nil_iff.1 h.symm
  omega
 |x::l,j,h,he,i,m,hi,hm=>by
  obtain ⟨hx,hl,_⟩:=z8 h
  rw [aJ8,Option.bind_eq_some_iff] at he
  obtain ⟨e,h1,h2⟩:=he
  by_cases hz:e=0
  ·subst hz
   rcases Nat.eq_or_lt_of_le hi with rfl|hi
   ·rw [hx] at hm; cases hm; exact h1
   ·exact bW2 hl h2 i m hi hm
  ·rw [decide_eq_false hz] at h2
   cases h2
structure cH8 (N:Nat) (w:Wd):Prop where
 many:4≤w.classes.length∧w.classes.length≤12∧w.heap.length≤60
 epoch:0≤w.epoch∧w.epoch≤1073741824
 cls:∀(j:Nat) c,w.classes[j]?=some c→aU9 (w.classes.take j) j c=0
 meth:∀(j:Nat) c,w.classes[j]?=some c→I4 w (j:Int)≤6∧c.methods.length≤8∧aJ8 N w j c.methods c.methods 0=some (.next ())
 obj:∀o∈w.heap,obB w o=false∧aU4 (w.heap.length:Int) o.slots=.next ()
theorem bH9 {s:ByteArray} (h:aA7 s=true):WrW s:=by
 unfold aA7 at h
 simp only [Bool.and_eq_true,decide_eq_true_eq] at h
 refine ⟨fun e=>?_,fun e=>?_⟩
 ·have:=aD3 s
  rw [e] at this
  simp at this
  omega
 ·have:=List.all_eq_true.1 h.1 32 e
  revert this
  decide
theorem cN8 {w:Wd} {c:Int} {m:Me} {i:Ins} (h:aL1 w c m i=0):i.b=0∧i.c=0∧(i.op=14→WrW i.name)∧(i.op≠14→i.name=ByteArray.empty):=by
 unfold aL1 at h
 split at h
 ·cases h
 ·split at h
  ·split at h
   ·cases h
   ·rename_i hf
    unfold b05 at hf
    simp only [Bool.or_eq_true,Bool.and_eq_true,Bool.not_eq_true',decide_eq_true_eq,decide_eq_false_iff_not,not_or,not_and,Classical.not_not,Bool.not_eq_false] at hf
    exact ⟨hf.1.2,hf.2,fun ho=>bH9 (hf.1.1.1 ho),fun ho=>hf.1.1.2 ho⟩
  ·cases h
theorem cM4 {N:Nat} {w:Wd} {k:Nat} {p:Option Me} {m:Me} (h:aZ1 N w k p m=some 0):WrW m.name∧m.code.length≤60∧∀i∈m.code,i.b=0∧i.c=0∧(i.op=14→WrW i.name)∧(i.op≠14→i.name=ByteArray.empty):=by
 unfold aZ1 at h
 cases hp:aU5 p m with
 |true=>rw [hp] at h; cases h
 |false =>
  rw [hp] at h
  cases hb:aV1 k m with
  |true =>
   unfold aV1 at hb
   simp only [Bool.and_eq_true,decide_eq_true_eq] at hb
   obtain ⟨_,ha,_,_,hc⟩:=hb
   obtain ⟨q,hq,e,_⟩:=(b70 ha).2
   have hn:∀q∈Q0,aA7 q.name=true:=by decide
   exact ⟨by rw [←e]; exact bH9 (hn q hq),by rw [hc]; simp,by rw [hc]; intro i hi; cases hi⟩
  |false =>
   rw [hb] at h
   simp only [cond_false,Option.map_eq_some_iff] at h
   obtain ⟨f,hf,he⟩:=h
   have F:=cE7 hf he
   exact ⟨bH9 F.name,F.len.2,fun i hi=>cN8 (F.num i hi)⟩
theorem cH8.wr {N:Nat} {w:Wd} (h:cH8 N w) (ho:cC6 w):bS4 w:=by
 obtain ⟨⟨h1,h2⟩,⟨h3,h4⟩,h5⟩:=ho
 refine ⟨h5,h.many.2.1,h.many.2.2,fun c hc=>?_,fun o hob=>?_⟩
 ·obtain ⟨j,hj⟩:=List.mem_iff_getElem?.1 hc
  obtain ⟨a1,a2,a3,a4⟩:=b81 (h.cls j c hj)
  obtain ⟨b1,b2,b3⟩:=h.meth j c hj
  obtain ⟨_,o1,o2,o3,o4⟩:=h2 c hc
  refine ⟨bH9 a1,o1,o2,b2,fun m hm=>?_⟩
  obtain ⟨i,hi⟩:=List.mem_iff_getElem?.1 hm
  obtain ⟨m1,m2,m3⟩:=cM4 (bW2 (j:=0) rfl b3 i m (Nat.zero_le _) hi)
  obtain ⟨_,q1,q2,q3,q4,q5⟩:=o4 m hm
  exact ⟨m1,q1,q2,q3,m2,fun x hx=>⟨(q5 x hx).1,(q5 x hx).2.1,m3 x hx⟩⟩
 ·obtain ⟨q1,q2⟩:=h.obj o hob
  obtain ⟨o1,o2,o3⟩:=h4 o hob
  refine ⟨o1,?_,fun v hv=>o3 v hv⟩
  unfold obB at q1
  simp only [Bool.or_eq_false_iff,Bool.and_eq_false_iff,Bool.not_eq_false',decide_eq_false_iff_not,decide_eq_true_eq] at q1
  have hr:0≤o.cls∧o.cls < w.classes.length:=by
   have:=h.many.1
   rcases q1.1 with e|e<;>omega
  obtain ⟨c,hc⟩:∃c,w.classes[o.cls.toNat]?=some c:=⟨_,List.getElem?_eq_getElem (by omega)⟩
  have:=(h.meth o.cls.toNat c hc).1
  have e:((o.cls.toNat:Nat):Int)=o.cls:=by omega
  rw [e] at this
  omega
theorem bS4.small {w:Wd} (h:bS4 w):aJ0 w :=
 ⟨by have:=h.2.1; omega,by have:=h.2.2.1; omega,fun c hc=>⟨by have:=(h.2.2.2.1 c hc).2.2.2.1; omega,fun m hm=>by have:=((h.2.2.2.1 c hc).2.2.2.2 m hm).2.2.2.2.1; omega⟩,fun o ho=>by have:=(h.2.2.2.2 o ho).2.1; omega⟩
end Go.Proofs.YtibjcppjfkamhaaGreatDoor
