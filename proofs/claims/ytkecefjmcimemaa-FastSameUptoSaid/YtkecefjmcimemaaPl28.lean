import Derived.Test.YtkecefjmcimemaaPl27
/- Whoever stands in does the same: the machine by fast code goes where the machine by plain code goes. No program in sight. -/
namespace Go.Proofs.Ytkecefjmcimemaa
open Go.RowKit
set_option linter.unusedVariables false
inductive aB9 (w:Wd) (fuel:Int) (L:St→Int→ByteArray→Int×Int) (Q:Int→Int→Fs×Bool):Cf→Cf→Prop
 |refl (c:Cf):aB9 w fuel L Q c c
 |step {c c1 c2:Cf}:c.err=0→c.fs≠[]→Wk w Q c→M5 w fuel L Q c=some c1→mu fuel c1 < mu fuel c→aB9 w fuel L Q c1 c2→aB9 w fuel L Q c c2
section
variable {w:Wd} {fuel:Int} {L:St→Int→ByteArray→Int×Int} {Q:Int→Int→Fs×Bool}
theorem aB9.trans {a b c:Cf} (h:aB9 w fuel L Q a b) (h':aB9 w fuel L Q b c):aB9 w fuel L Q a c:=by
 induction h with
 |refl=>exact h'
 |step h1 h2 h3 h4 h5 _ ih=>exact .step h1 h2 h3 h4 h5 (ih h')
theorem aB9.path {a b:Cf} (h:aB9 w fuel L Q a b):Path w fuel L Q a b:=by
 induction h with
 |refl=>exact .refl _
 |step h1 h2 _ h4 _ _ ih=>exact .step h1 h2 h4 ih
end
def qF (w:Wd) (S:Int→Int→List Int):Int→Int→Fs×Bool:=fun k j=>bB5 w k j (S k j)
def Z7 (w:Wd) (S:Int→Int→List Int) (k j:Int) (m:Me):List L8×Int:=I9 w (S k j) m.code.length m.code 0 0 m.temps
theorem cI3 {w:Wd} {S:Int→Int→List Int} {k j:Int} {x:Cl} {m:Me} (hx:p8 w.classes k=some x) (hm:p8 x.methods j=some m) :
  qF w S k j=if (Z7 w S k j m).1.any L8.isPc=true then (⟨k,m.name,w.epoch,(Z7 w S k j m).2,aG2 (P8 (Z7 w S k j m).1 0) (Z7 w S k j m).1 0⟩,true) else (⟨0,ByteArray.empty,0,0,[]⟩,false):=by
 have h1:=aF7 hx
 have h2:=aF7 hm
 unfold qF bB5
 rw [if_neg (by omega),(u6 hx).2]
 simp only
 rw [(u6 hm).2]
 rfl
theorem bR8 (w:Wd) (hL:aH3 w) (sites:List Int) (L:Nat):∀(r:List Ins) (k size:Nat) (t:Int),t≤40→(I9 w sites L r k size t).2≤40
 |[],k,size,t,h=>h
 |i::r,k,size,t,h=>by
  rw [I9]
  split
  ·rename_i y c hc
   have:=(aT8 hc).2.2.2.2.2.2.2
   exact bR8 w hL sites L r _ _ _ (by omega)
  ·exact bR8 w hL sites L r _ _ t h
theorem cP9 : ∀l:List L8,Y9 l l.length=b47 l
 |[]=>rfl
 |x::l=>by simp only [List.length_cons,Y9,b47,cP9 l]
theorem dB9 (l:List L8):Y9 l 0=0:=by cases l<;>rfl
structure FF (w:Wd) (S:Int→Int→List Int) (g p:l6) (m:Me):Prop where
 fast:g.fast=true
 slow:p.fast=false
 cls:g.class_=p.class_
 mth:g.method=p.method
 self:g.self_=p.self_
 args:g.args=p.args
 meth:∃x,p8 w.classes p.class_=some x∧p8 x.methods p.method=some m
 codeP:p.code=m.code
 codeF:g.code=aG2 (P8 (Z7 w S p.class_ p.method m).1 0) (Z7 w S p.class_ p.method m).1 0
 len:(g.temps.length:Int)=(Z7 w S p.class_ p.method m).2
 tlen:(p.temps.length:Int)=m.temps
 tk:g.temps.take p.temps.length=p.temps
inductive FR (w:Wd) (S:Int→Int→List Int):l6→l6→Prop
 |same {f:l6}:f.fast=false→FR w S f f
 |fast {g p:l6} {m:Me}:FF w S g p m→g.stack=p.stack→0≤p.at_→g.at_=(Y9 (Z7 w S p.class_ p.method m).1 p.at_.toNat:Int)→FR w S g p
inductive FRs (w:Wd) (S:Int→Int→List Int):List l6→List l6→Prop
 |nil:FRs w S [] []
 |cons {g p:l6} {G P:List l6}:FR w S g p→FRs w S G P→FRs w S (g::G) (p::P)
structure InP (w:Wd) (S:Int→Int→List Int) (g h p:l6) (m y:Me) (q:Nat) (s c:Int):Prop where
 ff:FF w S g p m
 item:(Z7 w S p.class_ p.method m).1[q]?=some (.pc y s c (q:Int))
 at_:p.at_=(q:Int)+1
 hslow:h.fast=false
 hcode:h.code=y.code
 hat0:0≤h.at_
 hat:g.at_=((Y9 (Z7 w S p.class_ p.method m).1 q+hl y:Nat):Int)+h.at_
 stack:g.stack=p.stack++h.stack
 ms:m.temps≤s
 temps:TIn g.temps s y h.self_ h.args h.temps
 leaf:aP1 y=true
structure aA2 (a b:Cf):Prop where
 heap:a.heap=b.heap
 sends:a.sends=b.sends
 turns:a.turns=b.turns
 back:a.back=b.back
 err:a.err=b.err
inductive CR (w:Wd) (S:Int→Int→List Int) (a b:Cf):Prop
 |out:aA2 a b→FRs w S a.fs b.fs→CR w S a b
 |in_ {g h p:l6} {G P:List l6} {m y:Me} {q:Nat} {s c:Int}:aA2 a b→a.fs=g::G→b.fs=h::p::P→FRs w S G P→InP w S g h p m y q s c→CR w S a b
theorem FRs.len {w:Wd} {S:Int→Int→List Int} {F G:List l6} (h:FRs w S F G):F.length=G.length:=by
 induction h with
 |nil=>rfl
 |cons _ _ ih=>simp [ih]
theorem FF.push {w:Wd} {S:Int→Int→List Int} {g p:l6} {m:Me} (h:FF w S g p m) (v u:V):FF w S (J5 g v) (J5 p u) m :=
 ⟨h.fast,h.slow,h.cls,h.mth,h.self,h.args,h.meth,h.codeP,h.codeF,h.len,h.tlen,h.tk⟩
theorem FR.push {w:Wd} {S:Int→Int→List Int} {g p:l6} (h:FR w S g p) (v:V):FR w S (J5 g v) (J5 p v):=by
 cases h with
 |same h=>exact .same h
 |fast h h1 h2 h3=>exact .fast (h.push v v) (by simp [J5,h1]) h2 h3
theorem cL0 {w:Wd} {S:Int→Int→List Int} {a b:Cf} (hS:aA2 a b) (hF:FRs w S a.fs b.fs) (v:V):aA2 (Z8 a v) (Z8 b v)∧FRs w S (Z8 a v).fs (Z8 b v).fs:=by
 unfold Z8
 cases hb:b.fs with
 |nil =>
  rw [hb] at hF
  have:a.fs=[]:=by
   cases ha:a.fs with
   |nil=>rfl
   |cons x l=>rw [ha] at hF; cases hF
  simp only [this]
  exact ⟨⟨hS.heap,hS.sends,hS.turns,rfl,hS.err⟩,.nil⟩
 |cons p P =>
  rw [hb] at hF
  cases ha:a.fs with
  |nil=>rw [ha] at hF; cases hF
  |cons g G =>
   rw [ha] at hF
   cases hF with
   |cons h1 h2=>exact ⟨⟨hS.heap,hS.sends,hS.turns,hS.back,hS.err⟩,.cons (h1.push v) h2⟩
section
variable {w:Wd} {fuel:Int} {S:Int→Int→List Int}
theorem b50 (W:WOk w) (hL:aH3 w) {k j:Int} {x:Cl} {m:Me} (hx:p8 w.classes k=some x) (hm:p8 x.methods j=some m) (ht:0≤m.temps) (self:V) (args:List V):FR w S (aR6 (qF w S) k j m self args) (aR6 noQ k j m self args):=by
 have e2:aR6 noQ k j m self args=⟨k,j,false,m.code,self,args,List.replicate m.temps.toNat ⟨0,0⟩,[],0⟩:=aY3 (fun _ _=>rfl) k j m self args
 rw [e2]
 unfold aR6
 rw [cI3 hx hm]
 by_cases h:(Z7 w S k j m).1.any L8.isPc=true
 ·rw [if_pos h]
  simp only [if_true]
  have hT:=aN0 w hL (S k j) m.code.length m.code 0 0 m.temps
  have hT:m.temps≤(Z7 w S k j m).2:=hT
  refine .fast (m:=m) ⟨rfl,rfl,rfl,rfl,rfl,rfl,⟨x,hx,hm⟩,rfl,rfl,?_,?_,?_⟩ rfl (Int.le_refl _) ?_
  ·simp only [List.length_replicate]; omega
  ·simp only [List.length_replicate]; omega
  ·simp only [List.length_replicate,List.take_replicate]
   congr 1
   omega
  ·simp [dB9]
 ·rw [if_neg h]
  exact .same rfl
theorem cG6 (W:WOk w) (hL:aH3 w) {a b b':Cf} (hS:aA2 a b) (hF:FRs w S a.fs b.fs) {k j:Int} {self:V} {args:List V} (h:aG8 w fuel noQ b k j self args=some b') :
  ∃a',aG8 w fuel (qF w S) a k j self args=some a'∧aA2 a' b'∧FRs w S a'.fs b'.fs:=by
 obtain ⟨x,m,hx,hm,h⟩:=aP4 h
 have hlen:=hF.len
 unfold aG8
 simp only [hx,hm,Option.bind_some]
 rcases h with ⟨g1,rfl⟩|⟨g1,g2,rfl⟩|⟨g1,g2,g3,v,hv,h⟩|⟨g1,g2,g3,g4,rfl⟩|⟨g1,g2,g3,g4,rfl⟩
 ·rw [if_pos g1]
  exact ⟨_,rfl,⟨hS.heap,hS.sends,hS.turns,hS.back,rfl⟩,hF⟩
 ·rw [if_neg (by simpa using g1)]
  have:fuel≤a.sends:=by rw [hS.sends]; exact g2
  refine ⟨I6 a 13,?_,⟨hS.heap,hS.sends,hS.turns,hS.back,rfl⟩,hF⟩
  by_cases hp:m.prim=0
  ·rw [if_neg (by simpa using hp),if_pos this]
  ·rw [if_pos hp,if_pos this]
 ·rw [if_neg (by simpa using g1),if_pos g3,if_neg (by rw [hS.sends]; omega),hv]
  simp only [Option.bind_some]
  have hS1:aA2 { a with sends:=a.sends+1 } { b with sends:=b.sends+1 }:=⟨hS.heap,by simp only; rw [hS.sends],hS.turns,hS.back,hS.err⟩
  rcases h with ⟨h5,rfl⟩|⟨h5,rfl⟩
  ·rw [if_pos h5]
   exact ⟨_,rfl,⟨hS1.heap,hS1.sends,hS1.turns,hS1.back,rfl⟩,hF⟩
  ·rw [if_neg (by simpa using h5)]
   obtain ⟨q1,q2⟩:=cL0 hS1 (w:=w) (S:=S) hF (Y7 m.prim self v).1
   exact ⟨_,rfl,q1,q2⟩
 ·rw [if_neg (by simpa using g1),if_neg (by simpa using g3),if_neg (by rw [hS.sends]; omega),if_pos (by omega)]
  exact ⟨_,rfl,⟨hS.heap,hS.sends,hS.turns,hS.back,rfl⟩,hF⟩
 ·rw [if_neg (by simpa using g1),if_neg (by simpa using g3),if_neg (by rw [hS.sends]; omega),if_neg (by omega)]
  have ht:0≤m.temps:=(W.temps x (U0 hx) m (U0 hm)).1
  exact ⟨_,rfl,⟨hS.heap,by simp only; rw [hS.sends],hS.turns,hS.back,hS.err⟩,.cons (b50 W hL hx hm ht self args) hF⟩
end
end Go.Proofs.Ytkecefjmcimemaa
