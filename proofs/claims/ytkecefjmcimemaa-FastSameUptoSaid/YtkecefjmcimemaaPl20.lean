import Derived.Test.YtkecefjmcimemaaPl15
import Derived.Test.YtkecefjmcimemaaPl10
/- The machine, plainly: what a step of it does. No program in sight. -/
namespace Go.Proofs.Ytkecefjmcimemaa
open Go.RowKit
set_option linter.unusedVariables false
structure Cf where
 heap:List Ob
 sends:Int
 turns:Int
 fs:List l6
 back:V
 err:Int
 ev:List (St×Int)
def J5 (f:l6) (v:V):l6:={ f with stack:=f.stack++[v] }
def aD4 (f:l6):Option (V×l6):=f.stack.getLast?.map fun v=>(v,{ f with stack:=f.stack.dropLast })
def I6 (c:Cf) (e:Int):Cf:={ c with err:=e }
def Z8 (c:Cf) (v:V):Cf:=match c.fs with
 |[]=>{ c with back:=v }
 |f::F=>{ c with fs:=J5 f v::F }
def aR6 (Q:Int→Int→Fs×Bool) (k j:Int) (m:Me) (self:V) (args:List V):l6 :=
 if (Q k j).2=true then ⟨k,j,true,(Q k j).1.code,self,args,List.replicate (Q k j).1.temps.toNat ⟨0,0⟩,[],0⟩
 else ⟨k,j,false,m.code,self,args,List.replicate m.temps.toNat ⟨0,0⟩,[],0⟩
def aG8 (w:Wd) (fuel:Int) (Q:Int→Int→Fs×Bool) (c:Cf) (k j:Int) (self:V) (args:List V):Option Cf :=
 (p8 w.classes k).bind fun x=>(p8 x.methods j).bind fun m =>
  if m.args≠args.length then some (I6 c 8)
  else if m.prim≠0 then
   if fuel≤c.sends then some (I6 c 13) else (p8 args 0).bind fun a =>
    if (Y7 m.prim self a).2≠0 then some (I6 { c with sends:=c.sends+1 } (Y7 m.prim self a).2) else some (Z8 { c with sends:=c.sends+1 } (Y7 m.prim self a).1)
  else if fuel≤c.sends then some (I6 c 13)
  else if 20≤c.fs.length then some (I6 c 14)
  else some { c with sends:=c.sends+1,fs:=aR6 Q k j m self args::c.fs }
def aA9 (c:Cf) (f:l6) (F:List l6) (to:Int):Cf :=
 if to < f.at_ then { c with turns:=c.turns+1,fs:={ f with at_:=to }::F,err:=if 300 < c.turns+1 then 16 else c.err } else { c with fs:={ f with at_:=to }::F }
def aD5 (f:l6) (m:Me) (i:Ins) (p:Int):St:=⟨f.class_,m.name,if f.fast=true then i.c else p⟩
def bL1 (w:Wd) (fuel:Int) (L:St→Int→ByteArray→Int×Int) (Q:Int→Int→Fs×Bool) (c:Cf) (f:l6) (F:List l6) (i:Ins) (p:Int):Option Cf :=
 if 0≤i.a∧i.a < f.stack.length then
  (f.stack[f.stack.length - i.a.toNat - 1]?).bind fun x=>(p8 w.classes f.class_).bind fun cl=>(p8 cl.methods f.method).bind fun m =>
   if (L (aD5 f m i p) (D9 c.heap x) i.name).2 < 0 then
    some (I6 { c with fs:=f::F,ev:=c.ev++[((aD5 f m i p),D9 c.heap x)] } 10)
   else aG8 w fuel Q { c with fs:={ f with stack:=f.stack.take (f.stack.length - i.a.toNat - 1) }::F,ev:=c.ev++[((aD5 f m i p),D9 c.heap x)] }
    (L (aD5 f m i p) (D9 c.heap x) i.name).1 (L (aD5 f m i p) (D9 c.heap x) i.name).2 x (f.stack.drop (f.stack.length - i.a.toNat))
 else none
def bO4 (w:Wd) (c:Cf) (f:l6) (F:List l6) (i:Ins):Option Cf :=
 if 0≤i.b∧i.b < f.stack.length then
  (f.stack[f.stack.length - 1 - i.b.toNat]?).bind fun x=>if D9 c.heap x=i.a then some { c with fs:=f::F } else
   (p8 w.classes f.class_).bind fun cl=>(p8 cl.methods f.method).bind fun m =>
    if 0≤m.temps∧m.temps≤f.temps.length then some { c with fs:={ f with fast:=false,code:=m.code,temps:=f.temps.take m.temps.toNat,at_:=i.c }::F } else none
 else none
def bD3 (h:List Ob) (o:V) (n:Int) (v:V):Option (List Ob) :=
 if o.k=4 then (if 0≤o.n then (match h[o.n.toNat]? with
  |none=>some h
  |some b=>if n < b.slots.length then (if 0≤n then some (h.set o.n.toNat ⟨b.cls,b.slots.set n.toNat v⟩) else none) else some h) else none) else some h
def bK9 (w:Wd) (c:Cf) (f:l6) (F:List l6) (i:Ins):Option Cf :=
 if i.op=1 then some { c with fs:=J5 f f.self_::F }
 else if i.op=2 then (p8 f.args i.a).map fun v=>{ c with fs:=J5 f v::F }
 else if i.op=3 then (p8 f.temps i.a).map fun v=>{ c with fs:=J5 f v::F }
 else if i.op=4 then some { c with fs:=J5 f (aZ2 c.heap f.self_ i.a)::F }
 else if i.op=5 then some { c with fs:=J5 f ⟨3,i.a⟩::F }
 else if i.op=6 then some { c with fs:=J5 f ⟨0,0⟩::F }
 else if i.op=7 then some { c with fs:=J5 f ⟨1,0⟩::F }
 else if i.op=8 then some { c with fs:=J5 f ⟨2,0⟩::F }
 else if i.op=9 then (aD4 f).map fun p=>{ c with fs:=p.2::F }
 else if i.op=10 then f.stack.getLast?.map fun v=>{ c with fs:=J5 f v::F }
 else if i.op=11 then (aD4 f).bind fun p=>if 0≤i.a∧i.a < f.temps.length then some { c with fs:={ p.2 with temps:=f.temps.set i.a.toNat p.1 }::F } else none
 else if i.op=12 then (aD4 f).bind fun p=>(bD3 c.heap f.self_ i.a p.1).map fun h=>{ c with heap:=h,fs:=p.2::F }
 else if i.op=19 then (p8 f.temps i.a).map fun t=>{ c with fs:=J5 f (aZ2 c.heap t i.b)::F }
 else if i.op=20 then (p8 f.temps i.a).bind fun t=>(aD4 f).bind fun p=>(bD3 c.heap t i.b p.1).map fun h=>{ c with heap:=h,fs:=p.2::F }
 else if i.op=13 then (if 60≤c.heap.length then some (I6 { c with fs:=f::F } 15) else some { c with heap:=c.heap++[⟨i.a,List.replicate (G5 w i.a).toNat ⟨0,0⟩⟩],fs:=J5 f ⟨4,(c.heap.length:Int)⟩::F })
 else some { c with fs:=f::F }
def aW5 (fuel:Int) (c:Cf):Cf:=if fuel≤c.sends then I6 c 13 else if 20≤c.fs.length then I6 c 14 else { c with sends:=c.sends+1 }
def bL5 (c:Cf) (F:List l6) (i:Ins) (p:V×l6):Cf :=
 if p.1.k=1 then aA9 c p.2 F i.a else if p.1.k=2 then { c with fs:=p.2::F } else I6 { c with fs:=p.2::F } 11
def M5 (w:Wd) (fuel:Int) (L:St→Int→ByteArray→Int×Int) (Q:Int→Int→Fs×Bool) (c:Cf):Option Cf :=
 match c.fs with
 |[]=>none
 |f::F=>(p8 f.code f.at_).bind fun i =>
  if i.op=14 then bL1 w fuel L Q c { f with at_:=f.at_+1 } F i f.at_
  else if i.op=15 then some (aA9 c { f with at_:=f.at_+1 } F i.a)
  else if i.op=16 then (aD4 { f with at_:=f.at_+1 }).map (bL5 c F i)
  else if i.op=17 then (aD4 { f with at_:=f.at_+1 }).map fun p=>Z8 { c with fs:=F } p.1
  else if i.op=18 then bO4 w c { f with at_:=f.at_+1 } F i
  else if i.op=21 then some (aW5 fuel { c with fs:={ f with at_:=f.at_+1 }::F })
  else bK9 w c { f with at_:=f.at_+1 } F i
theorem cG2 (w:Wd) (H:List Ob) (e:Int):∀(n:Nat) (c:Int),aE2 ⟨w.classes,H,e⟩ n c=aE2 w n c
 |0,_=>rfl
 |n+1,c=>by
  unfold aE2
  simp only [cG2 w H e n]
theorem aR4 (w:Wd) (H:List Ob) (e:Int) (c:Int):G5 ⟨w.classes,H,e⟩ c=G5 w c:=by
 unfold G5
 simp only [cG2]
theorem b90 (w:Wd) (H:List Ob) (e:Int) (s:ByteArray):∀(n:Nat) (c:Int),aH7 ⟨w.classes,H,e⟩ s n c=aH7 w s n c
 |0,_=>rfl
 |n+1,c=>by
  unfold aH7
  simp only [b90 w H e s n]
theorem cW0 (w:Wd) (H:List Ob) (e:Int) (s:ByteArray) (c:Int):y9 ⟨w.classes,H,e⟩ s c=y9 w s c:=by
 unfold y9
 simp only [b90]
theorem bR5 (v:V):(⟨v.k,v.n⟩:V)=v:=rfl
theorem cM0 {f:l6} {F:List l6} (h:F.length≤1000):wr (((f::F).reverse.length:Int) - 1)=(F.length:Int):=by
 rw [D8 (by unfold D6; simp; omega)]; simp
theorem Y3 (f:l6) (F:List l6):(f::F).reverse[F.length]?=some f:=by
 rw [List.reverse_cons,List.getElem?_append_right (by simp)]; simp
theorem cS8 (f:l6) (F:List l6):p8 (f::F).reverse (F.length:Int)=some f:=by rw [G6,Y3]
theorem aB8 (f g:l6) (F:List l6):(f::F).reverse.set F.length g=(g::F).reverse:=by
 rw [List.reverse_cons,List.set_append_right (h:=by simp)]; simp
theorem dB4 (f:l6) (F:List l6):(f::F).reverse.take F.length=F.reverse:=by
 rw [List.reverse_cons,List.take_left' (by simp)]
theorem dJ7 (f:l6) (F:List l6):¬(((f::F).reverse.length:Int)=0):=by simp; omega
section
variable {N:Nat} {cl:List Cl} {H:List Ob} {ep fuel sends turns err:Int} {back:V}
theorem aY1 (fr:List l6) (e:Int):K5 N ⟨⟨cl,H,ep⟩,fuel,sends,turns,fr,back,0⟩ e=some ⟨⟨cl,H,ep⟩,fuel,sends,turns,fr,back,e⟩:=by
 simp [K5]
theorem cJ0 (fr:List l6) (b:Bool) (hs:-1000000≤sends∧sends≤1000000):Z6 N ⟨⟨cl,H,ep⟩,fuel,sends,turns,fr,back,0⟩ b =
  some (if fuel≤sends then (false,⟨⟨cl,H,ep⟩,fuel,sends,turns,fr,back,13⟩) else if b=true∧20≤fr.length then (false,⟨⟨cl,H,ep⟩,fuel,sends,turns,fr,back,14⟩) else (true,⟨⟨cl,H,ep⟩,fuel,sends+1,turns,fr,back,0⟩)):=by
 have hw:wr (sends+1)=sends+1:=D8 (by unfold D6; omega)
 unfold Z6
 simp only [aY1,hw]
 by_cases h1:fuel≤sends
 ·simp only [h1,decide_true,cond_true,if_true,Option.bind_some]
 ·by_cases h2:20≤fr.length
  ·have h2':(20:Int)≤(fr.length:Int):=by omega
   cases b<;>simp [h1,h2,h2']
  ·have h2':¬(20:Int)≤(fr.length:Int):=by omega
   cases b<;>simp [h1,h2,h2']
theorem dG4 (F:List l6) (v:V) (hF:F.length≤1000) (hs:∀f∈F,f.stack.length≤1000):aB2 N ⟨⟨cl,H,ep⟩,fuel,sends,turns,F.reverse,back,err⟩ v =
  some (match F with
   |[]=>⟨⟨cl,H,ep⟩,fuel,sends,turns,[],v,err⟩
   |f::G=>⟨⟨cl,H,ep⟩,fuel,sends,turns,(J5 f v::G).reverse,back,err⟩):=by
 unfold aB2
 cases F with
 |nil=>simp
 |cons f G =>
  have hl:f.stack.length≤1000:=hs f (by simp)
  simp only [cM0 (show G.length≤1000 by simp at hF; omega),cS8,Int.toNat_natCast,aB8,Option.bind_some]
  rw [I1 (by simp; omega),decide_eq_false (dJ7 f G)]
  rfl
end
structure WkF (f:l6):Prop where
 stack:f.stack.length≤1000
 code:f.code.length≤1000
 num:∀v∈f.stack,v.k=3→aK8 v.n
structure Wk (w:Wd) (Q:Int→Int→Fs×Bool) (c:Cf):Prop where
 cls:w.classes.length≤1048576
 meth:∀x∈w.classes,∀m∈x.methods,0≤m.temps∧m.temps≤1000
 slots:∀k,0≤G5 w k∧G5 w k≤1000
 quick:∀k j,(Q k j).2=true→0≤(Q k j).1.temps∧(Q k j).1.temps≤1000
 heap:c.heap.length≤1000∧∀o∈c.heap,o.slots.length≤1000
 fs:c.fs.length≤900
 fr:∀f∈c.fs,WkF f
 sends:-1000000≤c.sends∧c.sends≤100000
 turns:-1000000≤c.turns∧c.turns≤100000
def Cf.toM (w:Wd) (fuel:Int) (c:Cf):l9:=⟨⟨w.classes,c.heap,w.epoch⟩,fuel,c.sends,c.turns,c.fs.reverse,c.back,c.err⟩
theorem U0 {α:Type} {l:List α} {i:Int} {x:α} (h:p8 l i=some x):x∈l:=List.mem_of_getElem? (u6 h).2
theorem cM8 {w:Wd} {fuel:Int} {N:Nat} (c:Cf) (v:V) (hF:c.fs.length≤1000) (hs:∀f∈c.fs,f.stack.length≤1000) :
  aB2 N (c.toM w fuel) v=some ((Z8 c v).toM w fuel):=by
 obtain ⟨h,s,t,fs,b,e,ev⟩:=c
 unfold Cf.toM
 rw [dG4 fs v hF hs]
 cases fs<;>rfl
section
variable {w:Wd} {fuel:Int} {N:Nat} {gl:St→Int→ByteArray→Option (Int×Int)} {gq:Int→Int→Option (Fs×Bool)} {L:St→Int→ByteArray→Int×Int} {Q:Int→Int→Fs×Bool}
theorem cM1 (hgq:∀k j x m,p8 w.classes k=some x→p8 x.methods j=some m→gq k j=some (Q k j))
  (hm:∀x∈w.classes,∀m∈x.methods,0≤m.temps∧m.temps≤1000) (hq:∀k j,(Q k j).2=true→0≤(Q k j).1.temps∧(Q k j).1.temps≤1000)
  (c:Cf) (he:c.err=0) (hs:-1000000≤c.sends∧c.sends≤1000000) (hF:c.fs.length≤1000) (hst:∀f∈c.fs,f.stack.length≤1000) (k j:Int) (self:V) (args:List V)
  (h1:self.k=3→aK8 self.n) (h2:∀v∈args,v.k=3→aK8 v.n) (h3:args.length≤1000) (c':Cf) (h:aG8 w fuel Q c k j self args=some c') :
  aC9 N (c.toM w fuel) gq k j self args=some (c'.toM w fuel):=by
 obtain ⟨hp,s,t,fs,b,e,ev⟩:=c
 simp only at he hs hF hst
 subst he
 unfold aG8 at h
 obtain ⟨x,hx,h⟩:=j4 h
 obtain ⟨m,hme,h⟩:=j4 h
 have hmt:=hm x (U0 hx) m (U0 hme)
 unfold aC9 Cf.toM
 simp only [hx,hme,Option.bind_some,aY1,cJ0 fs.reverse _ hs]
 simp only at h
 by_cases g1:m.args=args.length
 ·rw [if_neg (by simpa using g1)] at h
  rw [decide_eq_true g1]
  simp only [Bool.not_true,cond_false]
  by_cases g2:m.prim=0
  ·rw [if_neg (by simpa using g2)] at h
   rw [decide_eq_true g2]
   simp only [Bool.not_true,cond_false]
   by_cases g3:fuel≤s
   ·rw [if_pos g3] at h
    cases h
    simp only [g3,if_true,Bool.not_false,cond_true]
    rfl
   ·rw [if_neg g3] at h
    by_cases g4:20≤fs.length
    ·rw [if_pos g4] at h
     cases h
     simp only [g3,List.length_reverse,g4,and_self,if_true,if_false,Bool.not_false,cond_true]
     rfl
    ·rw [if_neg g4] at h
     cases h
     have e1:(decide (0≤m.temps) && decide (m.temps≤140737488355328) && decide (m.temps*16≤140737488355328))=true:=by
      simp only [Bool.and_eq_true,decide_eq_true_eq]; omega
     simp only [g3,List.length_reverse,g4,and_false,if_false,Bool.not_true,cond_false,aV0 N (show args.length≤1048576 by omega),Option.bind_some,hgq k j x m hx hme,e1,cond_true]
     cases hb:(Q k j).2 with
     |true =>
      have hq:=hq k j hb
      have e2:(decide (0≤(Q k j).1.temps) && decide ((Q k j).1.temps≤140737488355328) && decide ((Q k j).1.temps*16≤140737488355328))=true:=by
       simp only [Bool.and_eq_true,decide_eq_true_eq]; omega
      simp only [e2,cond_true,Option.bind_some]
      rw [I1 (by simp; omega)]
      simp only [cond_true,aR6,hb,if_true,List.reverse_cons]
     |false =>
      simp only [cond_false,Option.bind_some]
      rw [I1 (by simp; omega)]
      simp only [cond_true,aR6,hb,Bool.false_eq_true,if_false,List.reverse_cons]
  ·rw [if_pos (by simpa using g2)] at h
   rw [decide_eq_false g2]
   simp only [Bool.not_false,cond_true]
   by_cases g3:fuel≤s
   ·rw [if_pos g3] at h
    cases h
    simp only [g3,if_true,Bool.not_false,cond_true]
    rfl
   ·rw [if_neg g3] at h
    obtain ⟨a,ha,h⟩:=j4 h
    simp only [g3,Bool.false_eq_true,false_and,if_false,Bool.not_true,cond_false,ha,Option.bind_some,cH8 N m.prim self a h1 (h2 a (U0 ha)),aY1]
    by_cases g5:(Y7 m.prim self a).2=0
    ·rw [if_neg (by simpa using g5)] at h
     cases h
     rw [decide_eq_true g5]
     simp only [Bool.not_true,cond_false]
     have:=cM8 (w:=w) (fuel:=fuel) (N:=N) ⟨hp,s+1,t,fs,b,0,ev⟩ (Y7 m.prim self a).1 hF hst
     simp only [Cf.toM] at this
     rw [this]
     cases fs<;>rfl
    ·rw [if_pos (by simpa using g5)] at h
     cases h
     rw [decide_eq_false g5]
     rfl
 ·rw [if_pos (by simpa using g1)] at h
  cases h
  rw [decide_eq_false g1]
  rfl
theorem bQ5 {l:List V} {v:V} (h:l.getLast?=some v) (hl:l.length≤1000):p8 l (wr ((l.length:Int) - 1))=some v∧wr ((l.length:Int) - 1)=((l.length - 1:Nat):Int)∧1≤l.length ∧
  (decide (0≤wr ((l.length:Int) - 1)) && decide (wr ((l.length:Int) - 1)≤(l.length:Int)))=true:=by
 have h1:1≤l.length:=by
  cases l with
  |nil=>cases h
  |cons a l=>simp
 have e:wr ((l.length:Int) - 1)=((l.length - 1:Nat):Int):=by rw [D8 (by unfold D6; omega)]; omega
 rw [e]
 refine ⟨?_,rfl,h1,by simp only [Bool.and_eq_true,decide_eq_true_eq]; omega⟩
 rw [G6,←h,List.getLast?_eq_getElem?]
theorem U5 {f:l6} {p:V×l6} (h:aD4 f=some p):f.stack.getLast?=some p.1∧p.2={ f with stack:=f.stack.dropLast }:=by
 unfold aD4 at h
 rw [Option.map_eq_some_iff] at h
 obtain ⟨v,h1,rfl⟩:=h
 exact ⟨h1,rfl⟩
theorem bO0 {f:l6} {F:List l6} {p:V×l6} (h:aD4 f=some p) (hl:f.stack.length≤1000):Y5 N (f::F).reverse F.length=some (p.1,(p.2::F).reverse):=by
 obtain ⟨h1,h2⟩:=U5 h
 obtain ⟨e1,e2,e3,e4⟩:=bQ5 h1 hl
 unfold Y5
 rw [Y3]
 simp only [Option.bind_some,e1,e4,cond_true,aB8,h2]
 rw [e2,Int.toNat_natCast,List.dropLast_eq_take]
theorem cQ9 {f:l6} {F:List l6} {p:V×l6} (h:aD4 f=some p) (hl:f.stack.length≤1000):aF6 N (f::F).reverse F.length=some (p.1,(p.2::F).reverse):=by
 obtain ⟨h1,h2⟩:=U5 h
 obtain ⟨e1,e2,e3,e4⟩:=bQ5 h1 hl
 unfold aF6
 rw [Y3]
 simp only [Option.bind_some,e1,e4,cond_true,aB8,h2]
 rw [e2,Int.toNat_natCast,List.dropLast_eq_take]
theorem aY0 {f:l6} {F:List l6} (v:V) (hl:f.stack.length≤1000):L9 N v (f::F).reverse F.length=some (J5 f v::F).reverse:=by
 unfold L9
 rw [Y3]
 simp only [Option.bind_some,aB8]
 rw [I1 (by simp; omega)]
 rfl
theorem cO6 {f:l6} {F:List l6} (v:V) (hl:f.stack.length≤1000):Y6 N v (f::F).reverse F.length=some (J5 f v::F).reverse:=by
 unfold Y6
 rw [Y3]
 simp only [Option.bind_some,aB8]
 rw [I1 (by simp; omega)]
 rfl
theorem c90 {f:l6} {F:List l6} (v:V) (s:List V) (hl:s.length≤1000):aC6 N v s (f::F).reverse F.length=some (s++[v]):=by
 unfold aC6
 rw [Y3]
 simp only [Option.bind_some]
 rw [I1 (by simp; omega)]
 rfl
theorem c36 {cl:List Cl} {H H':List Ob} {ep s t e:Int} {fr:List l6} {b:V} {o:V} {n:Int} {v:V} (h:bD3 H o n v=some H') :
  aG0 N ⟨⟨cl,H,ep⟩,fuel,s,t,fr,b,e⟩ o n v=some ⟨⟨cl,H',ep⟩,fuel,s,t,fr,b,e⟩:=by
 unfold bD3 at h
 unfold aG0
 by_cases h4:o.k=4
 ·rw [if_pos h4] at h
  by_cases h0:0≤o.n
  ·rw [if_pos h0] at h
   cases hx:H[o.n.toNat]? with
   |none =>
    rw [hx] at h
    cases h
    have hlt:¬o.n < (H.length:Int):=by have:=List.getElem?_eq_none_iff.1 hx; omega
    simp only [h4,hlt,Option.elim,decide_true,decide_false,cond_true,cond_false,Option.bind_some]
   |some x =>
    rw [hx] at h
    have hlt:o.n < (H.length:Int):=by have:=(List.getElem?_eq_some_iff.1 hx).1; omega
    have hn:p8 H o.n=some x:=by rw [Z5 h0,hx]
    simp only [hn,h4,hlt,Option.elim,decide_true,cond_true,Option.bind_some]
    simp only at h
    by_cases hs:n < (x.slots.length:Int)
    ·rw [if_pos hs] at h
     by_cases hz:0≤n
     ·rw [if_pos hz] at h
      cases h
      obtain ⟨y,_,hy⟩:=P9 hz hs
      simp only [hs,hy,decide_true,cond_true,Option.bind_some]
     ·rw [if_neg hz] at h; cases h
    ·rw [if_neg hs] at h
     cases h
     simp only [hs,decide_false,cond_false,Option.bind_some]
  ·rw [if_neg h0] at h; cases h
 ·rw [if_neg h4] at h
  cases h
  cases hx:H[o.n.toNat]?<;>simp only [h4,Option.elim,decide_false,cond_false,Option.bind_some]
theorem cS0 (c:Cf) (f:l6) (F:List l6) (to:Int) (he:c.err=0) (ht:-1000000≤c.turns∧c.turns≤1000000) :
  aE0 N ⟨⟨w.classes,c.heap,w.epoch⟩,fuel,c.sends,c.turns,(f::F).reverse,c.back,c.err⟩ F.length to=some ((aA9 c f F to).toM w fuel):=by
 unfold aE0 aA9
 have hw:wr (c.turns+1)=c.turns+1:=D8 (by unfold D6; omega)
 simp only [Y3,Option.bind_some,hw,he,aY1]
 by_cases h1:to < f.at_
 ·by_cases h2:300 < c.turns+1
  ·simp only [h1,h2,decide_true,cond_true,Option.bind_some,if_true,aB8,Cf.toM]
  ·simp only [h1,h2,decide_true,decide_false,cond_true,cond_false,Option.bind_some,if_true,if_false,aB8,Cf.toM]
 ·simp only [h1,decide_false,cond_false,Option.bind_some,if_false,aB8,Cf.toM]
theorem dA7 (c:Cf) (f:l6) (F:List l6) (i:Ins) (hl:f.stack.length≤1000) {c':Cf} (h:bO4 w c f F i=some c') :
  aH0 N ⟨⟨w.classes,c.heap,w.epoch⟩,fuel,c.sends,c.turns,(f::F).reverse,c.back,c.err⟩ F.length i=some (c'.toM w fuel):=by
 unfold bO4 at h
 by_cases h1:0≤i.b∧i.b < f.stack.length
 ·rw [if_pos h1] at h
  obtain ⟨x,hx,h⟩:=j4 h
  have e1:wr ((f.stack.length:Int) - 1)=(f.stack.length:Int) - 1:=D8 (by unfold D6; omega)
  have e2:wr ((f.stack.length:Int) - 1 - i.b)=((f.stack.length - 1 - i.b.toNat:Nat):Int):=by rw [D8 (by unfold D6; omega)]; omega
  unfold aH0
  simp only [Y3,Option.bind_some,e1,e2,G6,hx,a19]
  by_cases h2:D9 c.heap x=i.a
  ·rw [if_pos h2] at h
   cases h
   simp only [h2,decide_true,cond_true,Cf.toM]
  ·rw [if_neg h2] at h
   obtain ⟨cl,hcl,h⟩:=j4 h
   obtain ⟨m,hm,h⟩:=j4 h
   simp only [h2,decide_false,cond_false,hcl,hm,Option.bind_some]
   by_cases h3:0≤m.temps∧m.temps≤f.temps.length
   ·rw [if_pos h3] at h
    cases h
    simp only [h3.1,h3.2,decide_true,Bool.and_self,cond_true,aB8,Cf.toM]
   ·rw [if_neg h3] at h; cases h
 ·rw [if_neg h1] at h; cases h
theorem aU0 (c:Cf) (v:V):(Z8 c v).heap=c.heap:=by
 unfold Z8
 split<;>rfl
theorem aP4 {c c':Cf} {k j:Int} {self:V} {args:List V} (h:aG8 w fuel Q c k j self args=some c'):∃x m,p8 w.classes k=some x∧p8 x.methods j=some m ∧
  ((m.args≠args.length∧c'=I6 c 8)∨(m.args=args.length∧fuel≤c.sends∧c'=I6 c 13) ∨
   (m.args=args.length∧c.sends < fuel∧m.prim≠0∧∃a,p8 args 0=some a∧(((Y7 m.prim self a).2≠0∧c'=I6 { c with sends:=c.sends+1 } (Y7 m.prim self a).2) ∨
    ((Y7 m.prim self a).2=0∧c'=Z8 { c with sends:=c.sends+1 } (Y7 m.prim self a).1))) ∨
   (m.args=args.length∧c.sends < fuel∧m.prim=0∧20≤c.fs.length∧c'=I6 c 14) ∨
   (m.args=args.length∧c.sends < fuel∧m.prim=0∧c.fs.length < 20∧c'={ c with sends:=c.sends+1,fs:=aR6 Q k j m self args::c.fs })):=by
 unfold aG8 at h
 obtain ⟨x,hx,h⟩:=j4 h
 obtain ⟨m,hm,h⟩:=j4 h
 refine ⟨x,m,hx,hm,?_⟩
 by_cases h1:m.args=args.length
 ·rw [if_neg (by simpa using h1)] at h
  refine .inr ?_
  by_cases h3:fuel≤c.sends
  ·refine .inl ⟨h1,h3,?_⟩
   rw [if_pos h3,if_pos h3] at h
   split at h<;>(cases h; rfl)
  refine .inr ?_
  rw [if_neg h3,if_neg h3] at h
  by_cases h2:m.prim=0
  ·rw [if_neg (by simpa using h2)] at h
   refine .inr ?_
   by_cases h4:20≤c.fs.length
   ·rw [if_pos h4] at h; cases h; exact .inl ⟨h1,by omega,h2,h4,rfl⟩
   ·rw [if_neg h4] at h; cases h; exact .inr ⟨h1,by omega,h2,by omega,rfl⟩
  ·rw [if_pos (by simpa using h2)] at h
   obtain ⟨a,ha,h⟩:=j4 h
   refine .inl ⟨h1,by omega,h2,a,ha,?_⟩
   by_cases h4:(Y7 m.prim self a).2=0
   ·rw [if_neg (by simpa using h4)] at h; cases h; exact .inr ⟨h4,rfl⟩
   ·rw [if_pos (by simpa using h4)] at h; cases h; exact .inl ⟨h4,rfl⟩
 ·rw [if_pos (by simpa using h1)] at h; cases h; exact .inl ⟨h1,rfl⟩
theorem bM0 {c c':Cf} {k j:Int} {self:V} {args:List V} (h:aG8 w fuel Q c k j self args=some c'):c'.heap=c.heap:=by
 obtain ⟨x,m,_,_,h|h|⟨_,_,_,a,_,h|h⟩|h|h⟩:=aP4 h
 ·rw [h.2]; rfl
 ·rw [h.2.2]; rfl
 ·rw [h.2]; rfl
 ·rw [h.2]; exact aU0 _ _
 ·rw [h.2.2.2.2]; rfl
 ·rw [h.2.2.2.2]
theorem aY2 {c c':Cf} {f:l6} {F:List l6} {i:Ins} {p:Int} (h:bL1 w fuel L Q c f F i p=some c'):∃x cl m,0≤i.a∧i.a < f.stack.length∧f.stack[f.stack.length - i.a.toNat - 1]?=some x ∧
  p8 w.classes f.class_=some cl∧p8 cl.methods f.method=some m ∧
  (((L (aD5 f m i p) (D9 c.heap x) i.name).2 < 0∧c'=I6 { c with fs:=f::F,ev:=c.ev++[(aD5 f m i p,D9 c.heap x)] } 10) ∨
   (0≤(L (aD5 f m i p) (D9 c.heap x) i.name).2∧aG8 w fuel Q { c with fs:={ f with stack:=f.stack.take (f.stack.length - i.a.toNat - 1) }::F,ev:=c.ev++[(aD5 f m i p,D9 c.heap x)] }
    (L (aD5 f m i p) (D9 c.heap x) i.name).1 (L (aD5 f m i p) (D9 c.heap x) i.name).2 x (f.stack.drop (f.stack.length - i.a.toNat))=some c')):=by
 unfold bL1 at h
 by_cases h0:0≤i.a∧i.a < f.stack.length
 ·rw [if_pos h0] at h
  obtain ⟨x,hx,h⟩:=j4 h
  obtain ⟨cl,hcl,h⟩:=j4 h
  obtain ⟨m,hm,h⟩:=j4 h
  refine ⟨x,cl,m,h0.1,h0.2,hx,hcl,hm,?_⟩
  by_cases h2:(L (aD5 f m i p) (D9 c.heap x) i.name).2 < 0
  ·rw [if_pos h2] at h; cases h; exact .inl ⟨h2,rfl⟩
  ·rw [if_neg h2] at h; exact .inr ⟨by omega,h⟩
 ·rw [if_neg h0] at h; cases h
theorem cU1 {c c':Cf} {f:l6} {F:List l6} {i:Ins} {p:Int} (h:bL1 w fuel L Q c f F i p=some c'):c'.heap=c.heap:=by
 obtain ⟨x,cl,m,_,_,_,_,_,h|h⟩:=aY2 h
 ·rw [h.2]; rfl
 ·exact (bM0 h.2).trans rfl
theorem dF2 (hgl:∀s k n,gl s k n=some (L s k n)) (hgq:∀k j x m,p8 w.classes k=some x→p8 x.methods j=some m→gq k j=some (Q k j))
  (c:Cf) (W:Wk w Q c) (he:c.err=0) (f:l6) (F:List l6) (hf:WkF f) (hF:∀f∈F,WkF f) (hFl:F.length≤899) (i:Ins) (p:Int) {c':Cf} (h:bL1 w fuel L Q c f F i p=some c') :
  aJ6 N ⟨⟨w.classes,c.heap,w.epoch⟩,fuel,c.sends,c.turns,(f::F).reverse,c.back,c.err⟩ gl gq F.length i p=some (c'.toM w fuel):=by
 obtain ⟨x,cl,m,h0,h1,hx,hcl,hm,h⟩:=aY2 h
 have hl:=hf.stack
 have e1:wr ((f.stack.length:Int) - i.a)=((f.stack.length - i.a.toNat:Nat):Int):=by rw [D8 (by unfold D6; omega)]; omega
 have e2:wr (((f.stack.length - i.a.toNat:Nat):Int) - 1)=((f.stack.length - i.a.toNat - 1:Nat):Int):=by rw [D8 (by unfold D6; omega)]; omega
 have d1:(decide ((0:Int)≤((f.stack.length - i.a.toNat:Nat):Int)) && decide (((f.stack.length - i.a.toNat:Nat):Int)≤(f.stack.length:Int)))=true:=by simp only [Bool.and_eq_true,decide_eq_true_eq]; omega
 have d2:(decide ((0:Int)≤((f.stack.length - i.a.toNat - 1:Nat):Int)) && decide (((f.stack.length - i.a.toNat - 1:Nat):Int)≤(f.stack.length:Int)))=true:=by simp only [Bool.and_eq_true,decide_eq_true_eq]; omega
 have hbif:((bif f.fast then some i.c else some p):Option Int)=some (aD5 f m i p).pos:=by unfold aD5; cases f.fast<;>rfl
 have hs:(⟨f.class_,m.name,(aD5 f m i p).pos⟩:St)=aD5 f m i p:=rfl
 unfold aJ6
 simp only [Y3,Option.bind_some,e1,e2,d1,d2,cond_true,Int.toNat_natCast,G6,hx,hcl,hm,a19,hgl,hbif,hs,he,aY1,aB8,
  aV0 N (show (f.stack.drop (f.stack.length - i.a.toNat)).length≤1048576 by simp; omega)]
 rcases h with ⟨h2,rfl⟩|⟨h2,h⟩
 ·simp only [h2,decide_true,cond_true]
  rfl
 ·rw [decide_eq_false (by omega)]
  simp only [cond_false]
  have:=cM1 (N:=N) hgq W.meth W.quick _ (by exact he) (by have:=W.sends; exact ⟨this.1,by simp only; omega⟩) (by simp; omega) (fun g hg=>by
    rcases List.mem_cons.1 hg with rfl|hg
    ·simp; omega
    ·exact (hF g hg).stack) _ _ x _ (hf.num x (List.mem_of_getElem? hx)) (fun v hv=>hf.num v (List.mem_of_mem_drop hv)) (by simp; omega) c' h
  simp only [Cf.toM,he] at this
  rw [this]
  simp only [Option.bind_some,Cf.toM]
  have hh:c'.heap=c.heap:=(bM0 h).trans rfl
  rw [hh]
theorem dI1 (c:Cf) (W:Wk w Q c) (hN:1048578≤N) (he:c.err=0) (f:l6) (F:List l6) (hf:WkF f) (i:Ins) {c':Cf} (h:bK9 w c f F i=some c') :
  aK7 N ⟨⟨w.classes,c.heap,w.epoch⟩,fuel,c.sends,c.turns,(f::F).reverse,c.back,c.err⟩ F.length i=some (c'.toM w fuel):=by
 have hl:=hf.stack
 unfold bK9 at h
 unfold aK7
 by_cases h1:i.op=1
 ·rw [if_pos h1] at h
  cases h
  simp only [h1,Y3,aY0 _ hl,decide_true,cond_true,Option.bind_some,bR5]
  rfl
 rw [if_neg h1] at h
 by_cases h2:i.op=2
 ·rw [if_pos h2] at h
  rw [Option.map_eq_some_iff] at h
  obtain ⟨v,hv,rfl⟩:=h
  simp only [h2,hv,Y3,aY0 _ hl,decide_true,cond_true,Option.bind_some]
  rfl
 rw [if_neg h2] at h
 by_cases h3:i.op=3
 ·rw [if_pos h3] at h
  rw [Option.map_eq_some_iff] at h
  obtain ⟨v,hv,rfl⟩:=h
  simp only [h3,hv,Y3,aB8,cO6 _ hl,decide_true,cond_true,Option.bind_some]
  rfl
 rw [if_neg h3] at h
 by_cases h4:i.op=4
 ·rw [if_pos h4] at h
  cases h
  simp only [h4,Y3,bT1,aY0 _ hl,decide_true,cond_true,Option.bind_some]
  rfl
 rw [if_neg h4] at h
 by_cases h5:i.op=5
 ·rw [if_pos h5] at h
  cases h
  simp only [h5,Y3,aY0 _ hl,decide_true,cond_true,Option.bind_some]
  rfl
 rw [if_neg h5] at h
 by_cases h6:i.op=6
 ·rw [if_pos h6] at h
  cases h
  simp only [h6,Y3,aY0 _ hl,decide_true,cond_true,Option.bind_some]
  rfl
 rw [if_neg h6] at h
 by_cases h7:i.op=7
 ·rw [if_pos h7] at h
  cases h
  simp only [h7,Y3,bD0,aY0 _ hl,decide_true,cond_true,Option.bind_some]
  rfl
 rw [if_neg h7] at h
 by_cases h8:i.op=8
 ·rw [if_pos h8] at h
  cases h
  simp only [h8,Y3,bD0,aY0 _ hl,decide_true,Option.bind_some]
  rfl
 rw [if_neg h8] at h
 by_cases h9:i.op=9
 ·rw [if_pos h9] at h
  rw [Option.map_eq_some_iff] at h
  obtain ⟨q,hq,rfl⟩:=h
  simp only [h9,Y3,bO0 hq hl,decide_true,cond_true,Option.bind_some]
  rfl
 rw [if_neg h9] at h
 by_cases h10:i.op=10
 ·rw [if_pos h10] at h
  rw [Option.map_eq_some_iff] at h
  obtain ⟨v,hv,rfl⟩:=h
  obtain ⟨e1,e2,e3,e4⟩:=bQ5 hv hl
  simp only [h10,Y3,aB8,e1,c90 _ _ hl,decide_true,cond_true,Option.bind_some]
  rfl
 rw [if_neg h10] at h
 by_cases h11:i.op=11
 ·rw [if_pos h11] at h
  obtain ⟨q,hq,h⟩:=j4 h
  by_cases ha:0≤i.a∧i.a < f.temps.length
  ·rw [if_pos ha] at h
   cases h
   obtain ⟨y,_,hy⟩:=P9 ha.1 ha.2
   simp only [h11,hy,Y3,aB8,cQ9 hq hl,decide_true,cond_true,Option.bind_some]
   rfl
  ·rw [if_neg ha] at h; cases h
 rw [if_neg h11] at h
 by_cases h12:i.op=12
 ·rw [if_pos h12] at h
  obtain ⟨q,hq,h⟩:=j4 h
  rw [Option.map_eq_some_iff] at h
  obtain ⟨H',hH,rfl⟩:=h
  have hs:q.2.self_=f.self_:=by rw [(U5 hq).2]
  simp only [h12,Y3,aB8,bO0 hq hl,c36 hH,decide_true,cond_true,Option.bind_some]
  rfl
 rw [if_neg h12] at h
 by_cases h19:i.op=19
 ·rw [if_pos h19] at h
  rw [Option.map_eq_some_iff] at h
  obtain ⟨v,hv,rfl⟩:=h
  simp only [h19,hv,Y3,aB8,bT1,cO6 _ hl,decide_true,cond_true,Option.bind_some]
  rfl
 rw [if_neg h19] at h
 by_cases h20:i.op=20
 ·rw [if_pos h20] at h
  obtain ⟨tv,htv,h⟩:=j4 h
  obtain ⟨q,hq,h⟩:=j4 h
  rw [Option.map_eq_some_iff] at h
  obtain ⟨H',hH,rfl⟩:=h
  obtain ⟨qv,q2⟩:=q
  obtain rfl:q2={ f with stack:=f.stack.dropLast }:=(U5 hq).2
  simp only [h20,htv,Y3,aB8,cQ9 hq hl,c36 hH,decide_true,cond_true,Option.bind_some]
  rfl
 rw [if_neg h20] at h
 by_cases h13:i.op=13
 ·rw [if_pos h13] at h
  have hsl:=W.slots i.a
  have hnew:=cL9 N (l:=c.heap) i.a (G5 w i.a) (fun o ho=>by have:=W.heap.2 o ho; omega) (by have:=W.heap.1; omega) hsl.1 hsl.2
  have hslot:aR0 N (⟨w.classes,c.heap,w.epoch⟩:Wd) i.a=some (G5 w i.a):=(cD2 N ⟨w.classes,c.heap,w.epoch⟩ i.a hN W.cls).trans (by rw [aR4 w c.heap w.epoch i.a])
  by_cases h60:60≤c.heap.length
  ·rw [if_pos h60] at h hnew
   cases h
   simp only [h13,hslot,hnew,he,aY1,show ((15:Int)=0)=False by decide,Bool.not_false,decide_true,decide_false,cond_true,Option.bind_some]
   rfl
  ·rw [if_neg h60] at h hnew
   cases h
   simp only [h13,hslot,hnew,aY0 _ hl,Bool.not_true,decide_true,cond_true,cond_false,Option.bind_some]
   rfl
 rw [if_neg h13] at h
 cases h
 simp only [h1,h2,h3,h4,h5,h6,h7,h8,h9,h10,h11,h12,h19,h20,h13,decide_false,cond_false,Option.bind_some,bR5]
 rfl
theorem dF8 (hN:1048578≤N) (hgl:∀s k n,gl s k n=some (L s k n)) (hgq:∀k j x m,p8 w.classes k=some x→p8 x.methods j=some m→gq k j=some (Q k j))
  (c:Cf) (W:Wk w Q c) (he:c.err=0) {c':Cf} (h:M5 w fuel L Q c=some c'):aK1 N (c.toM w fuel) gl gq=some (c'.toM w fuel):=by
 unfold M5 at h
 cases hfs:c.fs with
 |nil=>rw [hfs] at h; cases h
 |cons f F =>
  rw [hfs] at h
  obtain ⟨i,hi,h⟩:=j4 h
  have hfsl:=W.fs
  rw [hfs] at hfsl
  simp only [List.length_cons] at hfsl
  have hf:WkF f:=W.fr f (by rw [hfs]; simp)
  have hF:∀g∈F,WkF g:=fun g hg=>W.fr g (by rw [hfs]; simp [hg])
  have hp:=aF7 hi
  have hcode:=hf.code
  have wp:wr (f.at_+1)=f.at_+1:=D8 (by unfold D6; omega)
  have wt:=cM0 (f:=f) (F:=F) (by omega)
  generalize hg:({ f with at_:=f.at_+1 }:l6)=g at h
  have hgl2:g.stack.length≤1000:=by rw [←hg]; exact hf.stack
  have hgw:WkF g:=by rw [←hg]; exact ⟨hf.stack,hf.code,hf.num⟩
  unfold aK1 Cf.toM
  have fin:∀(x:Cf),(⟨⟨w.classes,x.heap,w.epoch⟩,fuel,x.sends,x.turns,x.fs.reverse,⟨x.back.k,x.back.n⟩,x.err⟩:l9)=x.toM w fuel:=fun x=>rfl
  simp only [hfs,wt,wp,cS8,hi,Option.bind_some,Int.toNat_natCast,aB8,hg]
  by_cases h14:i.op=14
  ·rw [if_pos h14] at h
   have:=dF2 (gl:=gl) (N:=N) hgl hgq c W he g F hgw hF (by omega) i f.at_ h
   have hh:=cU1 h
   simp only [h14,this,decide_true,cond_true,Option.bind_some,Cf.toM,bR5,hh]
  rw [if_neg h14] at h
  by_cases h15:i.op=15
  ·rw [if_pos h15] at h
   cases h
   have:=cS0 (w:=w) (fuel:=fuel) (N:=N) c g F i.a he (by have:=W.turns; omega)
   simp only [h15,this,decide_true,cond_true,Option.bind_some,Cf.toM]
   unfold aA9
   split<;>rfl
  rw [if_neg h15] at h
  by_cases h16:i.op=16
  ·rw [if_pos h16] at h
   rw [Option.map_eq_some_iff] at h
   obtain ⟨q,hq,rfl⟩:=h
   have:=cS0 (w:=w) (fuel:=fuel) (N:=N) c q.2 F i.a he (by have:=W.turns; omega)
   unfold bL5
   by_cases k1:q.1.k=1
   ·simp only [h16,bO0 hq hgl2,this,k1,decide_true,cond_true,Option.bind_some,Cf.toM,if_true]
    unfold aA9
    split<;>rfl
   ·by_cases k2:q.1.k=2
    ·simp only [h16,bO0 hq hgl2,k2,decide_true,cond_true,Option.bind_some,if_true]
     rfl
    ·simp only [h16,bO0 hq hgl2,k1,k2,he,aY1,decide_true,decide_false,cond_true,cond_false,Option.bind_some,if_false]
     rfl
  rw [if_neg h16] at h
  by_cases h17:i.op=17
  ·rw [if_pos h17] at h
   rw [Option.map_eq_some_iff] at h
   obtain ⟨q,hq,rfl⟩:=h
   have wt2:=cM0 (f:=q.2) (F:=F) (by omega)
   have hg2:=cM8 (w:=w) (fuel:=fuel) (N:=N) { c with fs:=F } q.1 (by simp only; omega) (fun x hx=>(hF x hx).stack)
   simp only [Cf.toM] at hg2
   have d1:(decide ((0:Int)≤(F.length:Int)) && decide ((F.length:Int)≤((q.2::F).reverse.length:Int)))=true:=by simp; omega
   simp only [decide_eq_false h14,decide_eq_false h15,decide_eq_false h16,decide_eq_true h17,bO0 hq hgl2,wt2,d1,Int.toNat_natCast,dB4,hg2,cond_true,cond_false,Option.bind_some,bR5,aU0]
  rw [if_neg h17] at h
  by_cases h18:i.op=18
  ·rw [if_pos h18] at h
   have:=dA7 (w:=w) (fuel:=fuel) (N:=N) c g F i hgl2 h
   have hh:c'.heap=c.heap:=by
    unfold bO4 at h
    split at h
    ·obtain ⟨x,_,h⟩:=j4 h
     split at h
     ·cases h; rfl
     ·obtain ⟨cl,_,h⟩:=j4 h
      obtain ⟨m,_,h⟩:=j4 h
      split at h<;>cases h
      rfl
    ·cases h
   simp only [decide_eq_false h14,decide_eq_false h15,decide_eq_false h16,decide_eq_false h17,decide_eq_true h18,this,cond_true,cond_false,Option.bind_some,Cf.toM,bR5,hh]
  rw [if_neg h18] at h
  by_cases h21:i.op=21
  ·rw [if_pos h21] at h
   cases h
   have:=cJ0 (N:=N) (cl:=w.classes) (H:=c.heap) (ep:=w.epoch) (fuel:=fuel) (sends:=c.sends) (turns:=c.turns) (back:=c.back) (g::F).reverse true (by have:=W.sends; omega)
   simp only [h21,he,this,decide_true,cond_true,Option.bind_some]
   unfold aW5
   by_cases k1:fuel≤c.sends
   ·simp only [k1,if_true]; rfl
   ·by_cases k2:20≤(g::F).length
    ·simp only [k1,k2,List.length_reverse,if_true,if_false,and_self]; rfl
    ·simp only [k1,k2,List.length_reverse,if_false,and_false]; rfl
  rw [if_neg h21] at h
  have:=dI1 (w:=w) (fuel:=fuel) (N:=N) c W hN he g F hgw i h
  simp only [h14,h15,h16,h17,h18,h21,this,decide_false,cond_false,Option.bind_some,Cf.toM,bR5]
end
end Go.Proofs.Ytkecefjmcimemaa
