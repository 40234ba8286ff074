import Derived.Test.YtahmeibkdhbngaaPl15
import Derived.Test.YtahmeibkdhbngaaPl10
/- The machine, plainly: what a step of it does. No program in sight. -/
namespace Go.Proofs.Ytahmeibkdhbngaa
open Go.RowKit
set_option linter.unusedVariables false
structure Cf where
 heap:List Ob
 sends:Int
 turns:Int
 fs:List l6
 back:V
 err:Int
 ev:List (St×Int)
def aA9 (f:l6) (v:V):l6:={ f with stack:=f.stack++[v] }
def aK5 (f:l6):Option (V×l6):=f.stack.getLast?.map fun v=>(v,{ f with stack:=f.stack.dropLast })
def Z7 (c:Cf) (e:Int):Cf:={ c with err:=e }
def aI2 (c:Cf) (v:V):Cf:=match c.fs with
 |[]=>{ c with back:=v }
 |f::F=>{ c with fs:=aA9 f v::F }
def b29 (Q:Int→Int→Fs×Bool) (k j:Int) (m:Me) (self:V) (args:List V):l6 :=
 if (Q k j).2=true then ⟨k,j,true,(Q k j).1.code,self,args,List.replicate (Q k j).1.temps.toNat ⟨0,0⟩,[],0⟩
 else ⟨k,j,false,m.code,self,args,List.replicate m.temps.toNat ⟨0,0⟩,[],0⟩
def aN2 (w:Wd) (fuel:Int) (Q:Int→Int→Fs×Bool) (c:Cf) (k j:Int) (self:V) (args:List V):Option Cf :=
 (w9 w.classes k).bind fun x=>(w9 x.methods j).bind fun m =>
  if m.args≠args.length then some (Z7 c 8)
  else if m.prim≠0 then
   if fuel≤c.sends then some (Z7 c 13) else (w9 args 0).bind fun a =>
    if (aI1 m.prim self a).2≠0 then some (Z7 { c with sends:=c.sends+1 } (aI1 m.prim self a).2) else some (aI2 { c with sends:=c.sends+1 } (aI1 m.prim self a).1)
  else if fuel≤c.sends then some (Z7 c 13)
  else if 20≤c.fs.length then some (Z7 c 14)
  else some { c with sends:=c.sends+1,fs:=b29 Q k j m self args::c.fs }
def aX2 (c:Cf) (f:l6) (F:List l6) (to:Int):Cf :=
 if to < f.at_ then { c with turns:=c.turns+1,fs:={ f with at_:=to }::F,err:=if 300 < c.turns+1 then 16 else c.err } else { c with fs:={ f with at_:=to }::F }
def O1 (f:l6) (m:Me) (i:Ins) (p:Int):St:=⟨f.class_,m.name,if f.fast=true then i.c else p⟩
def bQ7 (w:Wd) (fuel:Int) (L:St→Int→ByteArray→Int×Int) (Q:Int→Int→Fs×Bool) (c:Cf) (f:l6) (F:List l6) (i:Ins) (p:Int):Option Cf :=
 if 0≤i.a∧i.a < f.stack.length then
  (f.stack[f.stack.length - i.a.toNat - 1]?).bind fun x=>(w9 w.classes f.class_).bind fun cl=>(w9 cl.methods f.method).bind fun m =>
   if (L (O1 f m i p) (M3 c.heap x) i.name).2 < 0 then
    some (Z7 { c with fs:=f::F,ev:=c.ev++[((O1 f m i p),M3 c.heap x)] } 10)
   else aN2 w fuel Q { c with fs:={ f with stack:=f.stack.take (f.stack.length - i.a.toNat - 1) }::F,ev:=c.ev++[((O1 f m i p),M3 c.heap x)] }
    (L (O1 f m i p) (M3 c.heap x) i.name).1 (L (O1 f m i p) (M3 c.heap x) i.name).2 x (f.stack.drop (f.stack.length - i.a.toNat))
 else none
def bO6 (w:Wd) (c:Cf) (f:l6) (F:List l6) (i:Ins):Option Cf :=
 if 0≤i.b∧i.b < f.stack.length then
  (f.stack[f.stack.length - 1 - i.b.toNat]?).bind fun x=>if M3 c.heap x=i.a then some { c with fs:=f::F } else
   (w9 w.classes f.class_).bind fun cl=>(w9 cl.methods f.method).bind fun m =>
    if 0≤m.temps∧m.temps≤f.temps.length then some { c with fs:={ f with fast:=false,code:=m.code,temps:=f.temps.take m.temps.toNat,at_:=i.c }::F } else none
 else none
def b25 (h:List Ob) (o:V) (n:Int) (v:V):Option (List Ob) :=
 if o.k=4 then (if 0≤o.n then (match h[o.n.toNat]? with
  |none=>some h
  |some b=>if n < b.slots.length then (if 0≤n then some (h.set o.n.toNat ⟨b.cls,b.slots.set n.toNat v⟩) else none) else some h) else none) else some h
def bP2 (w:Wd) (c:Cf) (f:l6) (F:List l6) (i:Ins):Option Cf :=
 if i.op=1 then some { c with fs:=aA9 f f.self_::F }
 else if i.op=2 then (w9 f.args i.a).map fun v=>{ c with fs:=aA9 f v::F }
 else if i.op=3 then (w9 f.temps i.a).map fun v=>{ c with fs:=aA9 f v::F }
 else if i.op=4 then some { c with fs:=aA9 f (bQ3 c.heap f.self_ i.a)::F }
 else if i.op=5 then some { c with fs:=aA9 f ⟨3,i.a⟩::F }
 else if i.op=6 then some { c with fs:=aA9 f ⟨0,0⟩::F }
 else if i.op=7 then some { c with fs:=aA9 f ⟨1,0⟩::F }
 else if i.op=8 then some { c with fs:=aA9 f ⟨2,0⟩::F }
 else if i.op=9 then (aK5 f).map fun p=>{ c with fs:=p.2::F }
 else if i.op=10 then f.stack.getLast?.map fun v=>{ c with fs:=aA9 f v::F }
 else if i.op=11 then (aK5 f).bind fun p=>if 0≤i.a∧i.a < f.temps.length then some { c with fs:={ p.2 with temps:=f.temps.set i.a.toNat p.1 }::F } else none
 else if i.op=12 then (aK5 f).bind fun p=>(b25 c.heap f.self_ i.a p.1).map fun h=>{ c with heap:=h,fs:=p.2::F }
 else if i.op=19 then (w9 f.temps i.a).map fun t=>{ c with fs:=aA9 f (bQ3 c.heap t i.b)::F }
 else if i.op=20 then (w9 f.temps i.a).bind fun t=>(aK5 f).bind fun p=>(b25 c.heap t i.b p.1).map fun h=>{ c with heap:=h,fs:=p.2::F }
 else if i.op=13 then (if 60≤c.heap.length then some (Z7 { c with fs:=f::F } 15) else some { c with heap:=c.heap++[⟨i.a,List.replicate (F8 w i.a).toNat ⟨0,0⟩⟩],fs:=aA9 f ⟨4,(c.heap.length:Int)⟩::F })
 else some { c with fs:=f::F }
def cB8 (fuel:Int) (c:Cf):Cf:=if fuel≤c.sends then Z7 c 13 else if 20≤c.fs.length then Z7 c 14 else { c with sends:=c.sends+1 }
def b87 (c:Cf) (F:List l6) (i:Ins) (p:V×l6):Cf :=
 if p.1.k=1 then aX2 c p.2 F i.a else if p.1.k=2 then { c with fs:=p.2::F } else Z7 { c with fs:=p.2::F } 11
def aX5 (w:Wd) (fuel:Int) (L:St→Int→ByteArray→Int×Int) (Q:Int→Int→Fs×Bool) (c:Cf):Option Cf :=
 match c.fs with
 |[]=>none
 |f::F=>(w9 f.code f.at_).bind fun i =>
  if i.op=14 then bQ7 w fuel L Q c { f with at_:=f.at_+1 } F i f.at_
  else if i.op=15 then some (aX2 c { f with at_:=f.at_+1 } F i.a)
  else if i.op=16 then (aK5 { f with at_:=f.at_+1 }).map (b87 c F i)
  else if i.op=17 then (aK5 { f with at_:=f.at_+1 }).map fun p=>aI2 { c with fs:=F } p.1
  else if i.op=18 then bO6 w c { f with at_:=f.at_+1 } F i
  else if i.op=21 then some (cB8 fuel { c with fs:={ f with at_:=f.at_+1 }::F })
  else bP2 w c { f with at_:=f.at_+1 } F i
theorem b48 (w:Wd) (H:List Ob) (e:Int):∀(n:Nat) (c:Int),aD3 ⟨w.classes,H,e⟩ n c=aD3 w n c
 |0,_=>rfl
 |n+1,c=>by
  unfold aD3
  simp only [b48 w H e n]
theorem aQ5 (w:Wd) (H:List Ob) (e:Int) (c:Int):F8 ⟨w.classes,H,e⟩ c=F8 w c:=by
 unfold F8
 simp only [b48]
theorem bI4 (v:V):(⟨v.k,v.n⟩:V)=v:=rfl
theorem cE1 {f:l6} {F:List l6} (h:F.length≤1000):wr (((f::F).reverse.length:Int) - 1)=(F.length:Int):=by
 rw [I4 (by unfold F9; simp; omega)]; simp
theorem S9 (f:l6) (F:List l6):(f::F).reverse[F.length]?=some f:=by
 rw [List.reverse_cons,List.getElem?_append_right (by simp)]; simp
theorem cI4 (f:l6) (F:List l6):w9 (f::F).reverse (F.length:Int)=some f:=by rw [N7,S9]
theorem W9 (f g:l6) (F:List l6):(f::F).reverse.set F.length g=(g::F).reverse:=by
 rw [List.reverse_cons,List.set_append_right (h:=by simp)]; simp
theorem cY6 (f:l6) (F:List l6):(f::F).reverse.take F.length=F.reverse:=by
 rw [List.reverse_cons,List.take_left' (by simp)]
theorem c65 (f:l6) (F:List l6):¬(((f::F).reverse.length:Int)=0):=by simp; omega
section
variable {N:Nat} {cl:List Cl} {H:List Ob} {ep fuel sends turns err:Int} {back:V}
theorem aS2 (fr:List l6) (e:Int):I5 N ⟨⟨cl,H,ep⟩,fuel,sends,turns,fr,back,0⟩ e=some ⟨⟨cl,H,ep⟩,fuel,sends,turns,fr,back,e⟩:=by
 simp [I5]
theorem cG7 (fr:List l6) (b:Bool) (hs:-1000000≤sends∧sends≤1000000):U4 N ⟨⟨cl,H,ep⟩,fuel,sends,turns,fr,back,0⟩ b =
  some (if fuel≤sends then (false,⟨⟨cl,H,ep⟩,fuel,sends,turns,fr,back,13⟩) else if b=true∧20≤fr.length then (false,⟨⟨cl,H,ep⟩,fuel,sends,turns,fr,back,14⟩) else (true,⟨⟨cl,H,ep⟩,fuel,sends+1,turns,fr,back,0⟩)):=by
 have hw:wr (sends+1)=sends+1:=I4 (by unfold F9; omega)
 unfold U4
 simp only [aS2,hw]
 by_cases h1:fuel≤sends
 ·simp only [h1,decide_true,cond_true,if_true,Option.bind_some]
 ·by_cases h2:20≤fr.length
  ·have h2':(20:Int)≤(fr.length:Int):=by omega
   cases b<;>simp [h1,h2,h2']
  ·have h2':¬(20:Int)≤(fr.length:Int):=by omega
   cases b<;>simp [h1,h2,h2']
theorem c61 (F:List l6) (v:V) (hF:F.length≤1000) (hs:∀f∈F,f.stack.length≤1000):V7 N ⟨⟨cl,H,ep⟩,fuel,sends,turns,F.reverse,back,err⟩ v =
  some (match F with
   |[]=>⟨⟨cl,H,ep⟩,fuel,sends,turns,[],v,err⟩
   |f::G=>⟨⟨cl,H,ep⟩,fuel,sends,turns,(aA9 f v::G).reverse,back,err⟩):=by
 unfold V7
 cases F with
 |nil=>simp
 |cons f G =>
  have hl:f.stack.length≤1000:=hs f (by simp)
  simp only [cE1 (show G.length≤1000 by simp at hF; omega),cI4,Int.toNat_natCast,W9,Option.bind_some]
  rw [J5 (by simp; omega),decide_eq_false (c65 f G)]
  rfl
end
structure WkF (f:l6):Prop where
 stack:f.stack.length≤1000
 code:f.code.length≤1000
 num:∀v∈f.stack,v.k=3→aR0 v.n
structure Wk (w:Wd) (Q:Int→Int→Fs×Bool) (c:Cf):Prop where
 cls:w.classes.length≤1048576
 meth:∀x∈w.classes,∀m∈x.methods,0≤m.temps∧m.temps≤1000
 slots:∀k,0≤F8 w k∧F8 w k≤1000
 quick:∀k j,(Q k j).2=true→0≤(Q k j).1.temps∧(Q k j).1.temps≤1000
 heap:c.heap.length≤1000∧∀o∈c.heap,o.slots.length≤1000
 fs:c.fs.length≤900
 fr:∀f∈c.fs,WkF f
 sends:-1000000≤c.sends∧c.sends≤100000
 turns:-1000000≤c.turns∧c.turns≤100000
def Cf.toM (w:Wd) (fuel:Int) (c:Cf):l7:=⟨⟨w.classes,c.heap,w.epoch⟩,fuel,c.sends,c.turns,c.fs.reverse,c.back,c.err⟩
theorem aR2 {α:Type} {l:List α} {i:Int} {x:α} (h:w9 l i=some x):x∈l:=List.mem_of_getElem? (C8 h).2
theorem cA0 {w:Wd} {fuel:Int} {N:Nat} (c:Cf) (v:V) (hF:c.fs.length≤1000) (hs:∀f∈c.fs,f.stack.length≤1000) :
  V7 N (c.toM w fuel) v=some ((aI2 c v).toM w fuel):=by
 obtain ⟨h,s,t,fs,b,e,ev⟩:=c
 unfold Cf.toM
 rw [c61 fs v hF hs]
 cases fs<;>rfl
section
variable {w:Wd} {fuel:Int} {N:Nat} {gl:St→Int→ByteArray→Option (Int×Int)} {gq:Int→Int→Option (Fs×Bool)} {L:St→Int→ByteArray→Int×Int} {Q:Int→Int→Fs×Bool}
theorem cE6 (hgq:∀k j x m,w9 w.classes k=some x→w9 x.methods j=some m→gq k j=some (Q k j))
  (hm:∀x∈w.classes,∀m∈x.methods,0≤m.temps∧m.temps≤1000) (hq:∀k j,(Q k j).2=true→0≤(Q k j).1.temps∧(Q k j).1.temps≤1000)
  (c:Cf) (he:c.err=0) (hs:-1000000≤c.sends∧c.sends≤1000000) (hF:c.fs.length≤1000) (hst:∀f∈c.fs,f.stack.length≤1000) (k j:Int) (self:V) (args:List V)
  (h1:self.k=3→aR0 self.n) (h2:∀v∈args,v.k=3→aR0 v.n) (h3:args.length≤1000) (c':Cf) (h:aN2 w fuel Q c k j self args=some c') :
  Y6 N (c.toM w fuel) gq k j self args=some (c'.toM w fuel):=by
 obtain ⟨hp,s,t,fs,b,e,ev⟩:=c
 simp only at he hs hF hst
 subst he
 unfold aN2 at h
 obtain ⟨x,hx,h⟩:=j4 h
 obtain ⟨m,hme,h⟩:=j4 h
 have hmt:=hm x (aR2 hx) m (aR2 hme)
 unfold Y6 Cf.toM
 simp only [hx,hme,Option.bind_some,aS2,cG7 fs.reverse _ hs]
 simp only at h
 by_cases g1:m.args=args.length
 ·rw [if_neg (by simpa using g1)] at h
  rw [decide_eq_true g1]
  simp only [Bool.not_true,cond_false]
  by_cases g2:m.prim=0
  ·rw [if_neg (by simpa using g2)] at h
   rw [decide_eq_true g2]
   simp only [Bool.not_true,cond_false]
   by_cases g3:fuel≤s
   ·rw [if_pos g3] at h
    cases h
    simp only [g3,if_true,Bool.not_false,cond_true]
    rfl
   ·rw [if_neg g3] at h
    by_cases g4:20≤fs.length
    ·rw [if_pos g4] at h
     cases h
     simp only [g3,List.length_reverse,g4,and_self,if_true,if_false,Bool.not_false,cond_true]
     rfl
    ·rw [if_neg g4] at h
     cases h
     have e1:(decide (0≤m.temps) && decide (m.temps≤140737488355328) && decide (m.temps*16≤140737488355328))=true:=by
      simp only [Bool.and_eq_true,decide_eq_true_eq]; omega
     simp only [g3,List.length_reverse,g4,and_false,if_false,Bool.not_true,cond_false,aQ1 N (show args.length≤1048576 by omega),Option.bind_some,hgq k j x m hx hme,e1,cond_true]
     cases hb:(Q k j).2 with
     |true =>
      have hq:=hq k j hb
      have e2:(decide (0≤(Q k j).1.temps) && decide ((Q k j).1.temps≤140737488355328) && decide ((Q k j).1.temps*16≤140737488355328))=true:=by
       simp only [Bool.and_eq_true,decide_eq_true_eq]; omega
      simp only [e2,cond_true,Option.bind_some]
      rw [J5 (by simp; omega)]
      simp only [cond_true,b29,hb,if_true,List.reverse_cons]
     |false =>
      simp only [cond_false,Option.bind_some]
      rw [J5 (by simp; omega)]
      simp only [cond_true,b29,hb,Bool.false_eq_true,if_false,List.reverse_cons]
  ·rw [if_pos (by simpa using g2)] at h
   rw [decide_eq_false g2]
   simp only [Bool.not_false,cond_true]
   by_cases g3:fuel≤s
   ·rw [if_pos g3] at h
    cases h
    simp only [g3,if_true,Bool.not_false,cond_true]
    rfl
   ·rw [if_neg g3] at h
    obtain ⟨a,ha,h⟩:=j4 h
    simp only [g3,Bool.false_eq_true,false_and,if_false,Bool.not_true,cond_false,ha,Option.bind_some,b81 N m.prim self a h1 (h2 a (aR2 ha)),aS2]
    by_cases g5:(aI1 m.prim self a).2=0
    ·rw [if_neg (by simpa using g5)] at h
     cases h
     rw [decide_eq_true g5]
     simp only [Bool.not_true,cond_false]
     have:=cA0 (w:=w) (fuel:=fuel) (N:=N) ⟨hp,s+1,t,fs,b,0,ev⟩ (aI1 m.prim self a).1 hF hst
     simp only [Cf.toM] at this
     rw [this]
     cases fs<;>rfl
    ·rw [if_pos (by simpa using g5)] at h
     cases h
     rw [decide_eq_false g5]
     rfl
 ·rw [if_pos (by simpa using g1)] at h
  cases h
  rw [decide_eq_false g1]
  rfl
theorem bU6 {l:List V} {v:V} (h:l.getLast?=some v) (hl:l.length≤1000):w9 l (wr ((l.length:Int) - 1))=some v∧wr ((l.length:Int) - 1)=((l.length - 1:Nat):Int)∧1≤l.length ∧
  (decide (0≤wr ((l.length:Int) - 1)) && decide (wr ((l.length:Int) - 1)≤(l.length:Int)))=true:=by
 have h1:1≤l.length:=by
  cases l with
  |nil=>cases h
  |cons a l=>simp
 have e:wr ((l.length:Int) - 1)=((l.length - 1:Nat):Int):=by rw [I4 (by unfold F9; omega)]; omega
 rw [e]
 refine ⟨?_,rfl,h1,by simp only [Bool.and_eq_true,decide_eq_true_eq]; omega⟩
 rw [N7,←h,List.getLast?_eq_getElem?]
theorem aN3 {f:l6} {p:V×l6} (h:aK5 f=some p):f.stack.getLast?=some p.1∧p.2={ f with stack:=f.stack.dropLast }:=by
 unfold aK5 at h
 rw [Option.map_eq_some_iff] at h
 obtain ⟨v,h1,rfl⟩:=h
 exact ⟨h1,rfl⟩
theorem bE9 {f:l6} {F:List l6} {p:V×l6} (h:aK5 f=some p) (hl:f.stack.length≤1000):U0 N (f::F).reverse F.length=some (p.1,(p.2::F).reverse):=by
 obtain ⟨h1,h2⟩:=aN3 h
 obtain ⟨e1,e2,e3,e4⟩:=bU6 h1 hl
 unfold U0
 rw [S9]
 simp only [Option.bind_some,e1,e4,cond_true,W9,h2]
 rw [e2,Int.toNat_natCast,List.dropLast_eq_take]
theorem cJ3 {f:l6} {F:List l6} {p:V×l6} (h:aK5 f=some p) (hl:f.stack.length≤1000):aC3 N (f::F).reverse F.length=some (p.1,(p.2::F).reverse):=by
 obtain ⟨h1,h2⟩:=aN3 h
 obtain ⟨e1,e2,e3,e4⟩:=bU6 h1 hl
 unfold aC3
 rw [S9]
 simp only [Option.bind_some,e1,e4,cond_true,W9,h2]
 rw [e2,Int.toNat_natCast,List.dropLast_eq_take]
theorem aS4 {f:l6} {F:List l6} (v:V) (hl:f.stack.length≤1000):I9 N v (f::F).reverse F.length=some (aA9 f v::F).reverse:=by
 unfold I9
 rw [S9]
 simp only [Option.bind_some,W9]
 rw [J5 (by simp; omega)]
 rfl
theorem cD3 {f:l6} {F:List l6} (v:V) (hl:f.stack.length≤1000):U1 N v (f::F).reverse F.length=some (aA9 f v::F).reverse:=by
 unfold U1
 rw [S9]
 simp only [Option.bind_some,W9]
 rw [J5 (by simp; omega)]
 rfl
theorem cV8 {f:l6} {F:List l6} (v:V) (s:List V) (hl:s.length≤1000):Y5 N v s (f::F).reverse F.length=some (s++[v]):=by
 unfold Y5
 rw [S9]
 simp only [Option.bind_some]
 rw [J5 (by simp; omega)]
 rfl
theorem cN6 {cl:List Cl} {H H':List Ob} {ep s t e:Int} {fr:List l6} {b:V} {o:V} {n:Int} {v:V} (h:b25 H o n v=some H') :
  aC0 N ⟨⟨cl,H,ep⟩,fuel,s,t,fr,b,e⟩ o n v=some ⟨⟨cl,H',ep⟩,fuel,s,t,fr,b,e⟩:=by
 unfold b25 at h
 unfold aC0
 by_cases h4:o.k=4
 ·rw [if_pos h4] at h
  by_cases h0:0≤o.n
  ·rw [if_pos h0] at h
   cases hx:H[o.n.toNat]? with
   |none =>
    rw [hx] at h
    cases h
    have hlt:¬o.n < (H.length:Int):=by have:=List.getElem?_eq_none_iff.1 hx; omega
    simp only [h4,hlt,Option.elim,decide_true,decide_false,cond_true,cond_false,Option.bind_some]
   |some x =>
    rw [hx] at h
    have hlt:o.n < (H.length:Int):=by have:=(List.getElem?_eq_some_iff.1 hx).1; omega
    have hn:w9 H o.n=some x:=by rw [aR6 h0,hx]
    simp only [hn,h4,hlt,Option.elim,decide_true,cond_true,Option.bind_some]
    simp only at h
    by_cases hs:n < (x.slots.length:Int)
    ·rw [if_pos hs] at h
     by_cases hz:0≤n
     ·rw [if_pos hz] at h
      cases h
      obtain ⟨y,_,hy⟩:=aC1 hz hs
      simp only [hs,hy,decide_true,cond_true,Option.bind_some]
     ·rw [if_neg hz] at h; cases h
    ·rw [if_neg hs] at h
     cases h
     simp only [hs,decide_false,cond_false,Option.bind_some]
  ·rw [if_neg h0] at h; cases h
 ·rw [if_neg h4] at h
  cases h
  cases hx:H[o.n.toNat]?<;>simp only [h4,Option.elim,decide_false,cond_false,Option.bind_some]
theorem cJ4 (c:Cf) (f:l6) (F:List l6) (to:Int) (he:c.err=0) (ht:-1000000≤c.turns∧c.turns≤1000000) :
  aA3 N ⟨⟨w.classes,c.heap,w.epoch⟩,fuel,c.sends,c.turns,(f::F).reverse,c.back,c.err⟩ F.length to=some ((aX2 c f F to).toM w fuel):=by
 unfold aA3 aX2
 have hw:wr (c.turns+1)=c.turns+1:=I4 (by unfold F9; omega)
 simp only [S9,Option.bind_some,hw,he,aS2]
 by_cases h1:to < f.at_
 ·by_cases h2:300 < c.turns+1
  ·simp only [h1,h2,decide_true,cond_true,Option.bind_some,if_true,W9,Cf.toM]
  ·simp only [h1,h2,decide_true,decide_false,cond_true,cond_false,Option.bind_some,if_true,if_false,W9,Cf.toM]
 ·simp only [h1,decide_false,cond_false,Option.bind_some,if_false,W9,Cf.toM]
theorem cT4 (c:Cf) (f:l6) (F:List l6) (i:Ins) (hl:f.stack.length≤1000) {c':Cf} (h:bO6 w c f F i=some c') :
  aC9 N ⟨⟨w.classes,c.heap,w.epoch⟩,fuel,c.sends,c.turns,(f::F).reverse,c.back,c.err⟩ F.length i=some (c'.toM w fuel):=by
 unfold bO6 at h
 by_cases h1:0≤i.b∧i.b < f.stack.length
 ·rw [if_pos h1] at h
  obtain ⟨x,hx,h⟩:=j4 h
  have e1:wr ((f.stack.length:Int) - 1)=(f.stack.length:Int) - 1:=I4 (by unfold F9; omega)
  have e2:wr ((f.stack.length:Int) - 1 - i.b)=((f.stack.length - 1 - i.b.toNat:Nat):Int):=by rw [I4 (by unfold F9; omega)]; omega
  unfold aC9
  simp only [S9,Option.bind_some,e1,e2,N7,hx,aW0]
  by_cases h2:M3 c.heap x=i.a
  ·rw [if_pos h2] at h
   cases h
   simp only [h2,decide_true,cond_true,Cf.toM]
  ·rw [if_neg h2] at h
   obtain ⟨cl,hcl,h⟩:=j4 h
   obtain ⟨m,hm,h⟩:=j4 h
   simp only [h2,decide_false,cond_false,hcl,hm,Option.bind_some]
   by_cases h3:0≤m.temps∧m.temps≤f.temps.length
   ·rw [if_pos h3] at h
    cases h
    simp only [h3.1,h3.2,decide_true,Bool.and_self,cond_true,W9,Cf.toM]
   ·rw [if_neg h3] at h; cases h
 ·rw [if_neg h1] at h; cases h
theorem a13 (c:Cf) (v:V):(aI2 c v).heap=c.heap:=by
 unfold aI2
 split<;>rfl
theorem bW1 {c c':Cf} {k j:Int} {self:V} {args:List V} (h:aN2 w fuel Q c k j self args=some c'):∃x m,w9 w.classes k=some x∧w9 x.methods j=some m ∧
  ((m.args≠args.length∧c'=Z7 c 8)∨(m.args=args.length∧fuel≤c.sends∧c'=Z7 c 13) ∨
   (m.args=args.length∧c.sends < fuel∧m.prim≠0∧∃a,w9 args 0=some a∧(((aI1 m.prim self a).2≠0∧c'=Z7 { c with sends:=c.sends+1 } (aI1 m.prim self a).2) ∨
    ((aI1 m.prim self a).2=0∧c'=aI2 { c with sends:=c.sends+1 } (aI1 m.prim self a).1))) ∨
   (m.args=args.length∧c.sends < fuel∧m.prim=0∧20≤c.fs.length∧c'=Z7 c 14) ∨
   (m.args=args.length∧c.sends < fuel∧m.prim=0∧c.fs.length < 20∧c'={ c with sends:=c.sends+1,fs:=b29 Q k j m self args::c.fs })):=by
 unfold aN2 at h
 obtain ⟨x,hx,h⟩:=j4 h
 obtain ⟨m,hm,h⟩:=j4 h
 refine ⟨x,m,hx,hm,?_⟩
 by_cases h1:m.args=args.length
 ·rw [if_neg (by simpa using h1)] at h
  refine .inr ?_
  by_cases h3:fuel≤c.sends
  ·refine .inl ⟨h1,h3,?_⟩
   rw [if_pos h3,if_pos h3] at h
   split at h<;>(cases h; rfl)
  refine .inr ?_
  rw [if_neg h3,if_neg h3] at h
  by_cases h2:m.prim=0
  ·rw [if_neg (by simpa using h2)] at h
   refine .inr ?_
   by_cases h4:20≤c.fs.length
   ·rw [if_pos h4] at h; cases h; exact .inl ⟨h1,by omega,h2,h4,rfl⟩
   ·rw [if_neg h4] at h; cases h; exact .inr ⟨h1,by omega,h2,by omega,rfl⟩
  ·rw [if_pos (by simpa using h2)] at h
   obtain ⟨a,ha,h⟩:=j4 h
   refine .inl ⟨h1,by omega,h2,a,ha,?_⟩
   by_cases h4:(aI1 m.prim self a).2=0
   ·rw [if_neg (by simpa using h4)] at h; cases h; exact .inr ⟨h4,rfl⟩
   ·rw [if_pos (by simpa using h4)] at h; cases h; exact .inl ⟨h4,rfl⟩
 ·rw [if_pos (by simpa using h1)] at h; cases h; exact .inl ⟨h1,rfl⟩
theorem bE3 {c c':Cf} {k j:Int} {self:V} {args:List V} (h:aN2 w fuel Q c k j self args=some c'):c'.heap=c.heap:=by
 obtain ⟨x,m,_,_,h|h|⟨_,_,_,a,_,h|h⟩|h|h⟩:=bW1 h
 ·rw [h.2]; rfl
 ·rw [h.2.2]; rfl
 ·rw [h.2]; rfl
 ·rw [h.2]; exact a13 _ _
 ·rw [h.2.2.2.2]; rfl
 ·rw [h.2.2.2.2]
theorem bP0 {c c':Cf} {f:l6} {F:List l6} {i:Ins} {p:Int} (h:bQ7 w fuel L Q c f F i p=some c'):∃x cl m,0≤i.a∧i.a < f.stack.length∧f.stack[f.stack.length - i.a.toNat - 1]?=some x ∧
  w9 w.classes f.class_=some cl∧w9 cl.methods f.method=some m ∧
  (((L (O1 f m i p) (M3 c.heap x) i.name).2 < 0∧c'=Z7 { c with fs:=f::F,ev:=c.ev++[(O1 f m i p,M3 c.heap x)] } 10) ∨
   (0≤(L (O1 f m i p) (M3 c.heap x) i.name).2∧aN2 w fuel Q { c with fs:={ f with stack:=f.stack.take (f.stack.length - i.a.toNat - 1) }::F,ev:=c.ev++[(O1 f m i p,M3 c.heap x)] }
    (L (O1 f m i p) (M3 c.heap x) i.name).1 (L (O1 f m i p) (M3 c.heap x) i.name).2 x (f.stack.drop (f.stack.length - i.a.toNat))=some c')):=by
 unfold bQ7 at h
 by_cases h0:0≤i.a∧i.a < f.stack.length
 ·rw [if_pos h0] at h
  obtain ⟨x,hx,h⟩:=j4 h
  obtain ⟨cl,hcl,h⟩:=j4 h
  obtain ⟨m,hm,h⟩:=j4 h
  refine ⟨x,cl,m,h0.1,h0.2,hx,hcl,hm,?_⟩
  by_cases h2:(L (O1 f m i p) (M3 c.heap x) i.name).2 < 0
  ·rw [if_pos h2] at h; cases h; exact .inl ⟨h2,rfl⟩
  ·rw [if_neg h2] at h; exact .inr ⟨by omega,h⟩
 ·rw [if_neg h0] at h; cases h
theorem cM1 {c c':Cf} {f:l6} {F:List l6} {i:Ins} {p:Int} (h:bQ7 w fuel L Q c f F i p=some c'):c'.heap=c.heap:=by
 obtain ⟨x,cl,m,_,_,_,_,_,h|h⟩:=bP0 h
 ·rw [h.2]; rfl
 ·exact (bE3 h.2).trans rfl
theorem c02 (c:Cf) (W:Wk w Q c) (hN:1048578≤N) (he:c.err=0) (f:l6) (F:List l6) (hf:WkF f) (i:Ins) {c':Cf} (h:bP2 w c f F i=some c') :
  aF2 N ⟨⟨w.classes,c.heap,w.epoch⟩,fuel,c.sends,c.turns,(f::F).reverse,c.back,c.err⟩ F.length i=some (c'.toM w fuel):=by
 have hl:=hf.stack
 unfold bP2 at h
 unfold aF2
 by_cases h1:i.op=1
 ·rw [if_pos h1] at h
  cases h
  simp only [h1,S9,aS4 _ hl,decide_true,cond_true,Option.bind_some,bI4]
  rfl
 rw [if_neg h1] at h
 by_cases h2:i.op=2
 ·rw [if_pos h2] at h
  rw [Option.map_eq_some_iff] at h
  obtain ⟨v,hv,rfl⟩:=h
  simp only [h2,hv,S9,aS4 _ hl,decide_true,cond_true,Option.bind_some]
  rfl
 rw [if_neg h2] at h
 by_cases h3:i.op=3
 ·rw [if_pos h3] at h
  rw [Option.map_eq_some_iff] at h
  obtain ⟨v,hv,rfl⟩:=h
  simp only [h3,hv,S9,W9,cD3 _ hl,decide_true,cond_true,Option.bind_some]
  rfl
 rw [if_neg h3] at h
 by_cases h4:i.op=4
 ·rw [if_pos h4] at h
  cases h
  simp only [h4,S9,bK6,aS4 _ hl,decide_true,cond_true,Option.bind_some]
  rfl
 rw [if_neg h4] at h
 by_cases h5:i.op=5
 ·rw [if_pos h5] at h
  cases h
  simp only [h5,S9,aS4 _ hl,decide_true,cond_true,Option.bind_some]
  rfl
 rw [if_neg h5] at h
 by_cases h6:i.op=6
 ·rw [if_pos h6] at h
  cases h
  simp only [h6,S9,aS4 _ hl,decide_true,cond_true,Option.bind_some]
  rfl
 rw [if_neg h6] at h
 by_cases h7:i.op=7
 ·rw [if_pos h7] at h
  cases h
  simp only [h7,S9,aZ9,aS4 _ hl,decide_true,cond_true,Option.bind_some]
  rfl
 rw [if_neg h7] at h
 by_cases h8:i.op=8
 ·rw [if_pos h8] at h
  cases h
  simp only [h8,S9,aZ9,aS4 _ hl,decide_true,Option.bind_some]
  rfl
 rw [if_neg h8] at h
 by_cases h9:i.op=9
 ·rw [if_pos h9] at h
  rw [Option.map_eq_some_iff] at h
  obtain ⟨q,hq,rfl⟩:=h
  simp only [h9,S9,bE9 hq hl,decide_true,cond_true,Option.bind_some]
  rfl
 rw [if_neg h9] at h
 by_cases h10:i.op=10
 ·rw [if_pos h10] at h
  rw [Option.map_eq_some_iff] at h
  obtain ⟨v,hv,rfl⟩:=h
  obtain ⟨e1,e2,e3,e4⟩:=bU6 hv hl
  simp only [h10,S9,W9,e1,cV8 _ _ hl,decide_true,cond_true,Option.bind_some]
  rfl
 rw [if_neg h10] at h
 by_cases h11:i.op=11
 ·rw [if_pos h11] at h
  obtain ⟨q,hq,h⟩:=j4 h
  by_cases ha:0≤i.a∧i.a < f.temps.length
  ·rw [if_pos ha] at h
   cases h
   obtain ⟨y,_,hy⟩:=aC1 ha.1 ha.2
   simp only [h11,hy,S9,W9,cJ3 hq hl,decide_true,cond_true,Option.bind_some]
   rfl
  ·rw [if_neg ha] at h; cases h
 rw [if_neg h11] at h
 by_cases h12:i.op=12
 ·rw [if_pos h12] at h
  obtain ⟨q,hq,h⟩:=j4 h
  rw [Option.map_eq_some_iff] at h
  obtain ⟨H',hH,rfl⟩:=h
  have hs:q.2.self_=f.self_:=by rw [(aN3 hq).2]
  simp only [h12,S9,W9,bE9 hq hl,cN6 hH,decide_true,cond_true,Option.bind_some]
  rfl
 rw [if_neg h12] at h
 by_cases h19:i.op=19
 ·rw [if_pos h19] at h
  rw [Option.map_eq_some_iff] at h
  obtain ⟨v,hv,rfl⟩:=h
  simp only [h19,hv,S9,W9,bK6,cD3 _ hl,decide_true,cond_true,Option.bind_some]
  rfl
 rw [if_neg h19] at h
 by_cases h20:i.op=20
 ·rw [if_pos h20] at h
  obtain ⟨tv,htv,h⟩:=j4 h
  obtain ⟨q,hq,h⟩:=j4 h
  rw [Option.map_eq_some_iff] at h
  obtain ⟨H',hH,rfl⟩:=h
  obtain ⟨qv,q2⟩:=q
  obtain rfl:q2={ f with stack:=f.stack.dropLast }:=(aN3 hq).2
  simp only [h20,htv,S9,W9,cJ3 hq hl,cN6 hH,decide_true,cond_true,Option.bind_some]
  rfl
 rw [if_neg h20] at h
 by_cases h13:i.op=13
 ·rw [if_pos h13] at h
  have hsl:=W.slots i.a
  have hnew:=cC2 N (l:=c.heap) i.a (F8 w i.a) (fun o ho=>by have:=W.heap.2 o ho; omega) (by have:=W.heap.1; omega) hsl.1 hsl.2
  have hslot:aL3 N (⟨w.classes,c.heap,w.epoch⟩:Wd) i.a=some (F8 w i.a):=(b35 N ⟨w.classes,c.heap,w.epoch⟩ i.a hN W.cls).trans (by rw [aQ5 w c.heap w.epoch i.a])
  by_cases h60:60≤c.heap.length
  ·rw [if_pos h60] at h hnew
   cases h
   simp only [h13,hslot,hnew,he,aS2,show ((15:Int)=0)=False by decide,Bool.not_false,decide_true,decide_false,cond_true,Option.bind_some]
   rfl
  ·rw [if_neg h60] at h hnew
   cases h
   simp only [h13,hslot,hnew,aS4 _ hl,Bool.not_true,decide_true,cond_true,cond_false,Option.bind_some]
   rfl
 rw [if_neg h13] at h
 cases h
 simp only [h1,h2,h3,h4,h5,h6,h7,h8,h9,h10,h11,h12,h19,h20,h13,decide_false,cond_false,Option.bind_some,bI4]
 rfl
end
end Go.Proofs.Ytahmeibkdhbngaa
