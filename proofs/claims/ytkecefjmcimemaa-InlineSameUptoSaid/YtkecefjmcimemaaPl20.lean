import Derived.Test.YtkecefjmcimemaaPl15
import Derived.Test.YtkecefjmcimemaaPl10
/- The machine, plainly: what a step of it does. No program in sight. -/
namespace Go.Proofs.Ytkecefjmcimemaa
open Go.RowKit
set_option linter.unusedVariables false
structure Cf where
 heap:List Ob
 sends:Int
 turns:Int
 fs:List l6
 back:V
 err:Int
 ev:List (St×Int)
def J7 (f:l6) (v:V):l6:={ f with stack:=f.stack++[v] }
def aD9 (f:l6):Option (V×l6):=f.stack.getLast?.map fun v=>(v,{ f with stack:=f.stack.dropLast })
def I4 (c:Cf) (e:Int):Cf:={ c with err:=e }
def aA6 (c:Cf) (v:V):Cf:=match c.fs with
 |[]=>{ c with back:=v }
 |f::F=>{ c with fs:=J7 f v::F }
def aQ8 (Q:Int→Int→Fs×Bool) (k j:Int) (m:Me) (self:V) (args:List V):l6 :=
 if (Q k j).2=true then ⟨k,j,true,(Q k j).1.code,self,args,List.replicate (Q k j).1.temps.toNat ⟨0,0⟩,[],0⟩
 else ⟨k,j,false,m.code,self,args,List.replicate m.temps.toNat ⟨0,0⟩,[],0⟩
def aH8 (w:Wd) (fuel:Int) (Q:Int→Int→Fs×Bool) (c:Cf) (k j:Int) (self:V) (args:List V):Option Cf :=
 (p8 w.classes k).bind fun x=>(p8 x.methods j).bind fun m =>
  if m.args≠args.length then some (I4 c 8)
  else if m.prim≠0 then
   if fuel≤c.sends then some (I4 c 13) else (p8 args 0).bind fun a =>
    if (Z6 m.prim self a).2≠0 then some (I4 { c with sends:=c.sends+1 } (Z6 m.prim self a).2) else some (aA6 { c with sends:=c.sends+1 } (Z6 m.prim self a).1)
  else if fuel≤c.sends then some (I4 c 13)
  else if 20≤c.fs.length then some (I4 c 14)
  else some { c with sends:=c.sends+1,fs:=aQ8 Q k j m self args::c.fs }
def aB6 (c:Cf) (f:l6) (F:List l6) (to:Int):Cf :=
 if to < f.at_ then { c with turns:=c.turns+1,fs:={ f with at_:=to }::F,err:=if 300 < c.turns+1 then 16 else c.err } else { c with fs:={ f with at_:=to }::F }
def aE0 (f:l6) (m:Me) (i:Ins) (p:Int):St:=⟨f.class_,m.name,if f.fast=true then i.c else p⟩
def bJ2 (w:Wd) (fuel:Int) (L:St→Int→ByteArray→Int×Int) (Q:Int→Int→Fs×Bool) (c:Cf) (f:l6) (F:List l6) (i:Ins) (p:Int):Option Cf :=
 if 0≤i.a∧i.a < f.stack.length then
  (f.stack[f.stack.length - i.a.toNat - 1]?).bind fun x=>(p8 w.classes f.class_).bind fun cl=>(p8 cl.methods f.method).bind fun m =>
   if (L (aE0 f m i p) (D9 c.heap x) i.name).2 < 0 then
    some (I4 { c with fs:=f::F,ev:=c.ev++[((aE0 f m i p),D9 c.heap x)] } 10)
   else aH8 w fuel Q { c with fs:={ f with stack:=f.stack.take (f.stack.length - i.a.toNat - 1) }::F,ev:=c.ev++[((aE0 f m i p),D9 c.heap x)] }
    (L (aE0 f m i p) (D9 c.heap x) i.name).1 (L (aE0 f m i p) (D9 c.heap x) i.name).2 x (f.stack.drop (f.stack.length - i.a.toNat))
 else none
def bM5 (w:Wd) (c:Cf) (f:l6) (F:List l6) (i:Ins):Option Cf :=
 if 0≤i.b∧i.b < f.stack.length then
  (f.stack[f.stack.length - 1 - i.b.toNat]?).bind fun x=>if D9 c.heap x=i.a then some { c with fs:=f::F } else
   (p8 w.classes f.class_).bind fun cl=>(p8 cl.methods f.method).bind fun m =>
    if 0≤m.temps∧m.temps≤f.temps.length then some { c with fs:={ f with fast:=false,code:=m.code,temps:=f.temps.take m.temps.toNat,at_:=i.c }::F } else none
 else none
def bB7 (h:List Ob) (o:V) (n:Int) (v:V):Option (List Ob) :=
 if o.k=4 then (if 0≤o.n then (match h[o.n.toNat]? with
  |none=>some h
  |some b=>if n < b.slots.length then (if 0≤n then some (h.set o.n.toNat ⟨b.cls,b.slots.set n.toNat v⟩) else none) else some h) else none) else some h
def bJ7 (w:Wd) (c:Cf) (f:l6) (F:List l6) (i:Ins):Option Cf :=
 if i.op=1 then some { c with fs:=J7 f f.self_::F }
 else if i.op=2 then (p8 f.args i.a).map fun v=>{ c with fs:=J7 f v::F }
 else if i.op=3 then (p8 f.temps i.a).map fun v=>{ c with fs:=J7 f v::F }
 else if i.op=4 then some { c with fs:=J7 f (aZ1 c.heap f.self_ i.a)::F }
 else if i.op=5 then some { c with fs:=J7 f ⟨3,i.a⟩::F }
 else if i.op=6 then some { c with fs:=J7 f ⟨0,0⟩::F }
 else if i.op=7 then some { c with fs:=J7 f ⟨1,0⟩::F }
 else if i.op=8 then some { c with fs:=J7 f ⟨2,0⟩::F }
 else if i.op=9 then (aD9 f).map fun p=>{ c with fs:=p.2::F }
 else if i.op=10 then f.stack.getLast?.map fun v=>{ c with fs:=J7 f v::F }
 else if i.op=11 then (aD9 f).bind fun p=>if 0≤i.a∧i.a < f.temps.length then some { c with fs:={ p.2 with temps:=f.temps.set i.a.toNat p.1 }::F } else none
 else if i.op=12 then (aD9 f).bind fun p=>(bB7 c.heap f.self_ i.a p.1).map fun h=>{ c with heap:=h,fs:=p.2::F }
 else if i.op=19 then (p8 f.temps i.a).map fun t=>{ c with fs:=J7 f (aZ1 c.heap t i.b)::F }
 else if i.op=20 then (p8 f.temps i.a).bind fun t=>(aD9 f).bind fun p=>(bB7 c.heap t i.b p.1).map fun h=>{ c with heap:=h,fs:=p.2::F }
 else if i.op=13 then (if 60≤c.heap.length then some (I4 { c with fs:=f::F } 15) else some { c with heap:=c.heap++[⟨i.a,List.replicate (G6 w i.a).toNat ⟨0,0⟩⟩],fs:=J7 f ⟨4,(c.heap.length:Int)⟩::F })
 else some { c with fs:=f::F }
def aV6 (fuel:Int) (c:Cf):Cf:=if fuel≤c.sends then I4 c 13 else if 20≤c.fs.length then I4 c 14 else { c with sends:=c.sends+1 }
def bH9 (c:Cf) (F:List l6) (i:Ins) (p:V×l6):Cf :=
 if p.1.k=1 then aB6 c p.2 F i.a else if p.1.k=2 then { c with fs:=p.2::F } else I4 { c with fs:=p.2::F } 11
def M6 (w:Wd) (fuel:Int) (L:St→Int→ByteArray→Int×Int) (Q:Int→Int→Fs×Bool) (c:Cf):Option Cf :=
 match c.fs with
 |[]=>none
 |f::F=>(p8 f.code f.at_).bind fun i =>
  if i.op=14 then bJ2 w fuel L Q c { f with at_:=f.at_+1 } F i f.at_
  else if i.op=15 then some (aB6 c { f with at_:=f.at_+1 } F i.a)
  else if i.op=16 then (aD9 { f with at_:=f.at_+1 }).map (bH9 c F i)
  else if i.op=17 then (aD9 { f with at_:=f.at_+1 }).map fun p=>aA6 { c with fs:=F } p.1
  else if i.op=18 then bM5 w c { f with at_:=f.at_+1 } F i
  else if i.op=21 then some (aV6 fuel { c with fs:={ f with at_:=f.at_+1 }::F })
  else bJ7 w c { f with at_:=f.at_+1 } F i
theorem cD5 (w:Wd) (H:List Ob) (e:Int):∀(n:Nat) (c:Int),aE7 ⟨w.classes,H,e⟩ n c=aE7 w n c
 |0,_=>rfl
 |n+1,c=>by
  unfold aE7
  simp only [cD5 w H e n]
theorem aQ3 (w:Wd) (H:List Ob) (e:Int) (c:Int):G6 ⟨w.classes,H,e⟩ c=G6 w c:=by
 unfold G6
 simp only [cD5]
theorem b47 (w:Wd) (H:List Ob) (e:Int) (s:ByteArray):∀(n:Nat) (c:Int),aH9 ⟨w.classes,H,e⟩ s n c=aH9 w s n c
 |0,_=>rfl
 |n+1,c=>by
  unfold aH9
  simp only [b47 w H e s n]
theorem cT8 (w:Wd) (H:List Ob) (e:Int) (s:ByteArray) (c:Int):z8 ⟨w.classes,H,e⟩ s c=z8 w s c:=by
 unfold z8
 simp only [b47]
theorem bQ0 (v:V):(⟨v.k,v.n⟩:V)=v:=rfl
theorem cI7 {f:l6} {F:List l6} (h:F.length≤1000):wr (((f::F).reverse.length:Int) - 1)=(F.length:Int):=by
 rw [D7 (by unfold D5; simp; omega)]; simp
theorem Z0 (f:l6) (F:List l6):(f::F).reverse[F.length]?=some f:=by
 rw [List.reverse_cons,List.getElem?_append_right (by simp)]; simp
theorem cO5 (f:l6) (F:List l6):p8 (f::F).reverse (F.length:Int)=some f:=by rw [F9,Z0]
theorem aC1 (f g:l6) (F:List l6):(f::F).reverse.set F.length g=(g::F).reverse:=by
 rw [List.reverse_cons,List.set_append_right (h:=by simp)]; simp
theorem c89 (f:l6) (F:List l6):(f::F).reverse.take F.length=F.reverse:=by
 rw [List.reverse_cons,List.take_left' (by simp)]
theorem dH2 (f:l6) (F:List l6):¬(((f::F).reverse.length:Int)=0):=by simp; omega
section
variable {N:Nat} {cl:List Cl} {H:List Ob} {ep fuel sends turns err:Int} {back:V} {gl:St→Int→ByteArray→Option (Int×Int)} {gq:Int→Int→Option (Fs×Bool)}
theorem aX1 (fr:List l6) (e:Int):K5 N ⟨⟨cl,H,ep⟩,fuel,sends,turns,fr,back,0⟩ gl gq e=some ⟨⟨cl,H,ep⟩,fuel,sends,turns,fr,back,e⟩:=by
 simp [K5]
theorem cM2 (fr:List l6) (b:Bool) (hs:-1000000≤sends∧sends≤1000000):aA2 N ⟨⟨cl,H,ep⟩,fuel,sends,turns,fr,back,0⟩ gl gq b =
  some (if fuel≤sends then (false,⟨⟨cl,H,ep⟩,fuel,sends,turns,fr,back,13⟩) else if b=true∧20≤fr.length then (false,⟨⟨cl,H,ep⟩,fuel,sends,turns,fr,back,14⟩) else (true,⟨⟨cl,H,ep⟩,fuel,sends+1,turns,fr,back,0⟩)):=by
 have hw:wr (sends+1)=sends+1:=D7 (by unfold D5; omega)
 unfold aA2
 simp only [aX1,hw]
 by_cases h1:fuel≤sends
 ·simp only [h1,decide_true,cond_true,if_true,Option.bind_some]
 ·by_cases h2:20≤fr.length
  ·have h2':(20:Int)≤(fr.length:Int):=by omega
   cases b<;>simp [h1,h2,h2']
  ·have h2':¬(20:Int)≤(fr.length:Int):=by omega
   cases b<;>simp [h1,h2,h2']
theorem dE0 (F:List l6) (v:V) (hF:F.length≤1000) (hs:∀f∈F,f.stack.length≤1000):aB7 N ⟨⟨cl,H,ep⟩,fuel,sends,turns,F.reverse,back,err⟩ gl gq v =
  some (match F with
   |[]=>⟨⟨cl,H,ep⟩,fuel,sends,turns,[],v,err⟩
   |f::G=>⟨⟨cl,H,ep⟩,fuel,sends,turns,(J7 f v::G).reverse,back,err⟩):=by
 unfold aB7
 cases F with
 |nil=>simp
 |cons f G =>
  have hl:f.stack.length≤1000:=hs f (by simp)
  simp only [cI7 (show G.length≤1000 by simp at hF; omega),cO5,Int.toNat_natCast,aC1,Option.bind_some]
  rw [I6 (by simp; omega),decide_eq_false (dH2 f G)]
  rfl
end
structure WkF (f:l6):Prop where
 stack:f.stack.length≤1000
 code:f.code.length≤1000
 num:∀v∈f.stack,v.k=3→aK7 v.n
structure Wk (w:Wd) (Q:Int→Int→Fs×Bool) (c:Cf):Prop where
 cls:w.classes.length≤1048576
 meth:∀x∈w.classes,∀m∈x.methods,0≤m.temps∧m.temps≤1000
 slots:∀k,0≤G6 w k∧G6 w k≤1000
 quick:∀k j,(Q k j).2=true→0≤(Q k j).1.temps∧(Q k j).1.temps≤1000
 heap:c.heap.length≤1000∧∀o∈c.heap,o.slots.length≤1000
 fs:c.fs.length≤900
 fr:∀f∈c.fs,WkF f
 sends:-1000000≤c.sends∧c.sends≤100000
 turns:-1000000≤c.turns∧c.turns≤100000
def Cf.toM (w:Wd) (fuel:Int) (c:Cf):l8:=⟨⟨w.classes,c.heap,w.epoch⟩,fuel,c.sends,c.turns,c.fs.reverse,c.back,c.err⟩
theorem U8 {α:Type} {l:List α} {i:Int} {x:α} (h:p8 l i=some x):x∈l:=List.mem_of_getElem? (q8 h).2
theorem cI1 {w:Wd} {fuel:Int} {N:Nat} {gl:St→Int→ByteArray→Option (Int×Int)} {gq:Int→Int→Option (Fs×Bool)} (c:Cf) (v:V) (hF:c.fs.length≤1000) (hs:∀f∈c.fs,f.stack.length≤1000) :
  aB7 N (c.toM w fuel) gl gq v=some ((aA6 c v).toM w fuel):=by
 obtain ⟨h,s,t,fs,b,e,ev⟩:=c
 unfold Cf.toM
 rw [dE0 fs v hF hs]
 cases fs<;>rfl
section
variable {w:Wd} {fuel:Int} {N:Nat} {gl:St→Int→ByteArray→Option (Int×Int)} {gq:Int→Int→Option (Fs×Bool)} {L:St→Int→ByteArray→Int×Int} {Q:Int→Int→Fs×Bool}
theorem cJ5 (hgq:∀k j x m,p8 w.classes k=some x→p8 x.methods j=some m→gq k j=some (Q k j))
  (hm:∀x∈w.classes,∀m∈x.methods,0≤m.temps∧m.temps≤1000) (hq:∀k j,(Q k j).2=true→0≤(Q k j).1.temps∧(Q k j).1.temps≤1000)
  (c:Cf) (he:c.err=0) (hs:-1000000≤c.sends∧c.sends≤1000000) (hF:c.fs.length≤1000) (hst:∀f∈c.fs,f.stack.length≤1000) (k j:Int) (self:V) (args:List V)
  (h1:self.k=3→aK7 self.n) (h2:∀v∈args,v.k=3→aK7 v.n) (h3:args.length≤1000) (c':Cf) (h:aH8 w fuel Q c k j self args=some c') :
  aD6 N (c.toM w fuel) gl gq k j self args=some (c'.toM w fuel):=by
 obtain ⟨hp,s,t,fs,b,e,ev⟩:=c
 simp only at he hs hF hst
 subst he
 unfold aH8 at h
 obtain ⟨x,hx,h⟩:=j4 h
 obtain ⟨m,hme,h⟩:=j4 h
 have hmt:=hm x (U8 hx) m (U8 hme)
 unfold aD6 Cf.toM
 simp only [hx,hme,Option.bind_some,aX1,cM2 fs.reverse _ hs]
 simp only at h
 by_cases g1:m.args=args.length
 ·rw [if_neg (by simpa using g1)] at h
  rw [decide_eq_true g1]
  simp only [Bool.not_true,cond_false]
  by_cases g2:m.prim=0
  ·rw [if_neg (by simpa using g2)] at h
   rw [decide_eq_true g2]
   simp only [Bool.not_true,cond_false]
   by_cases g3:fuel≤s
   ·rw [if_pos g3] at h
    cases h
    simp only [g3,if_true,Bool.not_false,cond_true]
    rfl
   ·rw [if_neg g3] at h
    by_cases g4:20≤fs.length
    ·rw [if_pos g4] at h
     cases h
     simp only [g3,List.length_reverse,g4,and_self,if_true,if_false,Bool.not_false,cond_true]
     rfl
    ·rw [if_neg g4] at h
     cases h
     have e1:(decide (0≤m.temps) && decide (m.temps≤140737488355328) && decide (m.temps*16≤140737488355328))=true:=by
      simp only [Bool.and_eq_true,decide_eq_true_eq]; omega
     simp only [g3,List.length_reverse,g4,and_false,if_false,Bool.not_true,cond_false,aU4 N (show args.length≤1048576 by omega),Option.bind_some,hgq k j x m hx hme,e1,cond_true]
     cases hb:(Q k j).2 with
     |true =>
      have hq:=hq k j hb
      have e2:(decide (0≤(Q k j).1.temps) && decide ((Q k j).1.temps≤140737488355328) && decide ((Q k j).1.temps*16≤140737488355328))=true:=by
       simp only [Bool.and_eq_true,decide_eq_true_eq]; omega
      simp only [e2,cond_true,Option.bind_some]
      rw [I6 (by simp; omega)]
      simp only [cond_true,aQ8,hb,if_true,List.reverse_cons]
     |false =>
      simp only [cond_false,Option.bind_some]
      rw [I6 (by simp; omega)]
      simp only [cond_true,aQ8,hb,Bool.false_eq_true,if_false,List.reverse_cons]
  ·rw [if_pos (by simpa using g2)] at h
   rw [decide_eq_false g2]
   simp only [Bool.not_false,cond_true]
   by_cases g3:fuel≤s
   ·rw [if_pos g3] at h
    cases h
    simp only [g3,if_true,Bool.not_false,cond_true]
    rfl
   ·rw [if_neg g3] at h
    obtain ⟨a,ha,h⟩:=j4 h
    simp only [g3,Bool.false_eq_true,false_and,if_false,Bool.not_true,cond_false,ha,Option.bind_some,cF6 N m.prim self a h1 (h2 a (U8 ha)),aX1]
    by_cases g5:(Z6 m.prim self a).2=0
    ·rw [if_neg (by simpa using g5)] at h
     cases h
     rw [decide_eq_true g5]
     simp only [Bool.not_true,cond_false]
     have:=cI1 (w:=w) (fuel:=fuel) (N:=N) (gl:=gl) (gq:=gq) ⟨hp,s+1,t,fs,b,0,ev⟩ (Z6 m.prim self a).1 hF hst
     simp only [Cf.toM] at this
     rw [this]
     cases fs<;>rfl
    ·rw [if_pos (by simpa using g5)] at h
     cases h
     rw [decide_eq_false g5]
     rfl
 ·rw [if_pos (by simpa using g1)] at h
  cases h
  rw [decide_eq_false g1]
  rfl
theorem bO1 {l:List V} {v:V} (h:l.getLast?=some v) (hl:l.length≤1000):p8 l (wr ((l.length:Int) - 1))=some v∧wr ((l.length:Int) - 1)=((l.length - 1:Nat):Int)∧1≤l.length ∧
  (decide (0≤wr ((l.length:Int) - 1)) && decide (wr ((l.length:Int) - 1)≤(l.length:Int)))=true:=by
 have h1:1≤l.length:=by
  cases l with
  |nil=>cases h
  |cons a l=>simp
 have e:wr ((l.length:Int) - 1)=((l.length - 1:Nat):Int):=by rw [D7 (by unfold D5; omega)]; omega
 rw [e]
 refine ⟨?_,rfl,h1,by simp only [Bool.and_eq_true,decide_eq_true_eq]; omega⟩
 rw [F9,←h,List.getLast?_eq_getElem?]
theorem V5 {f:l6} {p:V×l6} (h:aD9 f=some p):f.stack.getLast?=some p.1∧p.2={ f with stack:=f.stack.dropLast }:=by
 unfold aD9 at h
 rw [Option.map_eq_some_iff] at h
 obtain ⟨v,h1,rfl⟩:=h
 exact ⟨h1,rfl⟩
theorem bM1 {f:l6} {F:List l6} {p:V×l6} (h:aD9 f=some p) (hl:f.stack.length≤1000):Z5 N (f::F).reverse F.length=some (p.1,(p.2::F).reverse):=by
 obtain ⟨h1,h2⟩:=V5 h
 obtain ⟨e1,e2,e3,e4⟩:=bO1 h1 hl
 unfold Z5
 rw [Z0]
 simp only [Option.bind_some,e1,e4,cond_true,aC1,h2]
 rw [e2,Int.toNat_natCast,List.dropLast_eq_take]
theorem cN5 {f:l6} {F:List l6} {p:V×l6} (h:aD9 f=some p) (hl:f.stack.length≤1000):aG5 N (f::F).reverse F.length=some (p.1,(p.2::F).reverse):=by
 obtain ⟨h1,h2⟩:=V5 h
 obtain ⟨e1,e2,e3,e4⟩:=bO1 h1 hl
 unfold aG5
 rw [Z0]
 simp only [Option.bind_some,e1,e4,cond_true,aC1,h2]
 rw [e2,Int.toNat_natCast,List.dropLast_eq_take]
theorem aX0 {f:l6} {F:List l6} (v:V) (hl:f.stack.length≤1000):L6 N v (f::F).reverse F.length=some (J7 f v::F).reverse:=by
 unfold L6
 rw [Z0]
 simp only [Option.bind_some,aC1]
 rw [I6 (by simp; omega)]
 rfl
theorem cM7 {f:l6} {F:List l6} (v:V) (hl:f.stack.length≤1000):Z8 N v (f::F).reverse F.length=some (J7 f v::F).reverse:=by
 unfold Z8
 rw [Z0]
 simp only [Option.bind_some,aC1]
 rw [I6 (by simp; omega)]
 rfl
theorem c67 {f:l6} {F:List l6} (v:V) (s:List V) (hl:s.length≤1000):aD3 N v s (f::F).reverse F.length=some (s++[v]):=by
 unfold aD3
 rw [Z0]
 simp only [Option.bind_some]
 rw [I6 (by simp; omega)]
 rfl
theorem cY2 {cl:List Cl} {H H':List Ob} {ep s t e:Int} {fr:List l6} {b:V} {o:V} {n:Int} {v:V} (h:bB7 H o n v=some H') :
  aG8 N ⟨⟨cl,H,ep⟩,fuel,s,t,fr,b,e⟩ gl gq o n v=some ⟨⟨cl,H',ep⟩,fuel,s,t,fr,b,e⟩:=by
 unfold bB7 at h
 unfold aG8
 by_cases h4:o.k=4
 ·rw [if_pos h4] at h
  by_cases h0:0≤o.n
  ·rw [if_pos h0] at h
   cases hx:H[o.n.toNat]? with
   |none =>
    rw [hx] at h
    cases h
    have hlt:¬o.n < (H.length:Int):=by have:=List.getElem?_eq_none_iff.1 hx; omega
    simp only [h4,hlt,Option.elim,decide_true,decide_false,cond_true,cond_false,Option.bind_some]
   |some x =>
    rw [hx] at h
    have hlt:o.n < (H.length:Int):=by have:=(List.getElem?_eq_some_iff.1 hx).1; omega
    have hn:p8 H o.n=some x:=by rw [aA3 h0,hx]
    simp only [hn,h4,hlt,Option.elim,decide_true,cond_true,Option.bind_some]
    simp only at h
    by_cases hs:n < (x.slots.length:Int)
    ·rw [if_pos hs] at h
     by_cases hz:0≤n
     ·rw [if_pos hz] at h
      cases h
      obtain ⟨y,_,hy⟩:=N8 hz hs
      simp only [hs,hy,decide_true,cond_true,Option.bind_some]
     ·rw [if_neg hz] at h; cases h
    ·rw [if_neg hs] at h
     cases h
     simp only [hs,decide_false,cond_false,Option.bind_some]
  ·rw [if_neg h0] at h; cases h
 ·rw [if_neg h4] at h
  cases h
  cases hx:H[o.n.toNat]?<;>simp only [h4,Option.elim,decide_false,cond_false,Option.bind_some]
theorem cP1 (c:Cf) (f:l6) (F:List l6) (to:Int) (he:c.err=0) (ht:-1000000≤c.turns∧c.turns≤1000000) :
  aE8 N ⟨⟨w.classes,c.heap,w.epoch⟩,fuel,c.sends,c.turns,(f::F).reverse,c.back,c.err⟩ gl gq F.length to=some ((aB6 c f F to).toM w fuel):=by
 unfold aE8 aB6
 have hw:wr (c.turns+1)=c.turns+1:=D7 (by unfold D5; omega)
 simp only [Z0,Option.bind_some,hw,he,aX1]
 by_cases h1:to < f.at_
 ·by_cases h2:300 < c.turns+1
  ·simp only [h1,h2,decide_true,cond_true,Option.bind_some,if_true,aC1,Cf.toM]
  ·simp only [h1,h2,decide_true,decide_false,cond_true,cond_false,Option.bind_some,if_true,if_false,aC1,Cf.toM]
 ·simp only [h1,decide_false,cond_false,Option.bind_some,if_false,aC1,Cf.toM]
theorem c77 (c:Cf) (f:l6) (F:List l6) (i:Ins) (hl:f.stack.length≤1000) {c':Cf} (h:bM5 w c f F i=some c') :
  aH6 N ⟨⟨w.classes,c.heap,w.epoch⟩,fuel,c.sends,c.turns,(f::F).reverse,c.back,c.err⟩ gl gq F.length i=some (c'.toM w fuel):=by
 unfold bM5 at h
 by_cases h1:0≤i.b∧i.b < f.stack.length
 ·rw [if_pos h1] at h
  obtain ⟨x,hx,h⟩:=j4 h
  have e1:wr ((f.stack.length:Int) - 1)=(f.stack.length:Int) - 1:=D7 (by unfold D5; omega)
  have e2:wr ((f.stack.length:Int) - 1 - i.b)=((f.stack.length - 1 - i.b.toNat:Nat):Int):=by rw [D7 (by unfold D5; omega)]; omega
  unfold aH6
  simp only [Z0,Option.bind_some,e1,e2,F9,hx,a13]
  by_cases h2:D9 c.heap x=i.a
  ·rw [if_pos h2] at h
   cases h
   simp only [h2,decide_true,cond_true,Cf.toM]
  ·rw [if_neg h2] at h
   obtain ⟨cl,hcl,h⟩:=j4 h
   obtain ⟨m,hm,h⟩:=j4 h
   simp only [h2,decide_false,cond_false,hcl,hm,Option.bind_some]
   by_cases h3:0≤m.temps∧m.temps≤f.temps.length
   ·rw [if_pos h3] at h
    cases h
    simp only [h3.1,h3.2,decide_true,Bool.and_self,cond_true,aC1,Cf.toM]
   ·rw [if_neg h3] at h; cases h
 ·rw [if_neg h1] at h; cases h
theorem aS3 (c:Cf) (v:V):(aA6 c v).heap=c.heap:=by
 unfold aA6
 split<;>rfl
theorem aO7 {c c':Cf} {k j:Int} {self:V} {args:List V} (h:aH8 w fuel Q c k j self args=some c'):∃x m,p8 w.classes k=some x∧p8 x.methods j=some m ∧
  ((m.args≠args.length∧c'=I4 c 8)∨(m.args=args.length∧fuel≤c.sends∧c'=I4 c 13) ∨
   (m.args=args.length∧c.sends < fuel∧m.prim≠0∧∃a,p8 args 0=some a∧(((Z6 m.prim self a).2≠0∧c'=I4 { c with sends:=c.sends+1 } (Z6 m.prim self a).2) ∨
    ((Z6 m.prim self a).2=0∧c'=aA6 { c with sends:=c.sends+1 } (Z6 m.prim self a).1))) ∨
   (m.args=args.length∧c.sends < fuel∧m.prim=0∧20≤c.fs.length∧c'=I4 c 14) ∨
   (m.args=args.length∧c.sends < fuel∧m.prim=0∧c.fs.length < 20∧c'={ c with sends:=c.sends+1,fs:=aQ8 Q k j m self args::c.fs })):=by
 unfold aH8 at h
 obtain ⟨x,hx,h⟩:=j4 h
 obtain ⟨m,hm,h⟩:=j4 h
 refine ⟨x,m,hx,hm,?_⟩
 by_cases h1:m.args=args.length
 ·rw [if_neg (by simpa using h1)] at h
  refine .inr ?_
  by_cases h3:fuel≤c.sends
  ·refine .inl ⟨h1,h3,?_⟩
   rw [if_pos h3,if_pos h3] at h
   split at h<;>(cases h; rfl)
  refine .inr ?_
  rw [if_neg h3,if_neg h3] at h
  by_cases h2:m.prim=0
  ·rw [if_neg (by simpa using h2)] at h
   refine .inr ?_
   by_cases h4:20≤c.fs.length
   ·rw [if_pos h4] at h; cases h; exact .inl ⟨h1,by omega,h2,h4,rfl⟩
   ·rw [if_neg h4] at h; cases h; exact .inr ⟨h1,by omega,h2,by omega,rfl⟩
  ·rw [if_pos (by simpa using h2)] at h
   obtain ⟨a,ha,h⟩:=j4 h
   refine .inl ⟨h1,by omega,h2,a,ha,?_⟩
   by_cases h4:(Z6 m.prim self a).2=0
   ·rw [if_neg (by simpa using h4)] at h; cases h; exact .inr ⟨h4,rfl⟩
   ·rw [if_pos (by simpa using h4)] at h; cases h; exact .inl ⟨h4,rfl⟩
 ·rw [if_pos (by simpa using h1)] at h; cases h; exact .inl ⟨h1,rfl⟩
theorem bK7 {c c':Cf} {k j:Int} {self:V} {args:List V} (h:aH8 w fuel Q c k j self args=some c'):c'.heap=c.heap:=by
 obtain ⟨x,m,_,_,h|h|⟨_,_,_,a,_,h|h⟩|h|h⟩:=aO7 h
 ·rw [h.2]; rfl
 ·rw [h.2.2]; rfl
 ·rw [h.2]; rfl
 ·rw [h.2]; exact aS3 _ _
 ·rw [h.2.2.2.2]; rfl
 ·rw [h.2.2.2.2]
theorem aX8 {c c':Cf} {f:l6} {F:List l6} {i:Ins} {p:Int} (h:bJ2 w fuel L Q c f F i p=some c'):∃x cl m,0≤i.a∧i.a < f.stack.length∧f.stack[f.stack.length - i.a.toNat - 1]?=some x ∧
  p8 w.classes f.class_=some cl∧p8 cl.methods f.method=some m ∧
  (((L (aE0 f m i p) (D9 c.heap x) i.name).2 < 0∧c'=I4 { c with fs:=f::F,ev:=c.ev++[(aE0 f m i p,D9 c.heap x)] } 10) ∨
   (0≤(L (aE0 f m i p) (D9 c.heap x) i.name).2∧aH8 w fuel Q { c with fs:={ f with stack:=f.stack.take (f.stack.length - i.a.toNat - 1) }::F,ev:=c.ev++[(aE0 f m i p,D9 c.heap x)] }
    (L (aE0 f m i p) (D9 c.heap x) i.name).1 (L (aE0 f m i p) (D9 c.heap x) i.name).2 x (f.stack.drop (f.stack.length - i.a.toNat))=some c')):=by
 unfold bJ2 at h
 by_cases h0:0≤i.a∧i.a < f.stack.length
 ·rw [if_pos h0] at h
  obtain ⟨x,hx,h⟩:=j4 h
  obtain ⟨cl,hcl,h⟩:=j4 h
  obtain ⟨m,hm,h⟩:=j4 h
  refine ⟨x,cl,m,h0.1,h0.2,hx,hcl,hm,?_⟩
  by_cases h2:(L (aE0 f m i p) (D9 c.heap x) i.name).2 < 0
  ·rw [if_pos h2] at h; cases h; exact .inl ⟨h2,rfl⟩
  ·rw [if_neg h2] at h; exact .inr ⟨by omega,h⟩
 ·rw [if_neg h0] at h; cases h
theorem cR6 {c c':Cf} {f:l6} {F:List l6} {i:Ins} {p:Int} (h:bJ2 w fuel L Q c f F i p=some c'):c'.heap=c.heap:=by
 obtain ⟨x,cl,m,_,_,_,_,_,h|h⟩:=aX8 h
 ·rw [h.2]; rfl
 ·exact (bK7 h.2).trans rfl
theorem dF7 (hgl:∀s k n,gl s k n=some (L s k n)) (hgq:∀k j x m,p8 w.classes k=some x→p8 x.methods j=some m→gq k j=some (Q k j))
  (c:Cf) (W:Wk w Q c) (he:c.err=0) (f:l6) (F:List l6) (hf:WkF f) (hF:∀f∈F,WkF f) (hFl:F.length≤899) (i:Ins) (p:Int) {c':Cf} (h:bJ2 w fuel L Q c f F i p=some c') :
  aJ4 N ⟨⟨w.classes,c.heap,w.epoch⟩,fuel,c.sends,c.turns,(f::F).reverse,c.back,c.err⟩ gl gq F.length i p=some (c'.toM w fuel):=by
 obtain ⟨x,cl,m,h0,h1,hx,hcl,hm,h⟩:=aX8 h
 have hl:=hf.stack
 have e1:wr ((f.stack.length:Int) - i.a)=((f.stack.length - i.a.toNat:Nat):Int):=by rw [D7 (by unfold D5; omega)]; omega
 have e2:wr (((f.stack.length - i.a.toNat:Nat):Int) - 1)=((f.stack.length - i.a.toNat - 1:Nat):Int):=by rw [D7 (by unfold D5; omega)]; omega
 have d1:(decide ((0:Int)≤((f.stack.length - i.a.toNat:Nat):Int)) && decide (((f.stack.length - i.a.toNat:Nat):Int)≤(f.stack.length:Int)))=true:=by simp only [Bool.and_eq_true,decide_eq_true_eq]; omega
 have d2:(decide ((0:Int)≤((f.stack.length - i.a.toNat - 1:Nat):Int)) && decide (((f.stack.length - i.a.toNat - 1:Nat):Int)≤(f.stack.length:Int)))=true:=by simp only [Bool.and_eq_true,decide_eq_true_eq]; omega
 have hbif:((bif f.fast then some i.c else some p):Option Int)=some (aE0 f m i p).pos:=by unfold aE0; cases f.fast<;>rfl
 have hs:(⟨f.class_,m.name,(aE0 f m i p).pos⟩:St)=aE0 f m i p:=rfl
 unfold aJ4
 simp only [Z0,Option.bind_some,e1,e2,d1,d2,cond_true,Int.toNat_natCast,F9,hx,hcl,hm,a13,hgl,hbif,hs,he,aX1,aC1,
  aU4 N (show (f.stack.drop (f.stack.length - i.a.toNat)).length≤1048576 by simp; omega)]
 rcases h with ⟨h2,rfl⟩|⟨h2,h⟩
 ·simp only [h2,decide_true,cond_true]
  rfl
 ·rw [decide_eq_false (by omega)]
  simp only [cond_false]
  have:=cJ5 (gl:=gl) (N:=N) hgq W.meth W.quick _ (by exact he) (by have:=W.sends; exact ⟨this.1,by simp only; omega⟩) (by simp; omega) (fun g hg=>by
    rcases List.mem_cons.1 hg with rfl|hg
    ·simp; omega
    ·exact (hF g hg).stack) _ _ x _ (hf.num x (List.mem_of_getElem? hx)) (fun v hv=>hf.num v (List.mem_of_mem_drop hv)) (by simp; omega) c' h
  simp only [Cf.toM,he] at this
  rw [this]
  simp only [Option.bind_some,Cf.toM]
  have hh:c'.heap=c.heap:=(bK7 h).trans rfl
  rw [hh]
theorem dB3 (c:Cf) (W:Wk w Q c) (hN:1048578≤N) (he:c.err=0) (f:l6) (F:List l6) (hf:WkF f) (i:Ins) {c':Cf} (h:bJ7 w c f F i=some c') :
  aJ3 N ⟨⟨w.classes,c.heap,w.epoch⟩,fuel,c.sends,c.turns,(f::F).reverse,c.back,c.err⟩ gl gq F.length i=some (c'.toM w fuel):=by
 have hl:=hf.stack
 unfold bJ7 at h
 unfold aJ3
 by_cases h1:i.op=1
 ·rw [if_pos h1] at h
  cases h
  simp only [h1,Z0,aX0 _ hl,decide_true,cond_true,Option.bind_some,bQ0]
  rfl
 rw [if_neg h1] at h
 by_cases h2:i.op=2
 ·rw [if_pos h2] at h
  rw [Option.map_eq_some_iff] at h
  obtain ⟨v,hv,rfl⟩:=h
  simp only [h2,hv,Z0,aX0 _ hl,decide_true,cond_true,Option.bind_some]
  rfl
 rw [if_neg h2] at h
 by_cases h3:i.op=3
 ·rw [if_pos h3] at h
  rw [Option.map_eq_some_iff] at h
  obtain ⟨v,hv,rfl⟩:=h
  simp only [h3,hv,Z0,aC1,cM7 _ hl,decide_true,cond_true,Option.bind_some]
  rfl
 rw [if_neg h3] at h
 by_cases h4:i.op=4
 ·rw [if_pos h4] at h
  cases h
  simp only [h4,Z0,bR5,aX0 _ hl,decide_true,cond_true,Option.bind_some]
  rfl
 rw [if_neg h4] at h
 by_cases h5:i.op=5
 ·rw [if_pos h5] at h
  cases h
  simp only [h5,Z0,aX0 _ hl,decide_true,cond_true,Option.bind_some]
  rfl
 rw [if_neg h5] at h
 by_cases h6:i.op=6
 ·rw [if_pos h6] at h
  cases h
  simp only [h6,Z0,aX0 _ hl,decide_true,cond_true,Option.bind_some]
  rfl
 rw [if_neg h6] at h
 by_cases h7:i.op=7
 ·rw [if_pos h7] at h
  cases h
  simp only [h7,Z0,bB5,aX0 _ hl,decide_true,cond_true,Option.bind_some]
  rfl
 rw [if_neg h7] at h
 by_cases h8:i.op=8
 ·rw [if_pos h8] at h
  cases h
  simp only [h8,Z0,bB5,aX0 _ hl,decide_true,Option.bind_some]
  rfl
 rw [if_neg h8] at h
 by_cases h9:i.op=9
 ·rw [if_pos h9] at h
  rw [Option.map_eq_some_iff] at h
  obtain ⟨q,hq,rfl⟩:=h
  simp only [h9,Z0,bM1 hq hl,decide_true,cond_true,Option.bind_some]
  rfl
 rw [if_neg h9] at h
 by_cases h10:i.op=10
 ·rw [if_pos h10] at h
  rw [Option.map_eq_some_iff] at h
  obtain ⟨v,hv,rfl⟩:=h
  obtain ⟨e1,e2,e3,e4⟩:=bO1 hv hl
  simp only [h10,Z0,aC1,e1,c67 _ _ hl,decide_true,cond_true,Option.bind_some]
  rfl
 rw [if_neg h10] at h
 by_cases h11:i.op=11
 ·rw [if_pos h11] at h
  obtain ⟨q,hq,h⟩:=j4 h
  by_cases ha:0≤i.a∧i.a < f.temps.length
  ·rw [if_pos ha] at h
   cases h
   obtain ⟨y,_,hy⟩:=N8 ha.1 ha.2
   simp only [h11,hy,Z0,aC1,cN5 hq hl,decide_true,cond_true,Option.bind_some]
   rfl
  ·rw [if_neg ha] at h; cases h
 rw [if_neg h11] at h
 by_cases h12:i.op=12
 ·rw [if_pos h12] at h
  obtain ⟨q,hq,h⟩:=j4 h
  rw [Option.map_eq_some_iff] at h
  obtain ⟨H',hH,rfl⟩:=h
  have hs:q.2.self_=f.self_:=by rw [(V5 hq).2]
  simp only [h12,Z0,aC1,bM1 hq hl,cY2 hH,decide_true,cond_true,Option.bind_some]
  rfl
 rw [if_neg h12] at h
 by_cases h19:i.op=19
 ·rw [if_pos h19] at h
  rw [Option.map_eq_some_iff] at h
  obtain ⟨v,hv,rfl⟩:=h
  simp only [h19,hv,Z0,aC1,bR5,cM7 _ hl,decide_true,cond_true,Option.bind_some]
  rfl
 rw [if_neg h19] at h
 by_cases h20:i.op=20
 ·rw [if_pos h20] at h
  obtain ⟨tv,htv,h⟩:=j4 h
  obtain ⟨q,hq,h⟩:=j4 h
  rw [Option.map_eq_some_iff] at h
  obtain ⟨H',hH,rfl⟩:=h
  obtain ⟨qv,q2⟩:=q
  obtain rfl:q2={ f with stack:=f.stack.dropLast }:=(V5 hq).2
  simp only [h20,htv,Z0,aC1,cN5 hq hl,cY2 hH,decide_true,cond_true,Option.bind_some]
  rfl
 rw [if_neg h20] at h
 by_cases h13:i.op=13
 ·rw [if_pos h13] at h
  have hsl:=W.slots i.a
  have hnew:=cK2 N (l:=c.heap) i.a (G6 w i.a) (fun o ho=>by have:=W.heap.2 o ho; omega) (by have:=W.heap.1; omega) hsl.1 hsl.2
  have hslot:aQ1 N (⟨w.classes,c.heap,w.epoch⟩:Wd) i.a=some (G6 w i.a):=(b91 N ⟨w.classes,c.heap,w.epoch⟩ i.a hN W.cls).trans (by rw [aQ3 w c.heap w.epoch i.a])
  by_cases h60:60≤c.heap.length
  ·rw [if_pos h60] at h hnew
   cases h
   simp only [h13,hslot,hnew,he,aX1,show ((15:Int)=0)=False by decide,Bool.not_false,decide_true,decide_false,cond_true,Option.bind_some]
   rfl
  ·rw [if_neg h60] at h hnew
   cases h
   simp only [h13,hslot,hnew,aX0 _ hl,Bool.not_true,decide_true,cond_true,cond_false,Option.bind_some]
   rfl
 rw [if_neg h13] at h
 cases h
 simp only [h1,h2,h3,h4,h5,h6,h7,h8,h9,h10,h11,h12,h19,h20,h13,decide_false,cond_false,Option.bind_some,bQ0]
 rfl
theorem dB5 (hN:1048578≤N) (hgl:∀s k n,gl s k n=some (L s k n)) (hgq:∀k j x m,p8 w.classes k=some x→p8 x.methods j=some m→gq k j=some (Q k j))
  (c:Cf) (W:Wk w Q c) (he:c.err=0) {c':Cf} (h:M6 w fuel L Q c=some c'):aK5 N (c.toM w fuel) gl gq=some (c'.toM w fuel):=by
 unfold M6 at h
 cases hfs:c.fs with
 |nil=>rw [hfs] at h; cases h
 |cons f F =>
  rw [hfs] at h
  obtain ⟨i,hi,h⟩:=j4 h
  have hfsl:=W.fs
  rw [hfs] at hfsl
  simp only [List.length_cons] at hfsl
  have hf:WkF f:=W.fr f (by rw [hfs]; simp)
  have hF:∀g∈F,WkF g:=fun g hg=>W.fr g (by rw [hfs]; simp [hg])
  have hp:=aD5 hi
  have hcode:=hf.code
  have wp:wr (f.at_+1)=f.at_+1:=D7 (by unfold D5; omega)
  have wt:=cI7 (f:=f) (F:=F) (by omega)
  generalize hg:({ f with at_:=f.at_+1 }:l6)=g at h
  have hgl2:g.stack.length≤1000:=by rw [←hg]; exact hf.stack
  have hgw:WkF g:=by rw [←hg]; exact ⟨hf.stack,hf.code,hf.num⟩
  unfold aK5 Cf.toM
  have fin:∀(x:Cf),(⟨⟨w.classes,x.heap,w.epoch⟩,fuel,x.sends,x.turns,x.fs.reverse,⟨x.back.k,x.back.n⟩,x.err⟩:l8)=x.toM w fuel:=fun x=>rfl
  simp only [hfs,wt,wp,cO5,hi,Option.bind_some,Int.toNat_natCast,aC1,hg]
  by_cases h14:i.op=14
  ·rw [if_pos h14] at h
   have:=dF7 (gl:=gl) (N:=N) hgl hgq c W he g F hgw hF (by omega) i f.at_ h
   have hh:=cR6 h
   simp only [h14,this,decide_true,cond_true,Option.bind_some,Cf.toM,bQ0,hh]
  rw [if_neg h14] at h
  by_cases h15:i.op=15
  ·rw [if_pos h15] at h
   cases h
   have:=cP1 (w:=w) (fuel:=fuel) (N:=N) (gl:=gl) (gq:=gq) c g F i.a he (by have:=W.turns; omega)
   simp only [h15,this,decide_true,cond_true,Option.bind_some,Cf.toM]
   unfold aB6
   split<;>rfl
  rw [if_neg h15] at h
  by_cases h16:i.op=16
  ·rw [if_pos h16] at h
   rw [Option.map_eq_some_iff] at h
   obtain ⟨q,hq,rfl⟩:=h
   have:=cP1 (w:=w) (fuel:=fuel) (N:=N) (gl:=gl) (gq:=gq) c q.2 F i.a he (by have:=W.turns; omega)
   unfold bH9
   by_cases k1:q.1.k=1
   ·simp only [h16,bM1 hq hgl2,this,k1,decide_true,cond_true,Option.bind_some,Cf.toM,if_true]
    unfold aB6
    split<;>rfl
   ·by_cases k2:q.1.k=2
    ·simp only [h16,bM1 hq hgl2,k2,decide_true,cond_true,Option.bind_some,if_true]
     rfl
    ·simp only [h16,bM1 hq hgl2,k1,k2,he,aX1,decide_true,decide_false,cond_true,cond_false,Option.bind_some,if_false]
     rfl
  rw [if_neg h16] at h
  by_cases h17:i.op=17
  ·rw [if_pos h17] at h
   rw [Option.map_eq_some_iff] at h
   obtain ⟨q,hq,rfl⟩:=h
   have wt2:=cI7 (f:=q.2) (F:=F) (by omega)
   have hg2:=cI1 (w:=w) (fuel:=fuel) (N:=N) (gl:=gl) (gq:=gq) { c with fs:=F } q.1 (by simp only; omega) (fun x hx=>(hF x hx).stack)
   simp only [Cf.toM] at hg2
   have d1:(decide ((0:Int)≤(F.length:Int)) && decide ((F.length:Int)≤((q.2::F).reverse.length:Int)))=true:=by simp; omega
   simp only [decide_eq_false h14,decide_eq_false h15,decide_eq_false h16,decide_eq_true h17,bM1 hq hgl2,wt2,d1,Int.toNat_natCast,c89,hg2,cond_true,cond_false,Option.bind_some,bQ0,aS3]
  rw [if_neg h17] at h
  by_cases h18:i.op=18
  ·rw [if_pos h18] at h
   have:=c77 (w:=w) (fuel:=fuel) (N:=N) (gl:=gl) (gq:=gq) c g F i hgl2 h
   have hh:c'.heap=c.heap:=by
    unfold bM5 at h
    split at h
    ·obtain ⟨x,_,h⟩:=j4 h
     split at h
     ·cases h; rfl
     ·obtain ⟨cl,_,h⟩:=j4 h
      obtain ⟨m,_,h⟩:=j4 h
      split at h<;>cases h
      rfl
    ·cases h
   simp only [decide_eq_false h14,decide_eq_false h15,decide_eq_false h16,decide_eq_false h17,decide_eq_true h18,this,cond_true,cond_false,Option.bind_some,Cf.toM,bQ0,hh]
  rw [if_neg h18] at h
  by_cases h21:i.op=21
  ·rw [if_pos h21] at h
   cases h
   have:=cM2 (N:=N) (cl:=w.classes) (H:=c.heap) (ep:=w.epoch) (fuel:=fuel) (sends:=c.sends) (turns:=c.turns) (back:=c.back) (gl:=gl) (gq:=gq) (g::F).reverse true (by have:=W.sends; omega)
   simp only [h21,he,this,decide_true,cond_true,Option.bind_some]
   unfold aV6
   by_cases k1:fuel≤c.sends
   ·simp only [k1,if_true]; rfl
   ·by_cases k2:20≤(g::F).length
    ·simp only [k1,k2,List.length_reverse,if_true,if_false,and_self]; rfl
    ·simp only [k1,k2,List.length_reverse,if_false,and_false]; rfl
  rw [if_neg h21] at h
  have:=dB3 (w:=w) (fuel:=fuel) (N:=N) (gl:=gl) (gq:=gq) c W hN he g F hgw i h
  simp only [h14,h15,h16,h17,h18,h21,this,decide_false,cond_false,Option.bind_some,Cf.toM,bQ0]
end
end Go.Proofs.Ytkecefjmcimemaa
