import Derived.Test.YtibjcppjfkamhaaGreatDoorPl61
/- Plain laws: the reader reads as said. No program in sight. -/
namespace Go.Proofs.YtibjcppjfkamhaaGreatDoor
open Go.RowKit
set_option linter.unusedVariables false
def D5 {α:Type} (f:p8→Option (α×p8)) (p:BL→Option (α×BL)) (A:α→Prop):Prop :=
 ∀r:p8,r.s.size < 4294967281→∃a r',f r=some (a,r')∧A a∧r'.s.size≤r.s.size∧(r.ok_=false→r'.ok_=false) ∧
  (r.ok_=true→match p r.s.data.toList with
   |some (x,t)=>a=x∧r'.ok_=true∧r'.s.data.toList=t
   |none=>r'.ok_=false)
section
variable {α β:Type}
theorem D5.pure {a:α} {A:α→Prop} (h:A a):D5 (fun r=>some (a,r)) (fun t=>some (a,t)) A :=
 fun r _=>⟨a,r,rfl,h,Nat.le_refl _,fun h=>h,fun h=>⟨rfl,h,rfl⟩⟩
theorem D5.bind {f:p8→Option (α×p8)} {p:BL→Option (α×BL)} {A:α→Prop} (hf:D5 f p A) {k:α×p8→Option (β×p8)} {q:α×BL→Option (β×BL)} {B:β→Prop}
  (hk:∀a,A a→D5 (fun r=>k (a,r)) (fun t=>q (a,t)) B):D5 (fun r=>(f r).bind k) (fun t=>(p t).bind q) B:=by
 intro r hr
 obtain ⟨a,r1,h1,h2,h3,h4,h5⟩:=hf r hr
 obtain ⟨b,r2,g1,g2,g3,g4,g5⟩:=hk a h2 r1 (by omega)
 refine ⟨b,r2,by simp only [h1,Option.bind_some,g1],g2,by omega,fun h=>g4 (h4 h),fun h=>?_⟩
 have h5:=h5 h
 dsimp only
 cases hp:p r.s.data.toList with
 |none =>
  rw [hp] at h5
  exact g4 h5
 |some x =>
  rw [hp] at h5
  obtain ⟨x,t⟩:=x
  obtain ⟨rfl,h6,rfl⟩:=h5
  exact g5 h6
theorem D5.bindS {L:p8→Option (p8×α)} {p:BL→Option (α×BL)} {A:α→Prop} (hf:D5 (fun r=>(L r).map fun y=>(y.2,y.1)) p A) {k:p8×α→Option (β×p8)} {q:α×BL→Option (β×BL)} {B:β→Prop}
  (hk:∀a,A a→D5 (fun r=>k (r,a)) (fun t=>q (a,t)) B):D5 (fun r=>(L r).bind k) (fun t=>(p t).bind q) B:=by
 have:=D5.bind hf (k:=fun y=>k (y.2,y.1)) hk
 intro r hr
 obtain ⟨b,r2,g1,g⟩:=this r hr
 refine ⟨b,r2,?_,g⟩
 have g2:((L r).map fun y=>(y.2,y.1)).bind (fun y=>k (y.2,y.1))=some (b,r2):=g1
 show (L r).bind k=some (b,r2)
 rw [←g2]
 cases L r<;>rfl
theorem D5.loop {p:BL→Option (α×BL)} {step:p8→Option (α×p8)} (hp:D5 step p fun _=>True) {L:Nat→Nat→p8→List α→Option (p8×List α)} (h0:∀k r l,L 0 k r l=some (r,l))
  (hs:∀n k r l,l.length≤1000→L (n+1) k r l=(step r).bind fun y=>L n (k+1) y.2 (l++[y.1])) :
  ∀(n k:Nat) (l:List α),l.length+n≤1000→D5 (fun r=>(L n k r l).map fun y=>(y.2,y.1)) (fun t=>(aA4 p n t).map fun y=>(l++y.1,y.2)) fun _=>True
 |0,k,l,_=>fun r hr=>⟨l,r,by simp [h0],trivial,Nat.le_refl _,fun h=>h,fun h=>by simp [aA4,h]⟩
 |n+1,k,l,hl=>by
  intro r hr
  obtain ⟨a,r1,h1,h2,h3,h4,h5⟩:=hp r hr
  obtain ⟨b,r2,g1,g2,g3,g4,g5⟩:=D5.loop hp h0 hs n (k+1) (l++[a]) (by simp; omega) r1 (by omega)
  have g1:(L n (k+1) r1 (l++[a])).map (fun y=>(y.2,y.1))=some (b,r2):=g1
  refine ⟨b,r2,?_,trivial,by omega,fun h=>g4 (h4 h),fun h=>?_⟩
  ·show (L (n+1) k r l).map (fun y=>(y.2,y.1))=some (b,r2)
   rw [hs n k r l (by omega),h1,←g1]
   rfl
  have h5:=h5 h
  dsimp only
  cases hq:p r.s.data.toList with
  |none =>
   rw [hq] at h5
   simp only [aA4,hq,Option.bind_none,Option.map_none]
   exact g4 h5
  |some x =>
   rw [hq] at h5
   obtain ⟨x,t⟩:=x
   obtain ⟨rfl,h6,rfl⟩:=h5
   have g5:=g5 h6
   dsimp only at g5
   simp only [aA4,hq,Option.bind_some]
   cases hr:aA4 p n r1.s.data.toList with
   |none=>rw [hr] at g5; exact g5
   |some y =>
    rw [hr] at g5
    simp only [Option.map_some,List.append_assoc,List.singleton_append] at g5
    exact g5
theorem D5.rep {p:BL→Option (α×BL)} {step:p8→Option (α×p8)} (hp:D5 step p fun _=>True) {L:Nat→Nat→p8→List α→Option (p8×List α)} (h0:∀k r l,L 0 k r l=some (r,l))
  (hs:∀n k r l,l.length≤1000→L (n+1) k r l=(step r).bind fun y=>L n (k+1) y.2 (l++[y.1])) (n:Nat) (hn:n≤1000):D5 (fun r=>(L n 0 r []).map fun y=>(y.2,y.1)) (aA4 p n) fun _=>True:=by
 have:=D5.loop hp h0 hs n 0 [] (by simpa using hn)
 have e:(fun t=>(aA4 p n t).map fun y=>(([]:List α)++y.1,y.2))=aA4 p n:=by
  funext t
  cases aA4 p n t<;>rfl
 rwa [e] at this
end
theorem D5.word (N:Nat):D5 (I7 N) pw fun w=>w.size < 4294967281:=by
 intro r hr
 obtain ⟨s,o⟩:=r
 simp only at hr
 have hz:=aD3 s
 have hc:=cU8 s.data.toList
 unfold I7 strings_Cut
 have e32:(⟨#[32]⟩:ByteArray).data.toList=[32]:=rfl
 rw [decide_eq_true (show (s.size < 4294967281) from hr),e32]
 simp only [cond_true,Option.bind_some]
 cases hq:aQ6 s.data.toList with
 |none =>
  rw [hq] at hc
  rw [hc]
  simp only [Bool.not_false,cond_true,Option.bind_some]
  refine ⟨_,_,rfl,by show 0 < _; omega,Nat.le_refl _,fun _=>rfl,fun h=>?_⟩
  simp [pw,hq]
 |some y =>
  obtain ⟨w,t⟩:=y
  rw [hq] at hc
  obtain ⟨h1,h2⟩:=bU8 hq
  have hl:=congrArg List.length h1
  simp only [List.length_append,List.length_cons] at hl
  rw [hc]
  simp only [Bool.not_true,cond_false,Option.bind_some]
  by_cases hw:w=[]
  ·subst hw
   have:(⟨([]:BL).toArray⟩:ByteArray)=⟨#[]⟩:=rfl
   rw [this]
   simp only [decide_true,cond_true]
   refine ⟨_,_,rfl,by show 0 < _; omega,Nat.le_refl _,fun _=>rfl,fun h=>?_⟩
   simp [pw,hq]
  ·have hne:¬(⟨w.toArray⟩:ByteArray)=⟨#[]⟩:=fun e=>hw (by
    have:=congrArg (fun b:ByteArray=>b.data.toList) e
    simpa using this)
   rw [decide_eq_false hne]
   simp only [cond_false]
   refine ⟨_,_,rfl,?_,?_,fun h=>h,fun h=>?_⟩
   ·show w.toArray.size < _
    rw [List.size_toArray]; omega
   ·show t.toArray.size≤s.size
    rw [List.size_toArray]; omega
   ·simp [pw,hq,hw,h]
theorem D5.num (N:Nat):D5 (u6 N) pn fun _=>True:=by
 unfold u6 pn
 refine D5.bind (D5.word N) fun w hw=>?_
 intro r hr
 obtain ⟨s,o⟩:=r
 simp only
 have hz:=aD3 w
 unfold strconv_Atoi strconv_Itoa
 rw [decide_eq_true (show (w.size≤281474976710656) by omega)]
 simp only [cond_true,Option.bind_some]
 cases hc:Lib.atoiAll w.data.toList with
 |«syntax» =>
  simp only [Bool.not_false,cond_true,Option.bind_some]
  exact ⟨_,_,rfl,trivial,Nat.le_refl _,fun _=>rfl,fun _=>rfl⟩
 |range =>
  simp only [Bool.not_false,cond_true,Option.bind_some]
  exact ⟨_,_,rfl,trivial,Nat.le_refl _,fun _=>rfl,fun _=>rfl⟩
 |ok n =>
  simp only [Bool.not_true,cond_false,Option.bind_some]
  by_cases he:Lib.itoa n=w.data.toList
  ·have e:(⟨(Lib.itoa n).toArray⟩:ByteArray)=w:=aO4 he
   rw [decide_eq_true e]
   simp only [Bool.not_true,cond_false,Option.bind_some]
   exact ⟨_,_,rfl,trivial,Nat.le_refl _,fun h=>h,fun h=>by simp [he,h]⟩
  ·have e:¬(⟨(Lib.itoa n).toArray⟩:ByteArray)=w:=fun e=>he (by rw [←e])
   rw [decide_eq_false e]
   simp only [Bool.not_false,cond_true,Option.bind_some]
   exact ⟨_,_,rfl,trivial,Nat.le_refl _,fun _=>rfl,fun _=>by simp [he]⟩
theorem D5.count (N:Nat) (most:Int) (hm:0≤most):D5 (fun r=>G7 N r most) (pc most) fun n=>0≤n∧n≤most:=by
 unfold G7 pc
 refine D5.bind (D5.num N) fun n _=>?_
 intro r hr
 obtain ⟨s,o⟩:=r
 simp only
 by_cases h1:n < 0
 ·simp only [h1,decide_true,cond_true,Option.bind_some]
  exact ⟨_,_,rfl,⟨Int.le_refl _,hm⟩,Nat.le_refl _,fun _=>rfl,fun _=>by simp [h1]⟩
 ·by_cases h2:most < n
  ·simp only [h1,h2,decide_true,decide_false,cond_true,cond_false,Option.bind_some]
   exact ⟨_,_,rfl,⟨Int.le_refl _,hm⟩,Nat.le_refl _,fun _=>rfl,fun _=>by simp [h2]⟩
  ·simp only [h1,h2,decide_false,cond_false,Option.bind_some]
   exact ⟨_,_,rfl,⟨by omega,by omega⟩,Nat.le_refl _,fun h=>h,fun h=>by simp [h1,h2,h]⟩
theorem bF6 (a:Int):(a - ((0:Nat):Int)).toNat=a.toNat:=by simp
theorem aF1 {α:Type} {l:List α} {x:α} {B:Nat} (h:l.length≤1000) (hB:B≤1000):Nat.ble ((l.length+[x].length)*B) 140737488355328=true:=by
 refine Nat.ble_eq_true_of_le ?_
 have:(l.length+[x].length)*B≤1001*1000:=Nat.mul_le_mul (by simp only [List.length_singleton]; omega) hB
 omega
def b04 (N:Nat) (r:p8):Option (Ins×p8):=(u6 N r).bind fun a=>(u6 N a.2).bind fun b=>bif decide (a.1=14) then (I7 N b.2).bind fun s=>some (⟨a.1,b.1,0,0,s.1⟩,s.2) else some (⟨a.1,b.1,0,0,ByteArray.empty⟩,b.2)
theorem D5.ins (N:Nat):D5 (b04 N) bD7 fun _=>True:=by
 unfold b04 bD7
 refine D5.bind (D5.num N) fun a _=>?_
 dsimp only
 by_cases h:a=14
 ·simp only [h,decide_true,cond_true,if_true]
  refine D5.bind (D5.num N) fun b _=>?_
  dsimp only
  exact D5.bind (D5.word N) fun s _=>by dsimp only; exact D5.pure trivial
 ·simp only [h,decide_false,cond_false,if_false]
  exact D5.bind (D5.num N) fun b _=>by dsimp only; exact D5.pure trivial
theorem bU1 (N:Nat) (n k:Nat) (r:p8) (l:List Ins) (hl:l.length≤1000):I5 N (n+1) k r l=(b04 N r).bind fun y=>I5 N n (k+1) y.2 (l++[y.1]):=by
 rw [I5]
 unfold b04
 cases h1:u6 N r with
 |none=>rfl
 |some a =>
  simp only [Option.bind_some]
  cases h2:u6 N a.2 with
  |none=>rfl
  |some b =>
   simp only [Option.bind_some]
   by_cases ho:a.1=14
   ·simp only [ho,decide_true,cond_true]
    cases h3:I7 N b.2 with
    |none=>rfl
    |some s=>simp only [Option.bind_some,aF1 hl (show 48≤1000 by decide),cond_true]
   ·simp only [ho,decide_false,cond_false,Option.bind_some,aF1 hl (show 48≤1000 by decide),cond_true]
theorem D5.me (N:Nat):D5 (Q7 N) pMe fun _=>True:=by
 unfold Q7 pMe
 refine D5.bind (D5.word N) fun w _=>?_
 dsimp only
 refine D5.bind (D5.num N) fun a _=>?_
 dsimp only
 refine D5.bind (D5.num N) fun b _=>?_
 dsimp only
 refine D5.bind (D5.num N) fun c _=>?_
 dsimp only
 refine D5.bind (D5.count N 60 (by decide)) fun n hn=>?_
 dsimp only
 simp only [bF6]
 exact D5.bindS (D5.rep (D5.ins N) (L:=I5 N) (fun k r l=>rfl) (bU1 N) n.toNat (by omega)) fun l _=>by dsimp only; exact D5.pure trivial
theorem bY4 (N:Nat) (n k:Nat) (r:p8) (l:List Me) (hl:l.length≤1000):G5 N (n+1) k r l=(Q7 N r).bind fun y=>G5 N n (k+1) y.2 (l++[y.1]):=by
 rw [G5]
 cases h1:Q7 N r with
 |none=>rfl
 |some a=>simp only [Option.bind_some,aF1 hl (show 64≤1000 by decide),cond_true]
def cB8 (N:Nat) (r:p8):Option (Cl×p8):=(I7 N r).bind fun s=>(u6 N s.2).bind fun a=>(u6 N a.2).bind fun b=>(G7 N b.2 8).bind fun n=>(G5 N n.1.toNat 0 n.2 []).bind fun l=>some (⟨s.1,a.1,b.1,l.2⟩,l.1)
theorem D5.cl (N:Nat):D5 (cB8 N) pCl fun _=>True:=by
 unfold cB8 pCl
 refine D5.bind (D5.word N) fun w _=>?_
 dsimp only
 refine D5.bind (D5.num N) fun a _=>?_
 dsimp only
 refine D5.bind (D5.num N) fun b _=>?_
 dsimp only
 refine D5.bind (D5.count N 8 (by decide)) fun n hn=>?_
 dsimp only
 exact D5.bindS (D5.rep (D5.me N) (L:=G5 N) (fun k r l=>rfl) (bY4 N) n.toNat (by omega)) fun l _=>by dsimp only; exact D5.pure trivial
theorem bX9 (N:Nat) (n k:Nat) (r:p8) (l:List Cl) (hl:l.length≤1000):I8 N (n+1) k r l=(cB8 N r).bind fun y=>I8 N n (k+1) y.2 (l++[y.1]):=by
 rw [I8]
 unfold cB8
 cases h1:I7 N r with
 |none=>rfl
 |some s =>
  simp only [Option.bind_some]
  cases h2:u6 N s.2 with
  |none=>rfl
  |some a =>
   simp only [Option.bind_some]
   cases h3:u6 N a.2 with
   |none=>rfl
   |some b =>
    simp only [Option.bind_some]
    cases h4:G7 N b.2 8 with
    |none=>rfl
    |some c =>
     simp only [Option.bind_some,bF6]
     cases h5:G5 N c.1.toNat 0 c.2 [] with
     |none=>rfl
     |some d=>simp only [Option.bind_some,aF1 hl (show 56≤1000 by decide),cond_true]
def stV (N:Nat) (r:p8):Option (V×p8):=(u6 N r).bind fun a=>(u6 N a.2).bind fun b=>some (⟨a.1,b.1⟩,b.2)
theorem D5.v (N:Nat):D5 (stV N) pV fun _=>True:=by
 unfold stV pV
 refine D5.bind (D5.num N) fun a _=>?_
 dsimp only
 exact D5.bind (D5.num N) fun b _=>by dsimp only; exact D5.pure trivial
theorem bY1 (N:Nat) (n k:Nat) (r:p8) (l:List V) (hl:l.length≤1000):F9 N (n+1) k r l=(stV N r).bind fun y=>F9 N n (k+1) y.2 (l++[y.1]):=by
 rw [F9]
 unfold stV
 cases h1:u6 N r with
 |none=>rfl
 |some a =>
  simp only [Option.bind_some]
  cases h2:u6 N a.2 with
  |none=>rfl
  |some b=>simp only [Option.bind_some,aF1 hl (show 16≤1000 by decide),cond_true]
def cA8 (N:Nat) (r:p8):Option (Ob×p8):=(u6 N r).bind fun a=>(G7 N a.2 6).bind fun n=>(F9 N n.1.toNat 0 n.2 []).bind fun l=>some (⟨a.1,l.2⟩,l.1)
theorem D5.ob (N:Nat):D5 (cA8 N) pOb fun _=>True:=by
 unfold cA8 pOb
 refine D5.bind (D5.num N) fun a _=>?_
 dsimp only
 refine D5.bind (D5.count N 6 (by decide)) fun n hn=>?_
 dsimp only
 exact D5.bindS (D5.rep (D5.v N) (L:=F9 N) (fun k r l=>rfl) (bY1 N) n.toNat (by omega)) fun l _=>by dsimp only; exact D5.pure trivial
theorem bY7 (N:Nat) (n k:Nat) (r:p8) (l:List Ob) (hl:l.length≤1000):I9 N (n+1) k r l=(cA8 N r).bind fun y=>I9 N n (k+1) y.2 (l++[y.1]):=by
 rw [I9]
 unfold cA8
 cases h1:u6 N r with
 |none=>rfl
 |some a =>
  simp only [Option.bind_some]
  cases h2:G7 N a.2 6 with
  |none=>rfl
  |some b =>
   simp only [Option.bind_some,bF6]
   cases h5:F9 N b.1.toNat 0 b.2 [] with
   |none=>rfl
   |some d=>simp only [Option.bind_some,aF1 hl (show 32≤1000 by decide),cond_true]
theorem D5.wo (N:Nat):D5 (aC6 N) pWo fun _=>True:=by
 unfold aC6 pWo
 refine D5.bind (D5.num N) fun e _=>?_
 dsimp only
 refine D5.bind (D5.count N 12 (by decide)) fun n hn=>?_
 dsimp only
 simp only [bF6]
 refine D5.bindS (D5.rep (D5.cl N) (L:=I8 N) (fun k r l=>rfl) (bX9 N) n.toNat (by omega)) fun l _=>?_
 dsimp only
 refine D5.bind (D5.count N 60 (by decide)) fun m hm=>?_
 dsimp only
 exact D5.bindS (D5.rep (D5.ob N) (L:=I9 N) (fun k r l=>rfl) (bY7 N) m.toNat (by omega)) fun l _=>by dsimp only; exact D5.pure trivial
def bA8 (t:BL):Option Wd:=match pWo t with
 |some (w,[])=>some w
 |_=>none
theorem bV8 {t:BL} {w:Wd} (h:bA8 t=some w):t=woT w∧bS4 w:=by
 unfold bA8 at h
 split at h
 ·rename_i w' hw
  cases h
  have:=D9.wo.back t w [] hw
  simpa using this
 ·cases h
theorem cN1 (N:Nat) (b:List Int) (hb:b.length < 4294967281):aN8 N b=match bA8 (strOfNums b).data.toList with
  |none=>some (⟨[],[],0⟩,2)
  |some w=>(aH5 N w).bind fun r=>bif (!decide (r=0)) then some (⟨[],[],0⟩,r) else some (w,0):=by
 unfold aN8
 obtain ⟨w,r,h1,_,_,_,h5⟩:=D5.wo N ⟨strOfNums b,true⟩ (by rw [strOfNums_size]; exact hb)
 have h5:=h5 rfl
 rw [h1]
 simp only [Option.bind_some]
 simp only at h5
 unfold bA8
 cases hp:pWo (strOfNums b).data.toList with
 |none =>
  rw [hp] at h5
  simp only [h5,Bool.not_false,cond_true,Option.bind_some]
 |some x =>
  obtain ⟨x,t⟩:=x
  rw [hp] at h5
  obtain ⟨rfl,h6,h7⟩:=h5
  simp only [h6,Bool.not_true,cond_false,Option.bind_some]
  cases t with
  |nil =>
   have:r.s=⟨#[]⟩:=aO4 h7
   simp only [this,decide_true,Bool.not_true,cond_false]
  |cons a t =>
   have:¬r.s=⟨#[]⟩:=fun e=>by rw [e] at h7; cases h7
   simp only [this,decide_false,Bool.not_false,cond_true]
end Go.Proofs.YtibjcppjfkamhaaGreatDoor
