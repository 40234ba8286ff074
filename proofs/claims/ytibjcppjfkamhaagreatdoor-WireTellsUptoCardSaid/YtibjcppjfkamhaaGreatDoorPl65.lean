import Derived.Test.YtibjcppjfkamhaaGreatDoorPl64
/- Plain laws: the reference's reader reads as said. No program in sight. -/
namespace Go.Proofs.YtibjcppjfkamhaaGreatDoor
open Go.RowKit
set_option linter.unusedVariables false
def rdT (r:H9):BL:=(r.l.map wdT).flatten
def RdI (r:H9):Prop:=∀w∈r.l,WrW w∧w.size < 4294967281
def y7 {α:Type} (f:H9→Option (α×H9)) (p:BL→Option (α×BL)) (A:α→Prop):Prop :=
 ∀r:H9,RdI r→∃a r',f r=some (a,r')∧A a∧RdI r'∧(r.ok_=false→r'.ok_=false) ∧
  (r.ok_=true→match p (rdT r) with
   |some (x,t)=>a=x∧r'.ok_=true∧rdT r'=t
   |none=>r'.ok_=false)
section
variable {α β:Type}
theorem y7.pure {a:α} {A:α→Prop} (h:A a):y7 (fun r=>some (a,r)) (fun t=>some (a,t)) A :=
 fun r hr=>⟨a,r,rfl,h,hr,fun h=>h,fun h=>⟨rfl,h,rfl⟩⟩
theorem y7.bind {f:H9→Option (α×H9)} {p:BL→Option (α×BL)} {A:α→Prop} (hf:y7 f p A) {k:α×H9→Option (β×H9)} {q:α×BL→Option (β×BL)} {B:β→Prop}
  (hk:∀a,A a→y7 (fun r=>k (a,r)) (fun t=>q (a,t)) B):y7 (fun r=>(f r).bind k) (fun t=>(p t).bind q) B:=by
 intro r hr
 obtain ⟨a,r1,h1,h2,h3,h4,h5⟩:=hf r hr
 obtain ⟨b,r2,g1,g2,g3,g4,g5⟩:=hk a h2 r1 h3
 refine ⟨b,r2,by simp only [h1,Option.bind_some,g1],g2,g3,fun h=>g4 (h4 h),fun h=>?_⟩
 have h5:=h5 h
 dsimp only
 cases hp:p (rdT r) with
 |none =>
  rw [hp] at h5
  exact g4 h5
 |some x =>
  rw [hp] at h5
  obtain ⟨x,t⟩:=x
  obtain ⟨rfl,h6,rfl⟩:=h5
  exact g5 h6
theorem y7.bindS {L:H9→Option (H9×α)} {p:BL→Option (α×BL)} {A:α→Prop} (hf:y7 (fun r=>(L r).map fun y=>(y.2,y.1)) p A) {k:H9×α→Option (β×H9)} {q:α×BL→Option (β×BL)} {B:β→Prop}
  (hk:∀a,A a→y7 (fun r=>k (r,a)) (fun t=>q (a,t)) B):y7 (fun r=>(L r).bind k) (fun t=>(p t).bind q) B:=by
 have:=y7.bind hf (k:=fun y=>k (y.2,y.1)) hk
 intro r hr
 obtain ⟨b,r2,g1,g⟩:=this r hr
 refine ⟨b,r2,?_,g⟩
 have g2:((L r).map fun y=>(y.2,y.1)).bind (fun y=>k (y.2,y.1))=some (b,r2):=g1
 show (L r).bind k=some (b,r2)
 rw [←g2]
 cases L r<;>rfl
theorem y7.loop {p:BL→Option (α×BL)} {step:H9→Option (α×H9)} (hp:y7 step p fun _=>True) {L:Nat→Nat→H9→List α→Option (H9×List α)} (h0:∀k r l,L 0 k r l=some (r,l))
  (hs:∀n k r l,l.length≤1000→L (n+1) k r l=(step r).bind fun y=>L n (k+1) y.2 (l++[y.1])) :
  ∀(n k:Nat) (l:List α),l.length+n≤1000→y7 (fun r=>(L n k r l).map fun y=>(y.2,y.1)) (fun t=>(aA4 p n t).map fun y=>(l++y.1,y.2)) fun _=>True
 |0,k,l,_=>fun r hr=>⟨l,r,by simp [h0],trivial,hr,fun h=>h,fun h=>by simp [aA4,h]⟩
 |n+1,k,l,hl=>by
  intro r hr
  obtain ⟨a,r1,h1,h2,h3,h4,h5⟩:=hp r hr
  obtain ⟨b,r2,g1,g2,g3,g4,g5⟩:=y7.loop hp h0 hs n (k+1) (l++[a]) (by simp; omega) r1 h3
  have g1:(L n (k+1) r1 (l++[a])).map (fun y=>(y.2,y.1))=some (b,r2):=g1
  refine ⟨b,r2,?_,trivial,g3,fun h=>g4 (h4 h),fun h=>?_⟩
  ·show (L (n+1) k r l).map (fun y=>(y.2,y.1))=some (b,r2)
   rw [hs n k r l (by omega),h1,←g1]
   rfl
  have h5:=h5 h
  dsimp only
  cases hq:p (rdT r) with
  |none =>
   rw [hq] at h5
   simp only [aA4,hq,Option.bind_none,Option.map_none]
   exact g4 h5
  |some x =>
   rw [hq] at h5
   obtain ⟨x,t⟩:=x
   obtain ⟨rfl,h6,rfl⟩:=h5
   have g5:=g5 h6
   dsimp only at g5
   simp only [aA4,hq,Option.bind_some]
   cases hr:aA4 p n (rdT r1) with
   |none=>rw [hr] at g5; exact g5
   |some y =>
    rw [hr] at g5
    simp only [Option.map_some,List.append_assoc,List.singleton_append] at g5
    exact g5
theorem y7.rep {p:BL→Option (α×BL)} {step:H9→Option (α×H9)} (hp:y7 step p fun _=>True) {L:Nat→Nat→H9→List α→Option (H9×List α)} (h0:∀k r l,L 0 k r l=some (r,l))
  (hs:∀n k r l,l.length≤1000→L (n+1) k r l=(step r).bind fun y=>L n (k+1) y.2 (l++[y.1])) (n:Nat) (hn:n≤1000):y7 (fun r=>(L n 0 r []).map fun y=>(y.2,y.1)) (aA4 p n) fun _=>True:=by
 have:=y7.loop hp h0 hs n 0 [] (by simpa using hn)
 have e:(fun t=>(aA4 p n t).map fun y=>(([]:List α)++y.1,y.2))=aA4 p n:=by
  funext t
  cases aA4 p n t<;>rfl
 rwa [e] at this
end
theorem y7.word (N:Nat):y7 (N8 N) pw fun w=>w.size < 4294967281:=by
 intro r hr
 obtain ⟨l,o⟩:=r
 unfold N8
 cases l with
 |nil=>exact ⟨_,_,rfl,by decide,hr,fun _=>rfl,fun h=>rfl⟩
 |cons w l =>
  have h0:decide ((((w::l).length:Nat):Int)=0)=false:=decide_eq_false (by simp only [List.length_cons]; omega)
  have h1:(decide ((0:Int)≤1) && decide ((1:Int)≤((w::l).length:Nat)))=true:=by
   simp only [List.length_cons,Bool.and_eq_true,decide_eq_true_eq]; omega
  have hh:=hr w (by simp)
  have e0:F5 (w::l) (0:Int)=some w:=K4 (w::l) 0
  simp only [h0,h1,e0,cond_false,cond_true,Option.bind_some]
  refine ⟨_,_,rfl,hh.2,fun x hx=>hr x (by simp only [List.mem_cons]; exact .inr hx),fun h=>h,fun h=>?_⟩
  have:rdT ⟨w::l,o⟩=wdT w++(l.map wdT).flatten:=by simp [rdT]
  rw [this,a90 _ hh.1]
  exact ⟨rfl,h,rfl⟩
theorem y7.num (N:Nat):y7 (w9 N) pn fun _=>True:=by
 unfold w9 pn
 refine y7.bind (y7.word N) fun w hw=>?_
 intro r hr
 obtain ⟨s,o⟩:=r
 simp only
 have hz:=aD3 w
 unfold strconv_Atoi strconv_Itoa
 rw [decide_eq_true (show (w.size≤281474976710656) by omega)]
 simp only [cond_true,Option.bind_some]
 cases hc:Lib.atoiAll w.data.toList with
 |«syntax» =>
  simp only [Bool.not_false,cond_true,Option.bind_some]
  exact ⟨_,_,rfl,trivial,hr,fun _=>rfl,fun _=>rfl⟩
 |range =>
  simp only [Bool.not_false,cond_true,Option.bind_some]
  exact ⟨_,_,rfl,trivial,hr,fun _=>rfl,fun _=>rfl⟩
 |ok n =>
  simp only [Bool.not_true,cond_false,Option.bind_some]
  by_cases he:Lib.itoa n=w.data.toList
  ·have e:(⟨(Lib.itoa n).toArray⟩:ByteArray)=w:=aO4 he
   rw [decide_eq_true e]
   simp only [Bool.not_true,cond_false,Option.bind_some]
   exact ⟨_,_,rfl,trivial,hr,fun h=>h,fun h=>by simp [he,h]⟩
  ·have e:¬(⟨(Lib.itoa n).toArray⟩:ByteArray)=w:=fun e=>he (by rw [←e])
   rw [decide_eq_false e]
   simp only [Bool.not_false,cond_true,Option.bind_some]
   exact ⟨_,_,rfl,trivial,hr,fun _=>rfl,fun _=>by simp [he]⟩
theorem y7.count (N:Nat) (most:Int) (hm:0≤most):y7 (fun r=>I1 N r most) (pc most) fun n=>0≤n∧n≤most:=by
 unfold I1 pc
 refine y7.bind (y7.num N) fun n _=>?_
 intro r hr
 obtain ⟨s,o⟩:=r
 simp only
 by_cases h1:n < 0
 ·simp only [h1,decide_true,cond_true,Option.bind_some]
  exact ⟨_,_,rfl,⟨Int.le_refl _,hm⟩,hr,fun _=>rfl,fun _=>by simp [h1]⟩
 ·by_cases h2:most < n
  ·simp only [h1,h2,decide_true,decide_false,cond_true,cond_false,Option.bind_some]
   exact ⟨_,_,rfl,⟨Int.le_refl _,hm⟩,hr,fun _=>rfl,fun _=>by simp [h2]⟩
  ·cases o with
   |false =>
    simp only [h1,h2,decide_false,cond_false,Bool.not_false,cond_true,Option.bind_some]
    exact ⟨_,_,rfl,⟨Int.le_refl _,hm⟩,hr,fun _=>rfl,fun h=>by cases h⟩
   |true =>
    simp only [h1,h2,decide_false,cond_false,Bool.not_true,Option.bind_some]
    exact ⟨_,_,rfl,⟨by omega,by omega⟩,hr,fun h=>h,fun h=>by simp [h1,h2]⟩
def b03 (N:Nat) (r:H9):Option (Ins×H9):=(w9 N r).bind fun a=>(w9 N a.2).bind fun b=>bif decide (a.1=14) then (N8 N b.2).bind fun s=>some (⟨a.1,b.1,0,0,s.1⟩,s.2) else some (⟨a.1,b.1,0,0,ByteArray.empty⟩,b.2)
theorem y7.ins (N:Nat):y7 (b03 N) bD7 fun _=>True:=by
 unfold b03 bD7
 refine y7.bind (y7.num N) fun a _=>?_
 dsimp only
 by_cases h:a=14
 ·simp only [h,decide_true,cond_true,if_true]
  refine y7.bind (y7.num N) fun b _=>?_
  dsimp only
  exact y7.bind (y7.word N) fun s _=>by dsimp only; exact y7.pure trivial
 ·simp only [h,decide_false,cond_false,if_false]
  exact y7.bind (y7.num N) fun b _=>by dsimp only; exact y7.pure trivial
theorem bX8 (N:Nat) (n k:Nat) (r:H9) (l:List Ins) (hl:l.length≤1000):K9 N (n+1) k r l=(b03 N r).bind fun y=>K9 N n (k+1) y.2 (l++[y.1]):=by
 rw [K9]
 unfold b03
 cases h1:w9 N r with
 |none=>rfl
 |some a =>
  simp only [Option.bind_some]
  cases h2:w9 N a.2 with
  |none=>rfl
  |some b =>
   simp only [Option.bind_some]
   by_cases ho:a.1=14
   ·simp only [ho,decide_true,cond_true]
    cases h3:N8 N b.2 with
    |none=>rfl
    |some s=>simp only [Option.bind_some,aF1 hl (show 48≤1000 by decide),cond_true]
   ·simp only [ho,decide_false,cond_false,Option.bind_some,aF1 hl (show 48≤1000 by decide),cond_true]
def cA1 (N:Nat) (r:H9):Option (Me×H9):=(N8 N r).bind fun s=>(w9 N s.2).bind fun a=>(w9 N a.2).bind fun b=>(w9 N b.2).bind fun c=>(I1 N c.2 60).bind fun n=>(K9 N n.1.toNat 0 n.2 []).bind fun l=>some (⟨s.1,a.1,b.1,c.1,l.2⟩,l.1)
theorem y7.me (N:Nat):y7 (cA1 N) pMe fun _=>True:=by
 unfold cA1 pMe
 refine y7.bind (y7.word N) fun w _=>?_
 dsimp only
 refine y7.bind (y7.num N) fun a _=>?_
 dsimp only
 refine y7.bind (y7.num N) fun b _=>?_
 dsimp only
 refine y7.bind (y7.num N) fun c _=>?_
 dsimp only
 refine y7.bind (y7.count N 60 (by decide)) fun n hn=>?_
 dsimp only
 exact y7.bindS (y7.rep (y7.ins N) (L:=K9 N) (fun k r l=>rfl) (bX8 N) n.toNat (by omega)) fun l _=>by dsimp only; exact y7.pure trivial
theorem bX5 (N:Nat) (n k:Nat) (r:H9) (l:List Me) (hl:l.length≤1000):M5 N (n+1) k r l=(cA1 N r).bind fun y=>M5 N n (k+1) y.2 (l++[y.1]):=by
 rw [M5]
 unfold cA1
 cases h1:N8 N r with
 |none=>rfl
 |some s =>
  simp only [Option.bind_some]
  cases h2:w9 N s.2 with
  |none=>rfl
  |some a =>
   simp only [Option.bind_some]
   cases h3:w9 N a.2 with
   |none=>rfl
   |some b =>
    simp only [Option.bind_some]
    cases h6:w9 N b.2 with
    |none=>rfl
    |some e =>
     simp only [Option.bind_some]
     cases h4:I1 N e.2 60 with
     |none=>rfl
     |some c =>
      simp only [Option.bind_some,bF6]
      cases h5:K9 N c.1.toNat 0 c.2 [] with
      |none=>rfl
      |some d=>simp only [Option.bind_some,aF1 hl (show 64≤1000 by decide),cond_true]
def cD3 (N:Nat) (r:H9):Option (Cl×H9):=(N8 N r).bind fun s=>(w9 N s.2).bind fun a=>(w9 N a.2).bind fun b=>(I1 N b.2 8).bind fun n=>(M5 N n.1.toNat 0 n.2 []).bind fun l=>some (⟨s.1,a.1,b.1,l.2⟩,l.1)
theorem y7.cl (N:Nat):y7 (cD3 N) pCl fun _=>True:=by
 unfold cD3 pCl
 refine y7.bind (y7.word N) fun w _=>?_
 dsimp only
 refine y7.bind (y7.num N) fun a _=>?_
 dsimp only
 refine y7.bind (y7.num N) fun b _=>?_
 dsimp only
 refine y7.bind (y7.count N 8 (by decide)) fun n hn=>?_
 dsimp only
 exact y7.bindS (y7.rep (y7.me N) (L:=M5 N) (fun k r l=>rfl) (bX5 N) n.toNat (by omega)) fun l _=>by dsimp only; exact y7.pure trivial
theorem bZ0 (N:Nat) (n k:Nat) (r:H9) (l:List Cl) (hl:l.length≤1000):L9 N (n+1) k r l=(cD3 N r).bind fun y=>L9 N n (k+1) y.2 (l++[y.1]):=by
 rw [L9]
 unfold cD3
 cases h1:N8 N r with
 |none=>rfl
 |some s =>
  simp only [Option.bind_some]
  cases h2:w9 N s.2 with
  |none=>rfl
  |some a =>
   simp only [Option.bind_some]
   cases h3:w9 N a.2 with
   |none=>rfl
   |some b =>
    simp only [Option.bind_some]
    cases h4:I1 N b.2 8 with
    |none=>rfl
    |some c =>
     simp only [Option.bind_some,bF6]
     cases h5:M5 N c.1.toNat 0 c.2 [] with
     |none=>rfl
     |some d=>simp only [Option.bind_some,aF1 hl (show 56≤1000 by decide),cond_true]
def rdV (N:Nat) (r:H9):Option (V×H9):=(w9 N r).bind fun a=>(w9 N a.2).bind fun b=>some (⟨a.1,b.1⟩,b.2)
theorem y7.v (N:Nat):y7 (rdV N) pV fun _=>True:=by
 unfold rdV pV
 refine y7.bind (y7.num N) fun a _=>?_
 dsimp only
 exact y7.bind (y7.num N) fun b _=>by dsimp only; exact y7.pure trivial
theorem bY2 (N:Nat) (n k:Nat) (r:H9) (l:List V) (hl:l.length≤1000):M0 N (n+1) k r l=(rdV N r).bind fun y=>M0 N n (k+1) y.2 (l++[y.1]):=by
 rw [M0]
 unfold rdV
 cases h1:w9 N r with
 |none=>rfl
 |some a =>
  simp only [Option.bind_some]
  cases h2:w9 N a.2 with
  |none=>rfl
  |some b=>simp only [Option.bind_some,aF1 hl (show 16≤1000 by decide),cond_true]
def cB7 (N:Nat) (r:H9):Option (Ob×H9):=(w9 N r).bind fun a=>(I1 N a.2 6).bind fun n=>(M0 N n.1.toNat 0 n.2 []).bind fun l=>some (⟨a.1,l.2⟩,l.1)
theorem y7.ob (N:Nat):y7 (cB7 N) pOb fun _=>True:=by
 unfold cB7 pOb
 refine y7.bind (y7.num N) fun a _=>?_
 dsimp only
 refine y7.bind (y7.count N 6 (by decide)) fun n hn=>?_
 dsimp only
 exact y7.bindS (y7.rep (y7.v N) (L:=M0 N) (fun k r l=>rfl) (bY2 N) n.toNat (by omega)) fun l _=>by dsimp only; exact y7.pure trivial
theorem bX1 (N:Nat) (n k:Nat) (r:H9) (l:List Ob) (hl:l.length≤1000):M3 N (n+1) k r l=(cB7 N r).bind fun y=>M3 N n (k+1) y.2 (l++[y.1]):=by
 rw [M3]
 unfold cB7
 cases h1:w9 N r with
 |none=>rfl
 |some a =>
  simp only [Option.bind_some]
  cases h2:I1 N a.2 6 with
  |none=>rfl
  |some b =>
   simp only [Option.bind_some,bF6]
   cases h5:M0 N b.1.toNat 0 b.2 [] with
   |none=>rfl
   |some d=>simp only [Option.bind_some,aF1 hl (show 32≤1000 by decide),cond_true]
def cM5 (N:Nat) (r:H9):Option (Wd×H9):=(w9 N r).bind fun e=>(I1 N e.2 12).bind fun n=>(L9 N n.1.toNat 0 n.2 []).bind fun l=>(I1 N l.1 60).bind fun m=>(M3 N m.1.toNat 0 m.2 []).bind fun h=>some (⟨l.2,h.2,e.1⟩,h.1)
theorem y7.wo (N:Nat):y7 (cM5 N) pWo fun _=>True:=by
 unfold cM5 pWo
 refine y7.bind (y7.num N) fun e _=>?_
 dsimp only
 refine y7.bind (y7.count N 12 (by decide)) fun n hn=>?_
 dsimp only
 refine y7.bindS (y7.rep (y7.cl N) (L:=L9 N) (fun k r l=>rfl) (bZ0 N) n.toNat (by omega)) fun l _=>?_
 dsimp only
 refine y7.bind (y7.count N 60 (by decide)) fun m hm=>?_
 dsimp only
 exact y7.bindS (y7.rep (y7.ob N) (L:=M3 N) (fun k r l=>rfl) (bX1 N) m.toNat (by omega)) fun l _=>by dsimp only; exact y7.pure trivial
def wsN : BL→BL→Option (List ByteArray)
 |cur,[]=>if cur=[] then some [] else none
 |cur,b::t=>if b=32 then (if cur=[] then none else (wsN [] t).map fun l=>⟨cur.toArray⟩::l) else wsN (cur++[b]) t
theorem bM5 : ∀{t cur:BL} {l:List ByteArray},wsN cur t=some l→(32:UInt8) ∉ cur→cur++t=(l.map wdT).flatten∧∀w∈l,WrW w∧w.size≤cur.length+t.length
 |[],cur,l,h,hc=>by
  unfold wsN at h
  split at h
  ·rename_i e; subst e; cases h; simp
  ·cases h
 |b::t,cur,l,h,hc=>by
  unfold wsN at h
  split at h
  ·rename_i hb
   split at h
   ·cases h
   ·rename_i hn
    cases hw:wsN [] t with
    |none=>rw [hw] at h; cases h
    |some m =>
     rw [hw] at h
     cases h
     obtain ⟨h1,h2⟩:=bM5 hw (by simp)
     refine ⟨by rw [List.map_cons,List.flatten_cons,←h1,hb]; simp [wdT],fun w hm=>?_⟩
     rcases List.mem_cons.1 hm with rfl|hm
     ·refine ⟨⟨by simpa using hn,by simpa using hc⟩,?_⟩
      show cur.toArray.size≤_
      rw [List.size_toArray]; omega
     ·have:=h2 w hm
      simp only [List.length_nil,List.length_cons] at this ⊢
      exact ⟨this.1,by omega⟩
  ·rename_i hb
   obtain ⟨h1,h2⟩:=bM5 h (by simp only [List.mem_append,List.mem_singleton,not_or]; exact ⟨hc,Ne.symm hb⟩)
   refine ⟨by simpa using h1,fun w hm=>?_⟩
   have:=h2 w hm
   simp only [List.length_append,List.length_cons,List.length_nil] at this ⊢
   exact ⟨this.1,by omega⟩
def F4 (t:BL):Prop:=∃l:List ByteArray,(∀w∈l,WrW w)∧t=(l.map wdT).flatten
theorem F4.nil : F4 []:=⟨[],by simp,rfl⟩
theorem F4.app {a b:BL} (ha:F4 a) (hb:F4 b):F4 (a++b):=by
 obtain ⟨l,h1,rfl⟩:=ha
 obtain ⟨m,h2,rfl⟩:=hb
 exact ⟨l++m,fun w hw=>(List.mem_append.1 hw).elim (h1 w) (h2 w),by simp⟩
theorem F4.word {s:ByteArray} (h:WrW s):F4 (wdT s):=⟨[s],by simpa using h,by simp⟩
theorem F4.num (n:Int):F4 (nmT n):=F4.word (s:=⟨(Lib.itoa n).toArray⟩) (bV4 n)
theorem F4.flat {α:Type} (f:α→BL):∀{l:List α},(∀x∈l,F4 (f x))→F4 (l.map f).flatten
 |[],_=>F4.nil
 |x::l,h=>by
  rw [List.map_cons,List.flatten_cons]
  exact (h x (by simp)).app (F4.flat f fun y hy=>h y (by simp [hy]))
theorem F4.nms (l:List Int):F4 (Q6 l):=F4.flat nmT fun n _=>F4.num n
theorem F4.ins {i:Ins} (h:cA2 i):F4 (aE4 i):=by
 unfold aE4
 by_cases ho:i.op=14
 ·simp only [ho,if_true]
  exact (F4.nms _).app (F4.word (h.2.2.2.2.1 ho))
 ·simp only [ho,if_false,List.append_nil]
  exact F4.nms _
theorem F4.me {m:Me} (h:cO3 m):F4 (meT m):=by
 unfold meT
 exact (F4.word h.1).app ((F4.nms _).app (F4.flat aE4 fun i hi=>F4.ins (h.2.2.2.2.2 i hi)))
theorem F4.cl {c:Cl} (h:cL4 c):F4 (clT c):=by
 unfold clT
 exact (F4.word h.1).app ((F4.nms _).app (F4.flat meT fun i hi=>F4.me (h.2.2.2.2 i hi)))
theorem F4.ob (o:Ob):F4 (obT o):=by
 unfold obT
 exact (F4.nms _).app (F4.flat vT fun v _=>by unfold vT; exact F4.nms _)
theorem F4.wo {w:Wd} (h:bS4 w):F4 (woT w):=by
 unfold woT
 exact (F4.nms _).app ((F4.flat clT fun c hc=>F4.cl (h.2.2.2.1 c hc)).app ((F4.nms _).app (F4.flat obT fun o _=>F4.ob o)))
theorem cL5 (s:BL) (r:BL) (hs:(32:UInt8) ∉ s):∀cur:BL,cur++s≠[]→wsN cur (s++32::r)=(wsN [] r).map fun l=>⟨(cur++s).toArray⟩::l:=by
 induction s with
 |nil =>
  intro cur hc
  have hc:cur≠[]:=by simpa using hc
  simp [wsN,hc]
 |cons b s ih =>
  intro cur _
  have hb:b≠32:=fun e=>hs (by simp [e])
  rw [List.cons_append,wsN,if_neg hb,ih (fun h=>hs (by simp [h])) (cur++[b]) (by simp)]
  simp
theorem bW8 : ∀(l:List ByteArray),(∀w∈l,WrW w)→wsN [] (l.map wdT).flatten=some l
 |[],_=>rfl
 |w::l,h=>by
  have hw:=h w (by simp)
  have e:((w::l).map wdT).flatten=w.data.toList++32::(l.map wdT).flatten:=by simp [wdT]
  rw [e,cL5 w.data.toList _ hw.2 [] (by simpa using hw.1),bW8 l fun x hx=>h x (by simp [hx])]
  rfl
theorem c02 (s:ByteArray) (k:Nat) (b:UInt8) (h:s.data.toList[k]?=some b):(s.extract k (k+1)).data.toList=[b]:=by
 obtain ⟨hk,e⟩:=List.getElem?_eq_some_iff.1 h
 have:(s.extract k (k+1)).data.toList=(s.data.toList.drop k).take 1:=by
  rw [ByteArray.data_extract,Array.toList_extract]
  simp [List.extract_eq_take_drop]
 rw [this,List.drop_eq_getElem_cons hk,e]
 rfl
theorem bJ1 (N:Nat) (s:ByteArray) (hs:s.size≤4294967296):∀(n k:Nat) (v:List ByteArray) (c:ByteArray),n+k=s.size→v.length≤k→c.size≤k →
  match wsN c.data.toList (s.data.toList.drop k) with
  |some l=>L8 N s n k v c=some (.next (v++l,⟨#[]⟩))
  |none=>L8 N s n k v c=some (.ret ([],false))∨∃u d,d≠⟨#[]⟩∧L8 N s n k v c=some (.next (u,d))
 |0,k,v,c,h,hv,hc=>by
  have:s.data.toList.drop k=[]:=List.drop_eq_nil_of_le (by rw [aD3]; omega)
  rw [this]
  unfold wsN
  by_cases e:c.data.toList=[]
  ·rw [if_pos e]
   have:c=⟨#[]⟩:=aO4 (by rw [e])
   subst this
   simp [L8]
  ·rw [if_neg e]
   exact .inr ⟨v,c,fun x=>e (by rw [x]),rfl⟩
 |n+1,k,v,c,h,hv,hc=>by
  have hk:k < s.data.toList.length:=by rw [aD3]; omega
  have hb:s.data.toList[k]?=some (s.data.toList[k]):=List.getElem?_eq_getElem hk
  generalize s.data.toList[k]=b at hb
  have hd:s.data.toList.drop k=b::s.data.toList.drop (k+1):=by
   obtain ⟨hk',e⟩:=List.getElem?_eq_some_iff.1 hb
   rw [List.drop_eq_getElem_cons hk,e]
  have ih1:=bJ1 N s hs n (k+1)
  rw [hd,L8,bR8,hb]
  simp only [Option.bind_some]
  have e32:decide ((b.toNat:Int)=32)=decide (b=32):=by
   by_cases q:b=32
   ·subst q; rfl
   ·have:¬(b.toNat:Int)=32:=fun e=>q (UInt8.toNat_inj.1 (by have:(32:UInt8).toNat=32:=rfl; omega))
    rw [decide_eq_false q,decide_eq_false this]
  rw [e32]
  by_cases q:b=32
  ·subst q
   simp only [decide_true,Bool.not_true,cond_false]
   unfold wsN
   rw [if_pos rfl]
   by_cases e:c.data.toList=[]
   ·rw [if_pos e]
    have:c=⟨#[]⟩:=aO4 (by rw [e])
    subst this
    simp
   ·have hne:¬c=⟨#[]⟩:=fun x=>e (by rw [x])
    rw [if_neg e,decide_eq_false hne]
    simp only [cond_false,Nat.ble_eq_true_of_le (show (v.length+[c].length)*16≤140737488355328 by simp only [List.length_singleton]; omega),cond_true,Option.bind_some]
    have:=ih1 (v++[c]) ⟨#[]⟩ (by omega) (by simp; omega) (by show 0≤_; omega)
    have e0:(⟨#[]⟩:ByteArray).data.toList=[]:=rfl
    rw [e0] at this
    cases hw:wsN [] (s.data.toList.drop (k+1)) with
    |none=>rw [hw] at this; exact this
    |some l =>
     rw [hw] at this
     simp only [Option.map_some]
     have ec:(⟨c.data.toList.toArray⟩:ByteArray)=c:=aO4 (by simp)
     rw [ec]
     simpa using this
  ·have hin:(decide ((0:Int)≤(k:Int)) && (decide ((k:Int)≤(k:Int)+1) && decide ((k:Int)+1≤(s.size:Int))))=true:=by
    have:k+1≤s.size:=by omega
    simp only [Bool.and_eq_true,decide_eq_true_eq]; omega
   have e1:((k:Int)).toNat=k:=by omega
   have e2:((k:Int)+1).toNat=k+1:=by omega
   have hx:=c02 s k b hb
   have hxs:(s.extract k (k+1)).size=1:=by rw [←aD3,hx]; rfl
   simp only [decide_eq_false q,Bool.not_false,cond_true,hin,e1,e2,hxs,decide_eq_true (show c.size+1≤4611686018427387904 by omega),Option.bind_some]
   have ea:(c++s.extract k (k+1)).data.toList=c.data.toList++[b]:=by
    rw [ByteArray.data_append,Array.toList_append,hx]
   have:=ih1 v (c++s.extract k (k+1)) (by omega) (by omega) (by rw [←aD3,ea,List.length_append,aD3]; simp; omega)
   rw [ea] at this
   unfold wsN
   rw [if_neg q]
   exact this
theorem cI8 (N:Nat) (s:ByteArray) (hs:s.size≤4294967296):match wsN [] s.data.toList with
  |some l=>aD9 N s=some (l,true)
  |none=>∃u,aD9 N s=some (u,false):=by
 have h:=bJ1 N s hs s.size 0 [] ⟨#[]⟩ (by omega) (by simp) (by show 0≤0; omega)
 have e0:(⟨#[]⟩:ByteArray).data.toList=[]:=rfl
 have e1:(((s.size:Int) - ((0:Nat):Int)).toNat)=s.size:=by simp
 rw [e0,List.drop_zero] at h
 unfold aD9
 rw [e1]
 cases hw:wsN [] s.data.toList with
 |some l =>
  rw [hw] at h
  have h:L8 N s s.size 0 [] ⟨#[]⟩=some (.next ([]++l,⟨#[]⟩)):=h
  rw [h]
  simp
 |none =>
  rw [hw] at h
  rcases h with h|⟨u,d,hd,h⟩
  ·rw [h]; exact ⟨_,rfl⟩
  ·rw [h]
   refine ⟨u,?_⟩
   simp [hd]
theorem b77 (N:Nat) (b:List Int) (hb:b.length < 4294967281):aI9 N b=match bA8 (strOfNums b).data.toList with
  |none=>some (⟨[],[],0⟩,2)
  |some w=>(aA9 N w).bind fun r=>bif (!decide (r=0)) then some (⟨[],[],0⟩,r) else some (w,0):=by
 have hz:(strOfNums b).size≤4294967296:=by rw [strOfNums_size]; omega
 have h:=cI8 N (strOfNums b) hz
 unfold aI9
 cases hw:wsN [] (strOfNums b).data.toList with
 |none =>
  rw [hw] at h
  obtain ⟨u,h⟩:=h
  rw [h]
  have:bA8 (strOfNums b).data.toList=none:=by
   cases hp:bA8 (strOfNums b).data.toList with
   |none=>rfl
   |some w =>
    obtain ⟨h1,h2⟩:=bV8 hp
    obtain ⟨l,h3,h4⟩:=F4.wo h2
    rw [h1,h4,bW8 l h3] at hw
    cases hw
  rw [this]
  rfl
 |some l =>
  rw [hw] at h
  have h:aD9 N (strOfNums b)=some (l,true):=h
  rw [h]
  obtain ⟨h1,h2⟩:=bM5 hw (by simp)
  have hI:RdI ⟨l,true⟩:=fun w hm=>by
   have:=h2 w hm
   refine ⟨this.1,?_⟩
   have e:=aD3 (strOfNums b)
   have e2:=strOfNums_size b
   have:=this.2
   simp only [List.length_nil] at this
   omega
  have hT:rdT ⟨l,true⟩=(strOfNums b).data.toList:=h1.symm
  obtain ⟨w,r,g1,_,_,_,g5⟩:=y7.wo N ⟨l,true⟩ hI
  have g5:=g5 rfl
  rw [hT] at g5
  simp only [Option.bind_some,Bool.not_true,cond_false,bF6]
  unfold cM5 at g1
  cases q1:w9 N ⟨l,true⟩ with
  |none=>rw [q1] at g1; cases g1
  |some e =>
  rw [q1] at g1
  simp only [Option.bind_some] at g1 ⊢
  cases q2:I1 N e.2 12 with
  |none=>rw [q2] at g1; cases g1
  |some n =>
  rw [q2] at g1
  simp only [Option.bind_some] at g1 ⊢
  cases q3:L9 N n.1.toNat 0 n.2 [] with
  |none=>rw [q3] at g1; cases g1
  |some cs =>
  rw [q3] at g1
  simp only [Option.bind_some] at g1 ⊢
  cases q4:I1 N cs.1 60 with
  |none=>rw [q4] at g1; cases g1
  |some m =>
  rw [q4] at g1
  simp only [Option.bind_some] at g1 ⊢
  cases q5:M3 N m.1.toNat 0 m.2 [] with
  |none=>rw [q5] at g1; cases g1
  |some os =>
  rw [q5] at g1
  simp only [Option.bind_some,Option.some.injEq,Prod.mk.injEq] at g1 ⊢
  obtain ⟨rfl,rfl⟩:=g1
  unfold bA8
  cases hp:pWo (strOfNums b).data.toList with
  |none =>
   rw [hp] at g5
   have g5:os.1.ok_=false:=g5
   simp only [g5,Bool.not_false,cond_true,Option.bind_some]
  |some x =>
   obtain ⟨x,t⟩:=x
   rw [hp] at g5
   obtain ⟨rfl,h6,h7⟩:=g5
   simp only [h6,Bool.not_true,cond_false,Option.bind_some]
   cases hl:os.1.l with
   |nil =>
    have:t=[]:=by rw [←h7]; unfold rdT; rw [hl]; rfl
    subst this
    simp
   |cons y ys =>
    have:t≠[]:=fun e=>by
     have h7:=h7
     unfold rdT at h7
     rw [hl,e] at h7
     simp [wdT] at h7
    cases t with
    |nil=>exact absurd rfl this
    |cons a t =>
     have:decide ((0:Int) < (((y::ys).length:Nat):Int))=true:=decide_eq_true (by simp only [List.length_cons]; omega)
     simp only [this,cond_true]
end Go.Proofs.YtibjcppjfkamhaaGreatDoor
