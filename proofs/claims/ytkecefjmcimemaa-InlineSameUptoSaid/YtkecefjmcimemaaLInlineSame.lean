/- The plain law of qclaw10.InlineSame. No program in sight. -/
import Derived.Test.YtkecefjmcimemaaPl35
namespace Go.Proofs.Ytkecefjmcimemaa
open Go.RowKit
set_option linter.unusedVariables false
theorem cL0 (N:Nat) (w:Wd) (a4:List Int) (k8:Nat) (x:Me) (k39:Nat):∀(r:List St) (k:Nat) (v:List Int),k39 < v.length→∃v',O5 N w a4 k8 x k39 r k v=some v'∧v'.length=v.length
 |[],k,v,h=>⟨v,rfl,rfl⟩
 |y::r,k,v,h=>by
  obtain ⟨u,_,hu⟩:=N8 (l:=v) (i:=(k39:Int)) (by omega) (by omega)
  have keep:∃v',O5 N w a4 k8 x k39 r (k+1) v=some v'∧v'.length=v.length:=cL0 N w a4 k8 x k39 r (k+1) v h
  rw [O5]
  by_cases h1:(k:Int) < (a4.length:Int)
  ·obtain ⟨z,_,hz⟩:=N8 (l:=a4) (i:=(k:Int)) (by omega) h1
   obtain ⟨v',e1,e2⟩:=cL0 N w a4 k8 x k39 r (k+1) (v.set ((k39:Int).toNat) z) (by rw [List.length_set]; exact h)
   rw [List.length_set] at e2
   rw [decide_eq_true h1]
   simp only [cond_true,hz,hu,Option.bind_some]
   by_cases h2:y.cls=(k8:Int)
   ·rw [decide_eq_true h2]
    simp only [cond_true]
    by_cases h3:y.name=x.name
    ·rw [decide_eq_true h3]
     simp only [cond_true]
     by_cases h4:y.pos=(k39:Int)
     ·rw [decide_eq_true h4]
      simp only [cond_true,Option.bind_some]
      by_cases h5:z < (w.classes.length:Int)
      ·rw [decide_eq_true h5]
       exact ⟨v',e1,e2⟩
      ·rw [decide_eq_false h5]
       exact keep
     ·rw [decide_eq_false h4]
      exact keep
    ·rw [decide_eq_false h3]
     exact keep
   ·rw [decide_eq_false h2]
    exact keep
  ·rw [decide_eq_false h1]
   exact keep
theorem cV4 (N:Nat) (w:Wd) (a3:List St) (a4:List Int) (k8:Nat) (x:Me):∀(n k:Nat) (v:List Int),n+k=v.length→∃v',O7 N w a3 a4 k8 x n k v=some v'∧v'.length=v.length
 |0,k,v,h=>⟨v,rfl,rfl⟩
 |n+1,k,v,h=>by
  obtain ⟨u,_,hu⟩:=N8 (l:=v) (i:=(k:Int)) (by omega) (by omega)
  obtain ⟨v1,e1,e2⟩:=cL0 N w a4 k8 x k a3 0 (v.set ((k:Int).toNat) (-1)) (by rw [List.length_set]; omega)
  rw [List.length_set] at e2
  obtain ⟨v2,e3,e4⟩:=cV4 N w a3 a4 k8 x n (k+1) v1 (by omega)
  rw [O7,hu]
  simp only [Option.bind_some]
  rw [e1]
  exact ⟨v2,e3,by omega⟩
theorem cH7 (N:Nat) (hN:4194304≤N) (w:Wd) (hs:U5 w) (x:Me):∀(n k:Nat) (v:List Int),n+k=v.length→v.length=x.code.length→∃v',O8 N w x n k v=some v'
 |0,k,v,h,_=>⟨v,rfl⟩
 |n+1,k,v,h,hc=>by
  obtain ⟨u,_,hu⟩:=N8 (l:=v) (i:=(k:Int)) (by omega) (by omega)
  obtain ⟨i,_,hi⟩:=N8 (l:=x.code) (i:=(k:Int)) (by omega) (by omega)
  obtain ⟨v1,e1⟩:=cH7 N hN w hs x n (k+1) v (by omega) hc
  obtain ⟨v2,e2⟩:=cH7 N hN w hs x n (k+1) (v.set ((k:Int).toNat) (-1)) (by rw [List.length_set]; omega) (by rw [List.length_set]; exact hc)
  rw [O8,hu]
  simp only [Option.bind_some]
  by_cases h1:u < 0
  ·rw [decide_eq_true h1]
   exact ⟨v1,e1⟩
  ·rw [decide_eq_false h1]
   simp only [cond_false,hi,Option.bind_some,aT0 N w u i.name (by omega) hs.1]
   by_cases h2:(z8 w i.name u).2 < 0
   ·rw [decide_eq_true h2]
    exact ⟨v2,e2⟩
   ·rw [decide_eq_false h2]
    obtain ⟨y,m,hy,hm,_⟩:=a05 (w:=w) (s:=i.name) (c:=u) (by omega)
    simp only [cond_false,hy,hm,Option.bind_some,cB8]
    cases aM8 m with
    |true=>exact ⟨v1,e1⟩
    |false=>exact ⟨v2,e2⟩
def bN9 (N:Nat) (w:Wd) (a3:List St) (a4:List Int) (k8:Nat) (x:Me):Option (List Int) :=
 (O7 N w a3 a4 k8 x ((((List.replicate (x.code.length:Int).toNat (0:Int)).length:Int) - ((0:Nat):Int)).toNat) 0 (List.replicate (x.code.length:Int).toNat (0:Int))).bind fun v42=>O8 N w x (((v42.length:Int) - ((0:Nat):Int)).toNat) 0 v42
theorem cF9 (N:Nat) (hN:4194304≤N) (w:Wd) (hs:U5 w) (a3:List St) (a4:List Int) (k8:Nat) (x:Me):∃v,bN9 N w a3 a4 k8 x=some v:=by
 unfold bN9
 obtain ⟨v1,e1,e2⟩:=cV4 N w a3 a4 k8 x ((((List.replicate (x.code.length:Int).toNat (0:Int)).length:Int) - ((0:Nat):Int)).toNat) 0 (List.replicate (x.code.length:Int).toNat (0:Int)) (by simp)
 rw [e1]
 simp only [Option.bind_some]
 exact cH7 N hN w hs x _ 0 v1 (by simp) (by rw [e2]; simp)
def bG0 (N:Nat) (w:Wd) (a3:List St) (a4:List Int) (k j:Int):List Int:=(((p8 w.classes k).bind fun x=>(p8 x.methods j).bind fun m=>bN9 N w a3 a4 k.toNat m)).getD []
def bU5 (l:List Fs) (q:Fs×Bool):List Fs:=if q.2=true then l++[q.1] else l
def bP3 (w:Wd) (S:Int→Int→List Int) (c:Nat):List Me→Nat→List Fs→List Fs
 |[],_,l=>l
 |_::r,k,l=>bP3 w S c r (k+1) (bU5 l (qF w S c k))
def bN6 (w:Wd) (S:Int→Int→List Int):List Cl→Nat→List Fs→List Fs
 |[],_,l=>l
 |x::r,c,l=>bN6 w S r (c+1) (bP3 w S c x.methods 0 l)
theorem cK6 (l:List Fs) (q:Fs×Bool):(bU5 l q).length≤l.length+1:=by
 unfold bU5
 split<;>simp
theorem cM8 (w:Wd) (S:Int→Int→List Int) (c:Nat):∀(r:List Me) (k:Nat) (l:List Fs),(bP3 w S c r k l).length≤l.length+r.length
 |[],k,l=>Nat.le_refl _
 |x::r,k,l=>by
  have h1:=cM8 w S c r (k+1) (bU5 l (qF w S c k))
  have h2:=cK6 l (qF w S c k)
  simp only [bP3,List.length_cons]
  omega
section
variable (N:Nat) (hN:4194304≤N) (w:Wd) (hs:U5 w) (hp:aD0 N w) (a3:List St) (a4:List Int)
include hN hs hp
theorem cZ1 (c:Nat) (x:Cl) (hx:w.classes[c]?=some x):∀(r:List Me) (k:Nat) (l:List Fs),r=x.methods.drop k→l.length+r.length≤1000000→Q9 N w a3 a4 c r k l=some (bP3 w (bG0 N w a3 a4) c r k l)
 |[],k,l,_,_=>rfl
 |m::r,k,l,hd,h=>by
  simp only [List.length_cons] at h
  obtain ⟨hm,h2,_⟩:=F4 hd
  obtain ⟨v,hv⟩:=cF9 N hN w hs a3 a4 c m
  have hS:bG0 N w a3 a4 (c:Int) (k:Int)=v:=by
   unfold bG0
   rw [F9,hx]
   simp only [Option.bind_some]
   rw [F9,hm]
   simp only [Option.bind_some,Int.toNat_natCast,hv]
   rfl
  have hc:m.code.length≤60:=(hp.wOk hN hs).code x (List.mem_of_getElem? hx) m (List.mem_of_getElem? hm)
  have hal:=cK6 l (qF w (bG0 N w a3 a4) (c:Int) (k:Int))
  have ih:=cZ1 c x hx r (k+1) (bU5 l (qF w (bG0 N w a3 a4) (c:Int) (k:Int))) h2 (by omega)
  rw [Q9]
  have g1:(decide (0≤(m.code.length:Int)) && decide ((m.code.length:Int)≤140737488355328) && decide ((m.code.length:Int)*8≤140737488355328))=true:=by
   simp
   omega
  rw [g1]
  simp only [cond_true]
  unfold bN9 at hv
  obtain ⟨v42,e1,e2⟩:=j4 hv
  rw [e1]
  simp only [Option.bind_some]
  rw [e2]
  simp only [Option.bind_some,cV8 N hN w hs hp]
  have hq:bN7 w (c:Int) (k:Int) v=qF w (bG0 N w a3 a4) (c:Int) (k:Int):=by
   unfold qF
   rw [hS]
  rw [hq]
  rw [bP3,←ih]
  unfold bU5
  cases hb:(qF w (bG0 N w a3 a4) (c:Int) (k:Int)).2 with
  |false=>rfl
  |true =>
   simp only [cond_true]
   rw [I6 (by simp; omega)]
   rfl
theorem cY7 : ∀(r:List Cl) (c:Nat) (l:List Fs),r=w.classes.drop c→l.length+8*r.length≤1000000→S9 N w a3 a4 r c l=some (bN6 w (bG0 N w a3 a4) r c l)
 |[],c,l,_,_=>rfl
 |x::r,c,l,hd,h=>by
  simp only [List.length_cons] at h
  obtain ⟨hx,h2,_⟩:=F4 hd
  have h8:=(hp.wOk hN hs).ms x (List.mem_of_getElem? hx)
  have hl:=cM8 w (bG0 N w a3 a4) c x.methods 0 l
  rw [S9,cZ1 N hN w hs hp a3 a4 c x hx x.methods 0 l rfl (by omega)]
  simp only [Option.bind_some]
  rw [cY7 r (c+1) _ h2 (by omega)]
  rfl
end
theorem cZ8 {l:List Fs} {q:Fs×Bool} {f:Fs}:f∈bU5 l q↔f∈l∨(q.2=true∧f=q.1):=by
 unfold bU5
 split
 ·rename_i h
  simp [h]
 ·rename_i h
  simp [h]
theorem cH9 {w:Wd} {S:Int→Int→List Int} {c:Nat}:∀(r:List Me) (k:Nat) (l:List Fs) (f:Fs),f∈bP3 w S c r k l↔f∈l∨∃(i:Nat) (m:Me),r[i]?=some m∧(qF w S c ((k+i:Nat):Int)).2=true∧f=(qF w S c ((k+i:Nat):Int)).1
 |[],k,l,f=>by simp [bP3]
 |x::r,k,l,f=>by
  rw [bP3,cH9 r (k+1),cZ8]
  constructor
  ·rintro ((h|⟨h2,h3⟩)|⟨i,m,h1,h2,h3⟩)
   ·exact .inl h
   ·exact .inr ⟨0,x,rfl,h2,h3⟩
   ·exact .inr ⟨i+1,m,by simpa using h1,by rw [show k+(i+1)=k+1+i by omega]; exact h2,by rw [show k+(i+1)=k+1+i by omega]; exact h3⟩
  ·rintro (h|⟨i,m,h1,h2,h3⟩)
   ·exact .inl (.inl h)
   ·cases i with
    |zero=>exact .inl (.inr ⟨h2,h3⟩)
    |succ i=>exact .inr ⟨i,m,by simpa using h1,by rw [show k+1+i=k+(i+1) by omega]; exact h2,by rw [show k+1+i=k+(i+1) by omega]; exact h3⟩
theorem b45 {w:Wd} {S:Int→Int→List Int}:∀(r:List Cl) (c:Nat) (l:List Fs) (f:Fs),f∈bN6 w S r c l↔f∈l∨∃(k:Nat) (x:Cl) (i:Nat) (m:Me),r[k]?=some x∧x.methods[i]?=some m∧(qF w S ((c+k:Nat):Int) i).2=true∧f=(qF w S ((c+k:Nat):Int) i).1
 |[],c,l,f=>by simp [bN6]
 |x::r,c,l,f=>by
  rw [bN6,b45 r (c+1),cH9]
  constructor
  ·rintro ((h|⟨i,m,h1,h2,h3⟩)|⟨k,y,i,m,h0,h1,h2,h3⟩)
   ·exact .inl h
   ·rw [Nat.zero_add] at h2 h3
    exact .inr ⟨0,x,i,m,rfl,h1,h2,h3⟩
   ·exact .inr ⟨k+1,y,i,m,by simpa using h0,h1,by rw [show c+(k+1)=c+1+k by omega]; exact h2,by rw [show c+(k+1)=c+1+k by omega]; exact h3⟩
  ·rintro (h|⟨k,y,i,m,h0,h1,h2,h3⟩)
   ·exact .inl (.inl h)
   ·cases k with
    |zero =>
     cases h0
     exact .inl (.inr ⟨i,m,h1,by rw [Nat.zero_add]; exact h2,by rw [Nat.zero_add]; exact h3⟩)
    |succ k=>exact .inr ⟨k,y,i,m,by simpa using h0,h1,by rw [show c+1+k=c+(k+1) by omega]; exact h2,by rw [show c+1+k=c+(k+1) by omega]; exact h3⟩
theorem cW7 (w:Wd) (S:Int→Int→List Int):cQ5 w S (bN6 w S w.classes 0 []):=fun f hf=>by
 rcases (b45 w.classes 0 [] f).1 hf with h|⟨k,x,i,m,h0,h1,h2,h3⟩
 ·cases h
 ·rw [Nat.zero_add] at h2 h3
  exact ⟨k,i,x,m,h0,h1,h2,h3⟩
theorem bZ3 {N:Nat} {w:Wd} {S:Int→Int→List Int} (hr:bD0 w) {k j:Int} {x:Cl} {m:Me} (hx:p8 w.classes k=some x) (hm:p8 x.methods j=some m):∀(l:List Fs) (i:Nat),cQ5 w S l →
  M7 N k j w l i=some (.ret (qF w S k j))∨(M7 N k j w l i=some (.next ())∧∀f∈l,¬(f.cls=k∧f.name=m.name))
 |[],i,_=>.inr ⟨rfl,fun f hf=>by cases hf⟩
 |f::l,i,h=>by
  have ih:=bZ3 (N:=N) hr hx hm l (i+1) fun g hg=>h g (by simp [hg])
  have b1:=aD5 hx
  have b2:=aD5 hm
  rw [M7]
  by_cases h1:f.cls=k
  ·rw [decide_eq_true h1,decide_eq_true b1.1,decide_eq_true b1.2,decide_eq_true b2.1]
   simp only [cond_true,hx,hm,Option.bind_some,decide_eq_true b2.2]
   by_cases h2:f.name=m.name
   ·rw [decide_eq_true h2,h.one hr hx hm (by simp) h1 h2]
    exact .inl rfl
   ·rw [decide_eq_false h2]
    rcases ih with ih|⟨ih,hn⟩
    ·exact .inl ih
    ·exact .inr ⟨ih,fun g hg=>by
      rcases List.mem_cons.1 hg with rfl|hg
      ·exact fun hh=>h2 hh.2
      ·exact hn g hg⟩
  ·rw [decide_eq_false h1]
   rcases ih with ih|⟨ih,hn⟩
   ·exact .inl ih
   ·exact .inr ⟨ih,fun g hg=>by
     rcases List.mem_cons.1 hg with rfl|hg
     ·exact fun hh=>h1 hh.1
     ·exact hn g hg⟩
theorem c62 {N:Nat} {w:Wd} {S:Int→Int→List Int} (hr:bD0 w) {k j:Int} {x:Cl} {m:Me} (hx:p8 w.classes k=some x) (hm:p8 x.methods j=some m):U7 N k j (bN6 w S w.classes 0 []) w=some (qF w S k j):=by
 unfold U7
 rcases bZ3 (N:=N) hr hx hm (bN6 w S w.classes 0 []) 0 (cW7 w S) with h|⟨h,hn⟩
 ·rw [h]; rfl
 ·rw [h]
  cases hq:(qF w S k j).2 with
  |false=>rw [dC1 hx hm hq]; rfl
  |true =>
   obtain ⟨d1,d2,_⟩:=cM5 hx hm hq
   obtain ⟨k0,k1⟩:=q8 hx
   obtain ⟨j0,j1⟩:=q8 hm
   refine absurd ⟨d1,d2⟩ (hn _ ((b45 w.classes 0 [] _).2 (.inr ⟨k.toNat,x,j.toNat,m,k1,j1,?_,?_⟩)))
   ·rw [Nat.zero_add,Int.toNat_of_nonneg k0,Int.toNat_of_nonneg j0]; exact hq
   ·rw [Nat.zero_add,Int.toNat_of_nonneg k0,Int.toNat_of_nonneg j0]
set_option maxRecDepth 100000 in
theorem b40 : aP5 4194304=some true:=by kernel_rfl
theorem cB9 (a0:Wd) (a1:U2) (a2:Int) (a3:(List St)) (a4:(List Int)) (h0:dI7 a0) (h1:cO0 a1) (h2:okI a2) (h3:(okL c08) a3) (h4:(okL okI) a4) (hb:cC2 a0+bX6 a1+bkI a2+(bkL cH8) a3+(bkL bkI) a4≤1048576):∃N,aM0 N a0 a1 a2 a3 a4=some true:=by
 obtain ⟨N,hNe⟩:∃N:Nat,N=4194304:=⟨_,rfl⟩
 have hal:aP5 N=some true:=by rw [hNe]; exact b40
 have hN:4194304≤N:=by omega
 refine ⟨N,?_⟩
 have hs:=c83 (w:=a0) (by omega)
 unfold aM0
 rw [hal]
 obtain ⟨r,hr,hp⟩:=cQ8 N a0 hN hs
 simp only [Option.bind_some,Bool.not_true,cond_false]
 rw [hr]
 simp only [Option.bind_some]
 by_cases h:r=0
 ·have hp:=hp h
  rw [decide_eq_true h]
  have hW:=hp.wOk hN hs
  have hcl:=hW.cls
  simp only [Bool.not_true,cond_false,cY7 N hN a0 hs hp a3 a4 a0.classes 0 [] rfl (by simp only [List.length_nil]; omega),Option.bind_some]
  obtain ⟨s,q1,q2⟩:=dB6 (fuel:=a2) (S:=bG0 N a0 a3 a4) (gl:=fun x0_ x1_ x2_=>V4 N x0_ x1_ x2_ a0) (gq:=fun x0_ x1_=>U7 N x0_ x1_ (bN6 a0 (bG0 N a0 a3 a4) a0.classes 0 []) a0) hN hs hp (fun s k n=>by
    show V4 N s k n a0=_
    unfold V4
    rw [aT0 N a0 k n (by omega) hs.1]
    rfl) (fun k j x m hx hm=>c62 hp.rise hx hm) a1
  obtain ⟨t,R,ev,p1,p2,_⟩:=cF1 hN hs hp a1 a2
  have e:=q2.det p2.ran
  subst e
  simp only [q1,p1,Option.bind_some,cX2,decide_true,cond_true,cH6]
 ·rw [decide_eq_false h]; rfl
end Go.Proofs.Ytkecefjmcimemaa
