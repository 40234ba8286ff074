import Derived.Test.YtkecefjmcimemaaPl29
/- Whoever stands in does the same: a step of the plain machine, where nothing stands in. No program in sight. -/
namespace Go.Proofs.Ytkecefjmcimemaa
open Go.RowKit
set_option linter.unusedVariables false
structure cI6 (w:Wd) (S:Int→Int→List Int) (g p:l6) (iF i:Ins):Prop where
 st:g.stack=p.stack
 self:g.self_=p.self_
 args:g.args=p.args
 cls:g.class_=p.class_
 mth:g.method=p.method
 tk:g.temps.take p.temps.length=p.temps
 tl:p.temps.length≤g.temps.length
 at_:p8 g.code g.at_=some iF
 op:iF.op=i.op
 nm:iF.name=i.name
 b:iF.b=i.b
 a:i.op≠15→i.op≠16→iF.a=i.a
 clen:g.code.length≤240
 next:∀T Tp S',T.length=g.temps.length→Tp.length=p.temps.length→T.take p.temps.length=Tp→FR w S { g with at_:=g.at_+1,temps:=T,stack:=S' } { p with at_:=p.at_+1,temps:=Tp,stack:=S' }
 jmp:i.op=15∨i.op=16→0≤iF.a∧(iF.a < g.at_+1↔i.a < p.at_+1)∧∀S',FR w S { g with at_:=iF.a,stack:=S' } { p with at_:=i.a,stack:=S' }
section
variable {w:Wd} {S:Int→Int→List Int} {fuel:Int}
theorem b68 (W:WOk w) {p:l6} {i:Ins} (hs:p.fast=false) (hc:p.code.length≤240) (hi:p8 p.code p.at_=some i) (hj:i.op=15∨i.op=16→0≤i.a):cI6 w S p p i i :=
 ⟨rfl,rfl,rfl,rfl,rfl,List.take_length,Nat.le_refl _,hi,rfl,rfl,rfl,fun _ _=>rfl,hc,fun T Tp S' h1 h2 h3=>by
  have:T=Tp:=by rw [←h3,List.take_of_length_le (by omega)]
  subst this
  exact .same hs,fun h=>⟨hj h,Iff.rfl,fun S'=>.same hs⟩⟩
theorem cT6 (W:WOk w) (hL:aH3 w) {g p:l6} {m:Me} {i:Ins} (h:FF w S g p m) (hst:g.stack=p.stack) (h0:0≤p.at_) (hat:g.at_=(Y9 (Z7 w S p.class_ p.method m).1 p.at_.toNat:Int))
  (hi:p8 p.code p.at_=some i) (hpl:(Z7 w S p.class_ p.method m).1[p.at_.toNat]?=some (.pl (Q0 p.at_.toNat i))) (hj:i.op=15∨i.op=16→0≤i.a∧i.a < m.code.length) :
  cI6 w S g p (aV2 (P8 (Z7 w S p.class_ p.method m).1 0) (Q0 p.at_.toNat i)) i:=by
 obtain ⟨e1,e2,e3⟩:=dG9 (P8 (Z7 w S p.class_ p.method m).1 0) (Q0 p.at_.toNat i)
 obtain ⟨d1,d2,d3,d4⟩:=c42 p.at_.toNat i
 have hlt:=aF7 hi
 rw [h.codeP] at hlt
 have hT:p.temps.length≤g.temps.length:=by
  have h1:=h.len
  have h2:=h.tlen
  have:m.temps≤(Z7 w S p.class_ p.method m).2:=aN0 w hL (S p.class_ p.method) m.code.length m.code 0 0 m.temps
  omega
 refine ⟨hst,h.self,h.args,h.cls,h.mth,h.tk,hT,by rw [hat]; exact h.at_pl hpl,by rw [e1,d1],by rw [e3,d4],by rw [e2,d3],fun a1 a2=>by rw [dL1 _ _ (by rw [d1]; exact a1) (by rw [d1]; exact a2),d2],(h.clen W).1,fun T Tp S' b1 b2 b3=>?_,fun hop=>?_⟩
 ·refine .fast (m:=m) ⟨h.fast,h.slow,h.cls,h.mth,h.self,h.args,h.meth,h.codeP,h.codeF,by simp only; rw [b1]; exact h.len,by simp only; rw [b2]; exact h.tlen,by simp only; rw [b2]; exact b3⟩ rfl (by simp only; omega) ?_
  simp only
  rw [show (p.at_+1).toNat=p.at_.toNat+1 by omega,b54 hpl,hat]
  simp [L8.len]
 ·obtain ⟨j0,j1⟩:=hj hop
  have hjl:i.a.toNat < (Z7 w S p.class_ p.method m).1.length:=by rw [cQ0]; omega
  have hto:(aV2 (P8 (Z7 w S p.class_ p.method m).1 0) (Q0 p.at_.toNat i)).a=((Y9 (Z7 w S p.class_ p.method m).1 i.a.toNat:Nat):Int):=by
   rw [dG5 _ _ (by rw [d1]; exact hop),d2,b25 _ 0 _ hjl,Nat.zero_add]
   rfl
  rw [hto]
  refine ⟨by omega,?_,fun S'=>.fast (m:=m) ⟨h.fast,h.slow,h.cls,h.mth,h.self,h.args,h.meth,h.codeP,h.codeF,h.len,h.tlen,h.tk⟩ rfl j0 rfl⟩
  rw [hat]
  have hpl2:p.at_.toNat < (Z7 w S p.class_ p.method m).1.length:=by rw [cQ0]; omega
  constructor
  ·intro hh
   by_cases hc:i.a < p.at_+1
   ·exact hc
   ·have:=cL7 (l:=(Z7 w S p.class_ p.method m).1) (p:=p.at_.toNat) (q:=i.a.toNat) (by omega) (by omega)
    omega
  ·intro hh
   by_cases hc:i.a.toNat=p.at_.toNat
   ·rw [hc]; omega
   ·have:=cL7 (l:=(Z7 w S p.class_ p.method m).1) (p:=i.a.toNat) (q:=p.at_.toNat) (by omega) (by omega)
    omega
theorem cB6 {f:l6} {v:V} (h:f.stack.getLast?=some v):aD4 f=some (v,{ f with stack:=f.stack.dropLast }):=by
 unfold aD4
 rw [h]
 rfl
theorem cE9 (W:WOk w) (hL:aH3 w) {a b b':Cf} {g p:l6} {G P:List l6} {iF i:Ins} (hS:aA2 a b) (ha:a.fs=g::G) (hb:b.fs=p::P) (hF:FRs w S G P) (R:cI6 w S g p iF i) (he:b.err=0) (I:aF4 w fuel b) (Wk0:Wk w (qF w S) a)
  (hi:p8 p.code p.at_=some i) (hop:i.op≤17) (hst:M5 w fuel (fun _ k s=>y9 w s k) noQ b=some b') :
  ∃a',aB9 w fuel (fun _ k s=>y9 w s k) (qF w S) a a'∧aA2 a' b'∧(b'.err=0→FRs w S a'.fs b'.fs):=by
 have hea:a.err=0:=by rw [hS.err]; exact he
 have hgl:=aF7 R.at_
 have hglen:=R.clen
 have hpg:Q3 { g with at_:=g.at_+1 }+1=Q3 g:=bA3 hgl.2
 have step:∀a',M5 w fuel (fun _ k s=>y9 w s k) (qF w S) a=some a'→mu fuel a' < mu fuel a→aB9 w fuel (fun _ k s=>y9 w s k) (qF w S) a a':=fun a' h1 h2=>.step hea (by rw [ha]; simp) Wk0 h1 h2 (.refl _)
 have hat:M5 w fuel (fun _ k s=>y9 w s k) (qF w S) a=(if iF.op=14 then bL1 w fuel (fun _ k s=>y9 w s k) (qF w S) a { g with at_:=g.at_+1 } G iF g.at_
  else if iF.op=15 then some (aA9 a { g with at_:=g.at_+1 } G iF.a)
  else if iF.op=16 then (aD4 { g with at_:=g.at_+1 }).map (bL5 a G iF)
  else if iF.op=17 then (aD4 { g with at_:=g.at_+1 }).map fun q=>Z8 { a with fs:=G } q.1
  else if iF.op=18 then bO4 w a { g with at_:=g.at_+1 } G iF
  else if iF.op=21 then some (aW5 fuel { a with fs:={ g with at_:=g.at_+1 }::G })
  else bK9 w a { g with at_:=g.at_+1 } G iF):=by
  unfold M5
  rw [ha]
  simp only [R.at_,Option.bind_some]
 rw [R.op] at hat
 unfold M5 at hst
 rw [hb] at hst
 simp only [hi,Option.bind_some] at hst
 have hto:∀(X:List V) (to to':Int),0≤to→(to < g.at_+1↔to' < p.at_+1)→FR w S { g with at_:=to,stack:=X } { p with at_:=to',stack:=X } →
   aA2 (aA9 a { g with at_:=g.at_+1,stack:=X } G to) (aA9 b { p with at_:=p.at_+1,stack:=X } P to')∧FRs w S (aA9 a { g with at_:=g.at_+1,stack:=X } G to).fs (aA9 b { p with at_:=p.at_+1,stack:=X } P to').fs ∧
   mu fuel (aA9 a { g with at_:=g.at_+1,stack:=X } G to) < mu fuel a:=by
  intro X to to' h0 hiff hfr
  have ht:=I.turns
  unfold aA9
  simp only
  by_cases hc:to < g.at_+1
  ·rw [if_pos hc,if_pos (hiff.1 hc)]
   refine ⟨⟨hS.heap,hS.sends,by simp only; rw [hS.turns],hS.back,by simp only; rw [hS.turns,hS.err]⟩,.cons hfr hF,?_⟩
   have:=hS.turns
   have e1:Q3 { g with at_:=to,stack:=X }≤Q3 g+240:=by
    unfold Q3
    simp only
    omega
   simp only [mu,ha,List.map_cons,List.sum_cons]
   omega
  ·rw [if_neg hc,if_neg (fun h=>hc (hiff.2 h))]
   refine ⟨⟨hS.heap,hS.sends,hS.turns,hS.back,hS.err⟩,.cons hfr hF,?_⟩
   have e1:Q3 { g with at_:=to,stack:=X }+1≤Q3 g:=by
    unfold Q3
    simp only
    omega
   simp only [mu,ha,List.map_cons,List.sum_cons]
   omega
 by_cases h14:i.op=14
 ·rw [if_pos h14] at hst hat
  obtain ⟨x,cl,m,k0,k1,hy,hc,hm,h⟩:=aY2 hst
  simp only at k1 hy hc hm
  have ea:iF.a=i.a:=R.a (by omega) (by omega)
  have key:M5 w fuel (fun _ k s=>y9 w s k) (qF w S) a=(if (y9 w i.name (D9 b.heap x)).2 < 0 then some (I6 { a with fs:={ g with at_:=g.at_+1 }::G,ev:=a.ev++[(aD5 { g with at_:=g.at_+1 } m iF g.at_,D9 b.heap x)] } 10)
    else aG8 w fuel (qF w S) { a with fs:={ g with at_:=g.at_+1,stack:=p.stack.take (p.stack.length - i.a.toNat - 1) }::G,ev:=a.ev++[(aD5 { g with at_:=g.at_+1 } m iF g.at_,D9 b.heap x)] }
     (y9 w i.name (D9 b.heap x)).1 (y9 w i.name (D9 b.heap x)).2 x (p.stack.drop (p.stack.length - i.a.toNat))):=by
   rw [hat]
   unfold bL1
   simp only [ea,R.st,R.nm,R.cls,R.mth,hS.heap]
   rw [if_pos ⟨k0,k1⟩]
   simp only [hy,hc,hm,Option.bind_some]
  rcases h with ⟨h2,rfl⟩|⟨h2,h⟩
  ·rw [if_pos h2] at key
   refine ⟨_,step _ key ?_,⟨hS.heap,hS.sends,hS.turns,hS.back,rfl⟩,fun e=>by cases e⟩
   simp only [mu,ha,I6,List.map_cons,List.sum_cons]
   omega
  ·rw [if_neg (by omega)] at key
   have hfr:=R.next g.temps p.temps (p.stack.take (p.stack.length - i.a.toNat - 1)) rfl rfl R.tk
   obtain ⟨a',q1,q2,q3⟩:=cG6 (fuel:=fuel) W hL (a:={ a with fs:={ g with at_:=g.at_+1,stack:=p.stack.take (p.stack.length - i.a.toNat - 1) }::G,ev:=a.ev++[(aD5 { g with at_:=g.at_+1 } m iF g.at_,D9 b.heap x)] })
    (by exact ⟨hS.heap,hS.sends,hS.turns,hS.back,hS.err⟩) (by exact .cons hfr hF) h
   rw [←key] at q1
   refine ⟨a',step a' q1 ?_,q2,fun _=>q3⟩
   rw [key] at q1
   obtain ⟨x2,m2,hx2,hm2,hh⟩:=aP4 q1
   have e0:Q3 { g with at_:=g.at_+1,stack:=p.stack.take (p.stack.length - i.a.toNat - 1) }+1=Q3 g:=hpg
   rcases hh with ⟨_,rfl⟩|⟨_,_,rfl⟩|⟨_,hfu,_,v,_,hh⟩|⟨_,_,_,_,rfl⟩|⟨_,hfu,_,_,rfl⟩
   ·simp only [mu,ha,I6,List.map_cons,List.sum_cons]; omega
   ·simp only [mu,ha,I6,List.map_cons,List.sum_cons]; omega
   ·rcases hh with ⟨_,rfl⟩|⟨_,rfl⟩
    ·simp only at hfu
     simp only [mu,ha,I6,List.map_cons,List.sum_cons]; omega
    ·rw [bN4]
     simp only at hfu
     simp only [mu,ha,List.map_cons,List.sum_cons]; omega
   ·simp only [mu,ha,I6,List.map_cons,List.sum_cons]; omega
   ·simp only at hfu
    have hnew:Q3 (aR6 (qF w S) (y9 w i.name (D9 b.heap x)).1 (y9 w i.name (D9 b.heap x)).2 m2 x (p.stack.drop (p.stack.length - i.a.toNat)))≤320:=by
     have hfr2:=b50 (S:=S) W hL hx2 hm2 (W.temps x2 (U0 hx2) m2 (U0 hm2)).1 x (p.stack.drop (p.stack.length - i.a.toNat))
     have hc60:=W.code x2 (U0 hx2) m2 (U0 hm2)
     generalize hg:aR6 (qF w S) (y9 w i.name (D9 b.heap x)).1 (y9 w i.name (D9 b.heap x)).2 m2 x (p.stack.drop (p.stack.length - i.a.toNat))=ng at hfr2
     have hat0:ng.at_=0:=by rw [←hg]; unfold aR6; split<;>rfl
     unfold Q3
     rw [hat0]
     have hcl:ng.code.length≤240:=by
      cases hfr2 with
      |same hs=>rw [aY3 (fun _ _=>rfl)]; simp only; omega
      |fast hff=>exact (hff.clen W).1
     split<;>omega
    simp only [mu,ha,List.map_cons,List.sum_cons]
    omega
 rw [if_neg h14] at hst hat
 by_cases h15:i.op=15
 ·rw [if_pos h15] at hst hat
  cases hst
  obtain ⟨j0,j1,j2⟩:=R.jmp (.inl h15)
  obtain ⟨q1,q2,q3⟩:=hto p.stack iF.a i.a j0 j1 (j2 p.stack)
  rw [←R.st] at q1 q2 q3
  refine ⟨_,step _ hat q3,?_,fun _=>?_⟩
  ·rw [R.st] at q1 ⊢; exact q1
  ·rw [R.st] at q2 ⊢; exact q2
 rw [if_neg h15] at hst hat
 by_cases h16:i.op=16
 ·rw [if_pos h16] at hst hat
  rw [Option.map_eq_some_iff] at hst
  obtain ⟨⟨v,f2⟩,hv,rfl⟩:=hst
  obtain ⟨hv1,hv2⟩:=U5 hv
  simp only at hv1 hv2
  subst hv2
  have hg:aD4 { g with at_:=g.at_+1 }=some (v,{ g with at_:=g.at_+1,stack:=p.stack.dropLast }):=by
   rw [cB6 (f:={ g with at_:=g.at_+1 }) (v:=v) (by rw [show ({ g with at_:=g.at_+1 }:l6).stack=g.stack from rfl,R.st]; exact hv1)]
   simp only [R.st]
  rw [hg] at hat
  simp only [Option.map_some] at hat
  have hn:=R.next g.temps p.temps p.stack.dropLast rfl rfl R.tk
  obtain ⟨j0,j1,j2⟩:=R.jmp (.inr h16)
  unfold bL5 at hat ⊢
  by_cases k1:v.k=1
  ·rw [if_pos k1] at hat ⊢
   obtain ⟨q1,q2,q3⟩:=hto p.stack.dropLast iF.a i.a j0 j1 (j2 p.stack.dropLast)
   exact ⟨_,step _ hat q3,q1,fun _=>q2⟩
  ·rw [if_neg k1] at hat ⊢
   have hm:mu fuel { a with fs:={ g with at_:=g.at_+1,stack:=p.stack.dropLast }::G } < mu fuel a:=by
    have e0:Q3 { g with at_:=g.at_+1,stack:=p.stack.dropLast }+1=Q3 g:=hpg
    simp only [mu,ha,List.map_cons,List.sum_cons]
    omega
   by_cases k2:v.k=2
   ·rw [if_pos k2] at hat ⊢
    exact ⟨_,step _ hat hm,⟨hS.heap,hS.sends,hS.turns,hS.back,hS.err⟩,fun _=>.cons hn hF⟩
   ·rw [if_neg k2] at hat ⊢
    exact ⟨_,step _ hat hm,⟨hS.heap,hS.sends,hS.turns,hS.back,rfl⟩,fun e=>by cases e⟩
 rw [if_neg h16] at hst hat
 by_cases h17:i.op=17
 ·rw [if_pos h17] at hst hat
  rw [Option.map_eq_some_iff] at hst
  obtain ⟨⟨v,f2⟩,hv,rfl⟩:=hst
  obtain ⟨hv1,_⟩:=U5 hv
  simp only at hv1
  rw [cB6 (f:={ g with at_:=g.at_+1 }) (v:=v) (by rw [show ({ g with at_:=g.at_+1 }:l6).stack=g.stack from rfl,R.st]; exact hv1)] at hat
  obtain ⟨q1,q2⟩:=cL0 (w:=w) (S:=S) (a:={ a with fs:=G }) (b:={ b with fs:=P }) ⟨hS.heap,hS.sends,hS.turns,hS.back,hS.err⟩ hF v
  refine ⟨_,step _ hat ?_,q1,fun _=>q2⟩
  rw [bN4]
  simp only [mu,ha,List.map_cons,List.sum_cons]
  omega
 rw [if_neg h17,if_neg (show ¬i.op=18 by omega),if_neg (show ¬i.op=21 by omega)] at hst hat
 rw [bY8 w b he,Option.map_eq_some_iff] at hst
 obtain ⟨r,hr,rfl⟩:=hst
 simp only at hr
 rw [←R.tk] at hr
 obtain ⟨T',t1,t2,t3,t4⟩:=dC0 R.tl hr
 rw [bY8 w a hea] at hat
 simp only at hat
 have t1':mvL w a.heap g.self_ g.args g.temps g.stack iF=some (r.1,T',r.2.2.1,r.2.2.2):=by
  rw [c35 (i:=i) R.op (R.a h15 h16) R.b,R.self,R.args,R.st,hS.heap,t1]
 rw [t1'] at hat
 simp only [Option.map_some] at hat
 refine ⟨_,step _ hat ?_,⟨rfl,hS.sends,hS.turns,hS.back,rfl⟩,fun _=>.cons ?_ hF⟩
 ·have e0:Q3 { g with at_:=g.at_+1,temps:=T',stack:=r.2.2.1 }+1=Q3 g:=hpg
  simp only [mu,mvC,ha,List.map_cons,List.sum_cons]
  omega
 ·exact R.next T' r.2.1 r.2.2.1 t3 t4 t2
end
end Go.Proofs.Ytkecefjmcimemaa
