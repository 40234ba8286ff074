import Derived.Test.YtkecefjmcimemaaPl32
/- Whoever stands in does the same: within. No program in sight. -/
namespace Go.Proofs.Ytkecefjmcimemaa
open Go.RowKit
set_option linter.unusedVariables false
theorem dI5 {s:Int} {y:Me} {f:Int} {i:Ins} (h:i.op≤13):¬(14≤(V5 s y f i).op∧(V5 s y f i).op≤18)∧(V5 s y f i).op≠21:=by
 unfold V5
 (repeat' split)<;>simp only<;>omega
section
variable {w:Wd} {S:Int→Int→List Int} {fuel:Int}
theorem InP.go {g h p:l6} {m y:Me} {q:Nat} {s c:Int} (X:InP w S g h p m y q s c) {T Tp A:List V} {to:Int} (h0:0≤to) (hT:TIn T s y h.self_ h.args Tp) (hle:T.length=g.temps.length) (ht:∀n:Nat,(n:Int)≤s→T.take n=g.temps.take n) :
  InP w S { g with at_:=((Y9 (Z7 w S p.class_ p.method m).1 q+hl y:Nat):Int)+to,temps:=T,stack:=p.stack++A } { h with at_:=to,temps:=Tp,stack:=A } p m y q s c:=by
 have F:=X.ff
 have h1:=F.tlen
 have h2:=X.ms
 refine ⟨⟨F.fast,F.slow,F.cls,F.mth,F.self,F.args,F.meth,F.codeP,F.codeF,by simp only; rw [hle]; exact F.len,F.tlen,?_⟩,X.item,X.at_,X.hslow,X.hcode,h0,rfl,rfl,X.ms,hT,X.leaf⟩
 simp only
 rw [ht p.temps.length (by omega)]
 exact F.tk
theorem dM5 (W:WOk w) (hL:aH3 w) {a b b':Cf} {g h p:l6} {G P:List l6} {m y:Me} {q:Nat} {s c:Int} (hS:aA2 a b) (ha:a.fs=g::G) (hb:b.fs=h::p::P) (hF:FRs w S G P) (X:InP w S g h p m y q s c) (he:b.err=0) (I:aF4 w fuel b)
  (hst:M5 w fuel (fun _ k s=>y9 w s k) noQ b=some b'):∃a',aB9 w fuel (fun _ k s=>y9 w s k) (qF w S) a a'∧aA2 a' b'∧(b'.err=0→CR w S a' b'):=by
 have hea:a.err=0:=by rw [hS.err]; exact he
 have Ib:=I.fs
 rw [hb] at Ib
 obtain ⟨mh,hh,Fh⟩:=Ib.1
 obtain ⟨i,_,hi,him,hlt,hslen,_,h17,_,_⟩:=Fh.len
 have hmy:mh.code=y.code:=by rw [←Fh.code]; exact X.hcode
 rw [hmy] at him
 rw [X.hcode] at hlt
 obtain ⟨hy,_⟩:=bB3 w hL (S p.class_ p.method) m.code.length m.code 0 0 m.temps y s c _ (List.mem_of_getElem? X.item)
 have hop:=hy.op i him
 have h14:i.op≠14:=cV9 X.leaf i him
 have ya:=hy.args
 have yt:=hy.temps
 have hh0:=X.hat0
 have hsz:M7 y=hl y+y.code.length:=by rw [←aC2 y s c (q:Int) 0]; simp only [aC8,List.length_cons,List.length_append,aB4,aE7,List.length_map,hl]; omega
 generalize hB:Y9 (Z7 w S p.class_ p.method m).1 q+hl y=B at *
 have hgat:g.at_=(B:Int)+h.at_:=by have:=X.hat; rw [hB] at this; exact this
 have hfi:p8 g.code g.at_=some (V5 s y (B:Int) i):=by
  have e1:=X.ff.at_pc X.item (r:=hl y+h.at_.toNat) (by omega)
  have e2:((Y9 (Z7 w S p.class_ p.method m).1 q+(hl y+h.at_.toNat):Nat):Int)=g.at_:=by omega
  rw [e2,cT9 (by omega),hB] at e1
  rw [e1]
  obtain ⟨_,e3⟩:=u6 hi
  rw [X.hcode] at e3
  rw [e3]
  rfl
 have hgl:=aF7 hfi
 have hclen:=(X.ff.clen W).1
 have hpk:∀u∈p.stack,u.k=3→aK8 u.n:=fun u hu hk=>by
  obtain ⟨mp,hp,Fp⟩:=Ib.2 p (by simp)
  exact (Fp.vstack u hu).num hk
 have hps:p.stack.length≤12:=by
  obtain ⟨mp,hp,Fp⟩:=Ib.2 p (by simp)
  obtain ⟨_,_,_,_,_,k,_⟩:=Fp.len
  omega
 have hgwk:WkF g:=⟨by rw [X.stack,List.length_append]; omega,by omega,fun v hv hk=>by
  rw [X.stack] at hv
  rcases List.mem_append.1 hv with hv|hv
  ·exact hpk v hv hk
  ·exact (Fh.vstack v hv).num hk⟩
 have hWa:Wk w (qF w S) a:=by
  have hl:=I.fl
  rw [hb,List.length_cons,List.length_cons] at hl
  have h1:=I.sends
  have h2:=hS.sends
  refine dD5 (N:=0) W hL I hS.heap (by omega) hS.turns (by rw [ha]; simp only [List.length_cons,hF.len]; omega) fun f hf=>?_
  rw [ha] at hf
  rcases List.mem_cons.1 hf with rfl|hf
  ·exact hgwk
  ·exact hF.wk W (fun r hr=>⟨1,Ib.2 r (by simp [hr])⟩) f hf
 have hpg:Q3 { g with at_:=g.at_+1 }+1=Q3 g:=bA3 hgl.2
 have step:∀a',M5 w fuel (fun _ k s=>y9 w s k) (qF w S) a=some a'→mu fuel a' < mu fuel a→aB9 w fuel (fun _ k s=>y9 w s k) (qF w S) a a':=fun a' h1 h2=>.step hea (by rw [ha]; simp) hWa h1 h2 (.refl _)
 unfold M5 at hst
 rw [hb] at hst
 simp only [hi,Option.bind_some] at hst
 have hkeep:∀n:Nat,(n:Int)≤s→g.temps.take n=g.temps.take n:=fun _ _=>rfl
 have hto:∀(A:List V) (to:Int),0≤to →
   aA2 (aA9 a { g with at_:=g.at_+1,stack:=p.stack++A } G ((B:Int)+to)) (aA9 b { h with at_:=h.at_+1,stack:=A } (p::P) to)∧CR w S (aA9 a { g with at_:=g.at_+1,stack:=p.stack++A } G ((B:Int)+to)) (aA9 b { h with at_:=h.at_+1,stack:=A } (p::P) to) ∧
   mu fuel (aA9 a { g with at_:=g.at_+1,stack:=p.stack++A } G ((B:Int)+to)) < mu fuel a:=by
  intro A to h0
  have ht:=I.turns
  have hin:=X.go (T:=g.temps) (Tp:=h.temps) (A:=A) h0 X.temps rfl hkeep
  rw [hB] at hin
  unfold aA9
  simp only
  by_cases hc:to < h.at_+1
  ·rw [if_pos (by omega),if_pos hc]
   have hs:aA2 ({ a with turns:=a.turns+1,fs:={ g with at_:=(B:Int)+to,stack:=p.stack++A }::G,err:=if 300 < a.turns+1 then 16 else a.err }:Cf) { b with turns:=b.turns+1,fs:={ h with at_:=to,stack:=A }::p::P,err:=if 300 < b.turns+1 then 16 else b.err }:=⟨hS.heap,hS.sends,by simp only; rw [hS.turns],hS.back,by simp only; rw [hS.turns,hS.err]⟩
   refine ⟨hs,.in_ hs rfl rfl hF hin,?_⟩
   have:=hS.turns
   have e1:Q3 { g with at_:=(B:Int)+to,stack:=p.stack++A }≤Q3 g+240:=by
    unfold Q3
    simp only
    omega
   simp only [mu,ha,List.map_cons,List.sum_cons]
   omega
  ·rw [if_neg (by omega),if_neg hc]
   have hs:aA2 ({ a with fs:={ g with at_:=(B:Int)+to,stack:=p.stack++A }::G }:Cf) { b with fs:={ h with at_:=to,stack:=A }::p::P }:=⟨hS.heap,hS.sends,hS.turns,hS.back,hS.err⟩
   refine ⟨hs,.in_ hs rfl rfl hF hin,?_⟩
   have e1:Q3 { g with at_:=(B:Int)+to,stack:=p.stack++A }+1≤Q3 g:=by
    unfold Q3
    simp only
    omega
   simp only [mu,ha,List.map_cons,List.sum_cons]
   omega
 rw [if_neg h14] at hst
 by_cases h15:i.op=15
 ·rw [if_pos h15] at hst
  cases hst
  have j0:=(hy.jump i him (.inl h15)).1
  obtain ⟨q1,q2,q3⟩:=hto h.stack i.a j0
  have hat:M5 w fuel (fun _ k s=>y9 w s k) (qF w S) a=some (aA9 a { g with at_:=g.at_+1,stack:=p.stack++h.stack } G ((B:Int)+i.a)):=by
   unfold M5
   rw [ha]
   simp only [hfi,Option.bind_some]
   have e:V5 s y (B:Int) i=⟨15,(B:Int)+i.a,0,0,ByteArray.empty⟩:=by unfold V5; simp [h15]
   simp only [e]
   rw [if_neg (by omega),if_pos trivial]
   congr 2
   rw [←X.stack]
  exact ⟨_,step _ hat q3,q1,fun _=>q2⟩
 rw [if_neg h15] at hst
 by_cases h16:i.op=16
 ·rw [if_pos h16,Option.map_eq_some_iff] at hst
  obtain ⟨⟨v,f2⟩,hv,rfl⟩:=hst
  obtain ⟨hv1,hv2⟩:=U5 hv
  simp only at hv1 hv2
  subst hv2
  obtain ⟨e1,e2⟩:=aW0 (a:=p.stack) hv1
  have hat:M5 w fuel (fun _ k s=>y9 w s k) (qF w S) a=some (bL5 a G ⟨16,(B:Int)+i.a,0,0,ByteArray.empty⟩ (v,{ g with at_:=g.at_+1,stack:=p.stack++h.stack.dropLast })):=by
   unfold M5
   rw [ha]
   simp only [hfi,Option.bind_some]
   have e:V5 s y (B:Int) i=⟨16,(B:Int)+i.a,0,0,ByteArray.empty⟩:=by unfold V5; simp [h16]
   simp only [e]
   rw [if_neg (by omega),if_neg (by omega),if_pos trivial,cB6 (f:={ g with at_:=g.at_+1 }) (v:=v) (by simp only; rw [X.stack]; exact e1)]
   simp only [Option.map_some,X.stack,e2]
  have j0:=(hy.jump i him (.inr h16)).1
  unfold bL5 at hat ⊢
  simp only at hat ⊢
  by_cases k1:v.k=1
  ·rw [if_pos k1] at hat ⊢
   obtain ⟨q1,q2,q3⟩:=hto h.stack.dropLast i.a j0
   exact ⟨_,step _ hat q3,q1,fun _=>q2⟩
  ·rw [if_neg k1] at hat ⊢
   have hm:mu fuel { a with fs:={ g with at_:=g.at_+1,stack:=p.stack++h.stack.dropLast }::G } < mu fuel a:=by
    have e0:Q3 { g with at_:=g.at_+1,stack:=p.stack++h.stack.dropLast }+1=Q3 g:=hpg
    simp only [mu,ha,List.map_cons,List.sum_cons]
    omega
   by_cases k2:v.k=2
   ·rw [if_pos k2] at hat ⊢
    have hs:aA2 ({ a with fs:={ g with at_:=g.at_+1,stack:=p.stack++h.stack.dropLast }::G }:Cf) { b with fs:={ h with at_:=h.at_+1,stack:=h.stack.dropLast }::p::P }:=⟨hS.heap,hS.sends,hS.turns,hS.back,hS.err⟩
    have hin:=X.go (T:=g.temps) (Tp:=h.temps) (A:=h.stack.dropLast) (to:=h.at_+1) (by omega) X.temps rfl hkeep
    rw [hB,show (B:Int)+(h.at_+1)=g.at_+1 by omega] at hin
    exact ⟨_,step _ hat hm,hs,fun _=>.in_ hs rfl rfl hF hin⟩
   ·rw [if_neg k2] at hat ⊢
    exact ⟨_,step _ hat hm,⟨hS.heap,hS.sends,hS.turns,hS.back,rfl⟩,fun e=>by cases e⟩
 rw [if_neg h16] at hst
 by_cases h17':i.op=17
 ·rw [if_pos h17',Option.map_eq_some_iff] at hst
  obtain ⟨⟨v,f2⟩,hv,rfl⟩:=hst
  obtain ⟨hv1,_⟩:=U5 hv
  simp only at hv1
  have hone:h.stack=[v]:=by
   have:=h17 h17'
   match hs:h.stack with
   |[]=>rw [hs] at this; simp at this
   |[u]=>rw [hs] at hv1; simp at hv1; rw [hv1]
   |_::_::_=>rw [hs] at this; simp at this
  have hat:M5 w fuel (fun _ k s=>y9 w s k) (qF w S) a=some { a with fs:={ g with at_:=(B:Int)+y.code.length }::G }:=by
   unfold M5
   rw [ha]
   simp only [hfi,Option.bind_some]
   have e:V5 s y (B:Int) i=⟨15,(B:Int)+y.code.length,0,0,ByteArray.empty⟩:=by unfold V5; simp [h17']
   simp only [e]
   rw [if_neg (by omega),if_pos trivial]
   unfold aA9
   simp only
   rw [if_neg (by omega)]
  have hs:aA2 ({ a with fs:={ g with at_:=(B:Int)+y.code.length }::G }:Cf) (Z8 { b with fs:=p::P } v):=⟨hS.heap,hS.sends,hS.turns,hS.back,hS.err⟩
  refine ⟨_,step _ hat ?_,hs,fun _=>.out hs ?_⟩
  ·have e0:Q3 { g with at_:=(B:Int)+y.code.length }+1≤Q3 g:=by
    unfold Q3
    simp only
    omega
   simp only [mu,ha,List.map_cons,List.sum_cons]
   omega
  ·have F:=X.ff
   have hpa:=X.at_
   refine .cons (.fast (m:=m) ⟨F.fast,F.slow,F.cls,F.mth,F.self,F.args,F.meth,F.codeP,F.codeF,F.len,F.tlen,F.tk⟩ ?_ (by simp only [J5]; omega) ?_) hF
   ·simp only [J5]
    rw [X.stack,hone]
   ·simp only [J5]
    rw [hpa,show ((q:Int)+1).toNat=q+1 by omega,b54 X.item]
    simp only [L8.len]
    omega
 rw [if_neg h17',if_neg (by omega),if_neg (by omega),bY8 w b he,Option.map_eq_some_iff] at hst
 obtain ⟨r,hr,rfl⟩:=hst
 simp only at hr
 obtain ⟨T',t1,t2,t3,t4⟩:=dG8 (gs:=g.self_) (gargs:=g.args) (base:=p.stack) (f:=(B:Int)) X.temps (by omega) hop.1 hr
 obtain ⟨o1,o2⟩:=dI5 (s:=s) (y:=y) (f:=(B:Int)) (i:=i) (by omega)
 rw [←X.stack,←hS.heap] at t1
 have hat:=bZ1 (fuel:=fuel) (w:=w) hea ha hfi o1 o2 t1 (fun _ k s=>y9 w s k) (qF w S)
 have hs:aA2 (mvC a { g with at_:=g.at_+1 } G (r.1,T',p.stack++r.2.2.1,r.2.2.2)) (mvC b { h with at_:=h.at_+1 } (p::P) r):=⟨rfl,hS.sends,hS.turns,hS.back,rfl⟩
 refine ⟨_,step _ hat ?_,hs,fun _=>?_⟩
 ·have e0:Q3 { g with at_:=g.at_+1,temps:=T',stack:=p.stack++r.2.2.1 }+1=Q3 g:=hpg
  simp only [mu,mvC,ha,List.map_cons,List.sum_cons]
  omega
 ·have hin:=X.go (A:=r.2.2.1) (to:=h.at_+1) (by omega) t2 t3 t4
  rw [hB,show (B:Int)+(h.at_+1)=g.at_+1 by omega] at hin
  exact .in_ hs rfl rfl hF hin
end
end Go.Proofs.Ytkecefjmcimemaa
