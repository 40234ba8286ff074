import Derived.Test.YtkecefjmcimemaaPl31
/- Whoever stands in does the same: the way in. No program in sight. -/
namespace Go.Proofs.Ytkecefjmcimemaa
open Go.RowKit
set_option linter.unusedVariables false
section
variable {w:Wd} {S:Int→Int→List Int} {fuel:Int}
theorem cN7 (W:WOk w) (hL:aH3 w) {a b:Cf} (hS:aA2 a b) {G P:List l6} {p:l6} (hb:b.fs=p::P) (hF:FRs w S G P) (I:aF4 w fuel b) {n:Int} (hn:n=a.sends∨n=a.sends+1):∀g,WkF g→Wk w (qF w S) { a with fs:=g::G,sends:=n }:=fun g hg=>by
 have Ib:=I.fs
 rw [hb] at Ib
 have hl:=I.fl
 rw [hb,List.length_cons] at hl
 have h1:=I.sends
 have h2:=hS.sends
 refine dD5 (N:=0) W hL I hS.heap (by simp only; omega) hS.turns (by simp only [List.length_cons,hF.len]; omega) fun f hf=>?_
 rcases List.mem_cons.1 hf with rfl|hf
 ·exact hg
 ·exact hF.wk W (fun q hq=>⟨1,Ib.2 q hq⟩) f hf
theorem cW4 {y:Me} (h:aP1 y=true):y.prim=0:=by
 unfold aP1 at h
 simp only [Bool.and_eq_true,decide_eq_true_eq] at h
 exact h.1
theorem cZ9 (W:WOk w) (hL:aH3 w) {a b b':Cf} {g p:l6} {G P:List l6} {m y:Me} {i:Ins} {s c t:Int} {sz:Nat} (hS:aA2 a b) (ha:a.fs=g::G) (hb:b.fs=p::P) (hF:FRs w S G P) (h:FF w S g p m) (hst:g.stack=p.stack) (h0:0≤p.at_)
  (hat:g.at_=(Y9 (Z7 w S p.class_ p.method m).1 p.at_.toNat:Int)) (he:b.err=0) (I:aF4 w fuel b) (hi:p8 p.code p.at_=some i) (hcl:aE8 w (S p.class_ p.method) m.code.length p.at_.toNat i sz t=some (y,c))
  (hpc:(Z7 w S p.class_ p.method m).1[p.at_.toNat]?=some (.pc y s c (p.at_.toNat:Int))) (hms:m.temps≤s) (htot:s+1+y.args+y.temps≤(Z7 w S p.class_ p.method m).2) (hb':M5 w fuel (fun _ k s=>y9 w s k) noQ b=some b') :
  ∃a',aB9 w fuel (fun _ k s=>y9 w s k) (qF w S) a a'∧aA2 a' b'∧(b'.err=0→CR w S a' b'):=by
 obtain ⟨h14,_,_,hmeth,hlf,hargs,_,_⟩:=aT8 hcl
 obtain ⟨hy,_⟩:=bB3 w hL (S p.class_ p.method) m.code.length m.code 0 0 m.temps y s c _ (List.mem_of_getElem? hpc)
 have ya:=hy.args
 have yt:=hy.temps
 have hea:a.err=0:=by rw [hS.err]; exact he
 have Ib:=I.fs
 rw [hb] at Ib
 obtain ⟨mp,hh,Fp⟩:=Ib.1
 obtain ⟨_,_,_,_,_,hplen,_⟩:=Fp.len
 have hgwk:WkF g:=(FR.fast h hst h0 hat).wk W Ib.1
 have hpwk:WkF p:=⟨by omega,by have:=(h.clen W).2; omega,fun v hv hk=>(Fp.vstack v hv).num hk⟩
 have hW0:=cN7 W hL hS hb hF I (.inl rfl)
 have hW1:=cN7 W hL hS hb hF I (.inr rfl)
 have hab:({ a with fs:=g::G }:Cf)=a:=by rw [←ha]
 have hWa:Wk w (qF w S) a:=by have:=hW0 g hgwk; rw [←ha] at this; exact this
 have hms0:0≤m.temps:=by have:=h.tlen; omega
 have hgl:=h.len
 have htl:=h.tlen
 have hcode:∀r,r < M7 y→p8 g.code (g.at_+(r:Nat))=(aC8 y s c (p.at_.toNat:Int) (Y9 (Z7 w S p.class_ p.method m).1 p.at_.toNat))[r]?:=fun r hr=>by
  rw [hat,←Int.natCast_add]
  exact h.at_pc hpc hr
 have hsz:M7 y=3+y.args.toNat+2*y.temps.toNat+y.code.length:=by rw [←aC2 y s c (p.at_.toNat:Int) 0]; simp only [aC8,List.length_cons,List.length_append,aB4,aE7,List.length_map]; omega
 have hi0:p8 g.code g.at_=some ⟨18,c,y.args,(p.at_.toNat:Int),ByteArray.empty⟩:=by
  have:=hcode 0 (by omega)
  simpa [aC8] using this
 have hi1:p8 g.code (g.at_+1)=some ⟨21,0,0,0,ByteArray.empty⟩:=by
  have:=hcode 1 (by omega)
  simpa [aC8] using this
 have hl0:=aF7 hi0
 have hl1:=aF7 hi1
 have hb0:=hb'
 unfold M5 at hb'
 rw [hb] at hb'
 simp only [hi,Option.bind_some,if_pos h14] at hb'
 obtain ⟨x,cl,mm,k0,k1,hx,hcls,hmm,hsend⟩:=aY2 hb'
 simp only at k1 hx hcls hmm
 have hguard:M5 w fuel (fun _ k s=>y9 w s k) (qF w S) a=if D9 a.heap x=c then some { a with fs:={ g with at_:=g.at_+1 }::G } else some { a with fs:=p::G }:=by
  unfold M5
  rw [ha]
  simp only [hi0,Option.bind_some]
  rw [if_neg (by omega),if_neg (by omega),if_neg (by omega),if_neg (by omega),if_pos trivial]
  unfold bO4
  simp only
  rw [hst,if_pos ⟨by omega,by omega⟩,show p.stack.length - 1 - y.args.toNat=p.stack.length - i.a.toNat - 1 by omega,hx]
  simp only [Option.bind_some]
  by_cases hc:D9 a.heap x=c
  ·rw [if_pos hc,if_pos hc]
  ·rw [if_neg hc,if_neg hc,h.cls,h.mth]
   obtain ⟨x2,e1,e2⟩:=h.meth
   rw [e1]
   simp only [Option.bind_some]
   rw [e2]
   simp only [Option.bind_some]
   rw [if_pos ⟨hms0,by have:=h.tk; have:=congrArg List.length this; simp only [List.length_take] at this; omega⟩]
   have:({ g with at_:=(p.at_.toNat:Int),fast:=false,code:=m.code,temps:=g.temps.take m.temps.toNat }:l6)=p:=by
    have e3:g.temps.take m.temps.toNat=p.temps:=by rw [show m.temps.toNat=p.temps.length by omega]; exact h.tk
    rw [e3]
    obtain ⟨c1,c2,c3,c4,c5,c6,c7,c8,c9⟩:=p
    have q1:=h.cls; have q2:=h.mth; have q3:=h.slow; have q4:=h.codeP; have q5:=h.self; have q6:=h.args
    simp only at q1 q2 q3 q4 q5 q6 hst h0 ⊢
    simp only [q1,q2,q3,q4,q5,q6,hst,l6.mk.injEq,true_and,and_true]
    omega
   simp only [h.cls,h.mth,hst] at this ⊢
   rw [this]
 by_cases hc:D9 a.heap x=c
 ·rw [if_pos hc] at hguard
  have hcb:D9 b.heap x=c:=by rw [←hS.heap]; exact hc
  have st1:aB9 w fuel (fun _ k s=>y9 w s k) (qF w S) a { a with fs:={ g with at_:=g.at_+1 }::G }:=aX1 hea ha hWa hguard rfl rfl rfl (Nat.le_of_eq (bA3 hl0.2))
  have hwk1:WkF { g with at_:=g.at_+1 }:=⟨hgwk.stack,hgwk.code,hgwk.num⟩
  have hcount:M5 w fuel (fun _ k s=>y9 w s k) (qF w S) { a with fs:={ g with at_:=g.at_+1 }::G }=some (aW5 fuel { a with fs:={ g with at_:=g.at_+2 }::G }):=by
   unfold M5
   simp only [hi1,Option.bind_some]
   rw [if_neg (by omega),if_neg (by omega),if_neg (by omega),if_neg (by omega),if_neg (by omega),if_pos trivial,show g.at_+1+1=g.at_+2 by omega]
  have hpot2:Q3 { g with at_:=g.at_+2 }+1≤Q3 { g with at_:=g.at_+1 }:=by
   unfold Q3
   simp only
   omega
  have hlen:=hF.len
  unfold bK5 at hmeth
  split at hmeth
  ·cases hmeth
  rename_i hf0
  obtain ⟨x3,e3,e4⟩:=j4 hmeth
  rw [hcb] at hsend
  rcases hsend with ⟨h2,_⟩|⟨_,hent⟩
  ·omega
  obtain ⟨x4,m4,e5,e6,hcase⟩:=aP4 hent
  rw [e3] at e5
  cases e5
  rw [e4] at e6
  cases e6
  have hdl:(p.stack.drop (p.stack.length - i.a.toNat)).length=i.a.toNat:=by rw [List.length_drop]; omega
  rcases hcase with ⟨k2,_⟩|⟨_,k3,rfl⟩|⟨_,_,k4,_⟩|⟨_,k3,_,k5,rfl⟩|⟨_,k3,_,k5,rfl⟩
  ·simp only at k2; omega
  ·have e7:aW5 fuel { a with fs:={ g with at_:=g.at_+2 }::G }=I6 { a with fs:={ g with at_:=g.at_+2 }::G } 13:=by
    unfold aW5
    simp only at k3
    rw [if_pos (by simp only; rw [hS.sends]; exact k3)]
   rw [e7] at hcount
   exact ⟨_,st1.trans (aX1 (a:={ a with fs:={ g with at_:=g.at_+1 }::G }) hea rfl (hW0 _ hwk1) hcount rfl rfl rfl hpot2),⟨hS.heap,hS.sends,hS.turns,hS.back,rfl⟩,fun hz=>by cases hz⟩
  ·exact absurd (cW4 hlf) k4
  ·have e7:aW5 fuel { a with fs:={ g with at_:=g.at_+2 }::G }=I6 { a with fs:={ g with at_:=g.at_+2 }::G } 14:=by
    unfold aW5
    simp only [List.length_cons] at k3 k5
    rw [if_neg (by simp only; rw [hS.sends]; omega),if_pos (by simp only [List.length_cons]; omega)]
   rw [e7] at hcount
   exact ⟨_,st1.trans (aX1 (a:={ a with fs:={ g with at_:=g.at_+1 }::G }) hea rfl (hW0 _ hwk1) hcount rfl rfl rfl hpot2),⟨hS.heap,hS.sends,hS.turns,hS.back,rfl⟩,fun hz=>by cases hz⟩
  ·simp only [List.length_cons] at k3 k5
   have e7:aW5 fuel { a with fs:={ g with at_:=g.at_+2 }::G }={ a with fs:={ g with at_:=g.at_+2 }::G,sends:=a.sends+1 }:=by
    unfold aW5
    rw [if_neg (by simp only; rw [hS.sends]; omega),if_neg (by simp only [List.length_cons]; omega)]
   rw [e7] at hcount
   have st2:aB9 w fuel (fun _ k s=>y9 w s k) (qF w S) { a with fs:={ g with at_:=g.at_+1 }::G } { a with fs:={ g with at_:=g.at_+2 }::G,sends:=a.sends+1 }:=by
    refine .step hea (by simp) (hW0 _ hwk1) hcount ?_ (.refl _)
    have:=hS.sends
    simp only [mu,List.map_cons,List.sum_cons]
    omega
   have hX:p.stack=p.stack.take (p.stack.length - i.a.toNat - 1)++(x::p.stack.drop (p.stack.length - i.a.toNat)):=by
    obtain ⟨hxl,hxe⟩:=List.getElem?_eq_some_iff.1 hx
    have:=List.drop_eq_getElem_cons hxl
    rw [hxe,show p.stack.length - i.a.toNat - 1+1=p.stack.length - i.a.toNat by omega] at this
    rw [←this,List.take_append_drop]
   generalize hXd:p.stack.take (p.stack.length - i.a.toNat - 1)=X at hX
   generalize hAd:p.stack.drop (p.stack.length - i.a.toNat)=A at hX hdl
   have hXl:X.length≤12:=by have:=congrArg List.length hX; simp only [List.length_append,List.length_cons] at this; omega
   have hwk2:WkF { g with at_:=g.at_+2 }:=⟨hgwk.stack,hgwk.code,hgwk.num⟩
   obtain ⟨T1,t1,t2,t3,t4⟩:=cJ7 (w:=w) (S:=S) (fuel:=fuel) (a:={ a with sends:=a.sends+1 }) (G:=G) hea hW1 (s:=s) (by omega) (X:=X) (y.args.toNat+1) (x::A) { g with at_:=g.at_+2 } (by simp only [List.length_cons]; omega) (by simp only; rw [hst]; exact hX) (by simp only; omega) (fun r hr=>by
    have:=hcode (r+2) (by omega)
    simp only [aC8,List.getElem?_cons_succ,List.append_assoc] at this
    rw [List.getElem?_append_left (by rw [aB4]; exact hr)] at this
    rw [←this]
    congr 1
    simp only
    omega) (by simp only; omega) hwk2
   have hwk3:WkF { g with at_:=g.at_+2+((y.args.toNat+1:Nat):Int),temps:=T1,stack:=X }:=⟨by simp only; omega,hgwk.code,fun v hv hk=>hgwk.num v (by rw [hst,hX]; exact List.mem_append_left _ hv) hk⟩
   obtain ⟨T2,u1,u2,u3,u4⟩:=cF3 (w:=w) (S:=S) (fuel:=fuel) (a:={ a with sends:=a.sends+1 }) (G:=G) hea hW1 (b:=s+1+y.args) (by omega) y.temps.toNat 0 { g with at_:=g.at_+2+((y.args.toNat+1:Nat):Int),temps:=T1,stack:=X } (by simp only; omega) (fun r hr=>by
    have:=hcode (y.args.toNat+1+r+2) (by omega)
    simp only [aC8,List.getElem?_cons_succ,List.append_assoc] at this
    rw [List.getElem?_append_right (by rw [aB4]; omega),aB4,show y.args.toNat+1+r - (y.args.toNat+1)=r by omega,List.getElem?_append_left (by rw [aE7]; exact hr)] at this
    rw [←this]
    congr 1
    simp only
    omega) (by simp only at t2 ⊢; omega) hwk3 (by simp only; omega)
   simp only at t2 t3 t4 u2 u3 u4
   have hlo:∀j,j < s.toNat→T2[j]?=g.temps[j]?:=fun j hj=>by rw [u3 j (by omega),t3 j (by omega)]
   have hmid:∀j,j < s.toNat+1+y.args.toNat→T2[j]?=T1[j]?:=fun j hj=>u3 j (by omega)
   refine ⟨_,st1.trans (st2.trans (t1.trans u1)),⟨hS.heap,by simp only; rw [hS.sends],hS.turns,hS.back,hS.err⟩,fun _=>?_⟩
   rw [aY3 (fun _ _=>rfl)]
   refine .in_ (q:=p.at_.toNat) (m:=m) (y:=y) (s:=s) (c:=c) ⟨hS.heap,by simp only; rw [hS.sends],hS.turns,hS.back,hS.err⟩ rfl rfl hF ⟨⟨h.fast,h.slow,h.cls,h.mth,h.self,h.args,h.meth,h.codeP,h.codeF,by simp only; omega,h.tlen,?_⟩,hpc,by simp only; omega,rfl,rfl,Int.le_refl _,?_,by simp only; rw [List.append_nil],hms,⟨by omega,by simp only; omega,ya.1,yt.1,by simp only; omega,by simp only [List.length_replicate]; omega,?_,fun j v hv=>?_,fun j v hv=>?_⟩,hlf⟩
   ·simp only
    rw [←h.tk]
    apply List.ext_getElem?
    intro j
    rw [List.getElem?_take,List.getElem?_take]
    by_cases hj:j < p.temps.length
    ·have hlt2:(List.take p.temps.length g.temps).length=p.temps.length:=by rw [h.tk]
     rw [hlt2,if_pos hj,if_pos hj,hlo j (by omega)]
    ·have hlt2:(List.take p.temps.length g.temps).length=p.temps.length:=by rw [h.tk]
     rw [hlt2,if_neg hj,if_neg hj]
   ·simp only [hl]
    omega
   ·simp only
    rw [hmid _ (by omega)]
    exact t4 0 x rfl
   ·simp only at hv ⊢
    have hjl:=(List.getElem?_eq_some_iff.1 hv).1
    rw [hmid _ (by omega),Nat.add_assoc,Nat.add_comm 1 j]
    exact t4 (j+1) v (by simpa using hv)
   ·simp only at hv ⊢
    obtain ⟨hj1,hj2⟩:=List.getElem?_eq_some_iff.1 hv
    rw [List.length_replicate] at hj1
    rw [List.getElem_replicate] at hj2
    subst hj2
    have:=u4 j hj1
    rw [←this]
    congr 1
    omega
 ·rw [if_neg hc] at hguard
  have st1:aB9 w fuel (fun _ k s=>y9 w s k) (qF w S) a { a with fs:=p::G }:=aX1 hea ha hWa hguard rfl rfl rfl (by
   have:=(h.clen W).2
   unfold Q3
   rw [h.slow,h.fast]
   simp only [Bool.false_eq_true,if_false,if_true]
   omega)
  obtain ⟨a',q1,q2,q3⟩:=cE9 (fuel:=fuel) W hL (a:={ a with fs:=p::G }) (S:=S) ⟨hS.heap,hS.sends,hS.turns,hS.back,hS.err⟩ rfl hb hF (b68 W h.slow (by have:=(h.clen W).2; omega) hi (fun hj=>by omega)) he I (hW0 p hpwk) hi (by omega) hb0
  exact ⟨a',st1.trans q1,q2,fun hz=>.out q2 (q3 hz)⟩
end
end Go.Proofs.Ytkecefjmcimemaa
