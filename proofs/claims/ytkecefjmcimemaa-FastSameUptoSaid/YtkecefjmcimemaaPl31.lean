import Derived.Test.YtkecefjmcimemaaPl30
/- Whoever stands in does the same: where one stands in. No program in sight. -/
namespace Go.Proofs.Ytkecefjmcimemaa
open Go.RowKit
set_option linter.unusedVariables false
section
variable {w:Wd} {S:Int→Int→List Int} {fuel:Int}
theorem bZ1 {a:Cf} {g:l6} {G:List l6} {iF:Ins} {r:List Ob×List V×List V×Int} (he:a.err=0) (ha:a.fs=g::G) (hat:p8 g.code g.at_=some iF) (h1:¬(14≤iF.op∧iF.op≤18)) (h2:iF.op≠21)
  (hr:mvL w a.heap g.self_ g.args g.temps g.stack iF=some r) (L:St→Int→ByteArray→Int×Int) (Q:Int→Int→Fs×Bool):M5 w fuel L Q a=some (mvC a { g with at_:=g.at_+1 } G r):=by
 unfold M5
 rw [ha]
 simp only [hat,Option.bind_some]
 rw [if_neg (by omega),if_neg (by omega),if_neg (by omega),if_neg (by omega),if_neg (by omega),if_neg h2,bY8 w a he]
 simp only [hr,Option.map_some]
theorem cQ3 {H:List Ob} {self v:V} {args T X:List V} {k:Int} (h0:0≤k) (h1:k < T.length):mvL w H self args T (X++[v]) ⟨11,k,0,0,ByteArray.empty⟩=some (H,T.set k.toNat v,X,0):=by
 unfold mvL
 simp [h0,h1]
theorem dH9 {H:List Ob} {self:V} {args T X:List V}:mvL w H self args T X ⟨6,0,0,0,ByteArray.empty⟩=some (H,T,X++[⟨0,0⟩],0):=by
 unfold mvL
 simp
theorem cJ7 {a:Cf} {G:List l6} (he:a.err=0) (hW:∀g,WkF g→Wk w (qF w S) { a with fs:=g::G }) {s:Int} (hs:0≤s) {X:List V}:∀(n:Nat) (vs:List V) (g:l6),vs.length=n→g.stack=X++vs→0≤g.at_→(∀r,r < n→p8 g.code (g.at_+r)=(aZ0 s n)[r]?) →
  s.toNat+n≤g.temps.length→WkF g→∃T',aB9 w fuel (fun _ k s=>y9 w s k) (qF w S) { a with fs:=g::G } { a with fs:={ g with at_:=g.at_+n,temps:=T',stack:=X }::G } ∧
   T'.length=g.temps.length∧(∀j,j < s.toNat∨s.toNat+n≤j→T'[j]?=g.temps[j]?)∧∀(j:Nat) v,vs[j]?=some v→T'[s.toNat+j]?=some v
 |0,vs,g,hn,hst,h0,hc,hl,hwk=>by
  obtain rfl:=List.eq_nil_of_length_eq_zero hn
  rw [List.append_nil] at hst
  refine ⟨g.temps,?_,rfl,fun _ _=>rfl,fun j v h=>by simp at h⟩
  have:({ g with at_:=g.at_+((0:Nat):Int),temps:=g.temps,stack:=X }:l6)=g:=by
   rw [←hst]
   simp
  rw [this]
  exact .refl _
 |n+1,vs,g,hn,hst,h0,hc,hl,hwk=>by
  obtain ⟨ws,v,rfl⟩:∃ws v,vs=ws++[v]:=by
   cases hv:vs.getLast? with
   |none=>rw [List.getLast?_eq_none_iff] at hv; subst hv; simp at hn
   |some v=>obtain ⟨ws,h⟩:=List.getLast?_eq_some_iff.1 hv; exact ⟨ws,v,h⟩
  simp only [List.length_append,List.length_singleton] at hn
  have hwn:ws.length=n:=by omega
  have hi:p8 g.code g.at_=some ⟨11,s+n,0,0,ByteArray.empty⟩:=by
   have:=hc 0 (by omega)
   simpa [aZ0] using this
  have hlt:=aF7 hi
  have hst':g.stack=(X++ws)++[v]:=by rw [hst]; simp
  have hr:mvL w a.heap g.self_ g.args g.temps g.stack ⟨11,s+n,0,0,ByteArray.empty⟩=some (a.heap,g.temps.set (s+n).toNat v,X++ws,0):=by
   rw [hst']
   exact cQ3 (by omega) (by omega)
  have hstep:=bZ1 (fuel:=fuel) (a:={ a with fs:=g::G }) he rfl hi (by simp only; omega) (by simp only; omega) hr (fun _ k s=>y9 w s k) (qF w S)
  have hwk2:WkF { g with at_:=g.at_+1,temps:=g.temps.set (s+n).toNat v,stack:=X++ws }:=⟨by have:=hwk.stack; rw [hst'] at this; simp at this ⊢; omega,hwk.code,fun u hu hk=>hwk.num u (by rw [hst']; simp only [List.mem_append] at hu ⊢; exact .inl hu) hk⟩
  obtain ⟨T',t1,t2,t3,t4⟩:=cJ7 he hW hs n ws { g with at_:=g.at_+1,temps:=g.temps.set (s+n).toNat v,stack:=X++ws } hwn rfl (by simp only; omega) (fun r hr=>by
   have:=hc (r+1) (by omega)
   simp only [aZ0,List.getElem?_cons_succ] at this
   rw [←this]
   congr 1
   simp only
   omega) (by simp only [List.length_set]; omega) hwk2
  refine ⟨T',?_,by rw [t2]; simp,fun j hj=>?_,fun j u hu=>?_⟩
  ·refine .trans (aX1 (a:={ a with fs:=g::G }) he rfl (hW g hwk) hstep (g1:={ g with at_:=g.at_+1,temps:=g.temps.set (s+n).toNat v,stack:=X++ws }) rfl rfl rfl ?_) ?_
   ·have:=bA3 hlt.2
    unfold Q3 at this ⊢
    simp only at this ⊢
    omega
   ·have e:({ g with at_:=g.at_+((n+1:Nat):Int),temps:=T',stack:=X }:l6)={ ({ g with at_:=g.at_+1,temps:=g.temps.set (s+n).toNat v,stack:=X++ws }:l6) with at_:=g.at_+1+(n:Int),temps:=T',stack:=X }:=by
     simp only [l6.mk.injEq,true_and]
     omega
    rw [e]
    have e2:mvC { a with fs:=g::G } { g with at_:=g.at_+1 } G (a.heap,g.temps.set (s+n).toNat v,X++ws,0)={ a with fs:={ g with at_:=g.at_+1,temps:=g.temps.set (s+n).toNat v,stack:=X++ws }::G }:=by
     unfold mvC
     simp only [he]
    rw [e2]
    exact t1
  ·rw [t3 j (by omega),List.getElem?_set_ne (by omega)]
  ·by_cases hjn:j=n
   ·subst hjn
    rw [List.getElem?_append_right (by omega),hwn,Nat.sub_self] at hu
    simp only [List.getElem?_cons_zero,Option.some.injEq] at hu
    subst hu
    rw [t3 _ (by omega),show (s+(j:Int)).toNat=s.toNat+j by omega,List.getElem?_set_self (by omega)]
   ·have hjw:j < ws.length:=by
     have:=(List.getElem?_eq_some_iff.1 hu).1
     simp at this
     omega
    rw [List.getElem?_append_left hjw] at hu
    exact t4 j u hu
theorem cF3 {a:Cf} {G:List l6} (he:a.err=0) (hW:∀g,WkF g→Wk w (qF w S) { a with fs:=g::G }) {b:Int} (hb:0≤b):∀(n k:Nat) (g:l6),0≤g.at_→(∀r,r < 2*n→p8 g.code (g.at_+r)=(aP8 b n k)[r]?) →
  b.toNat+k+n≤g.temps.length→WkF g→g.stack.length≤900→∃T',aB9 w fuel (fun _ k s=>y9 w s k) (qF w S) { a with fs:=g::G } { a with fs:={ g with at_:=g.at_+(2*n:Nat),temps:=T' }::G } ∧
   T'.length=g.temps.length∧(∀j,j < b.toNat+k∨b.toNat+k+n≤j→T'[j]?=g.temps[j]?)∧∀j,j < n→T'[b.toNat+k+j]?=some ⟨0,0⟩
 |0,k,g,h0,hc,hl,hwk,hs=>by
  refine ⟨g.temps,?_,rfl,fun _ _=>rfl,fun j h=>by omega⟩
  have:({ g with at_:=g.at_+((2*0:Nat):Int),temps:=g.temps }:l6)=g:=by simp
  rw [this]
  exact .refl _
 |n+1,k,g,h0,hc,hl,hwk,hs=>by
  have hi:p8 g.code g.at_=some ⟨6,0,0,0,ByteArray.empty⟩:=by
   have:=hc 0 (by omega)
   simpa [aP8] using this
  have hi2:p8 g.code (g.at_+1)=some ⟨11,b+k,0,0,ByteArray.empty⟩:=by
   have:=hc 1 (by omega)
   simpa [aP8] using this
  have hlt:=aF7 hi
  have hlt2:=aF7 hi2
  have hstep:=bZ1 (fuel:=fuel) (a:={ a with fs:=g::G }) he rfl hi (by simp only; omega) (by simp only; omega) (dH9 (w:=w)) (fun _ k s=>y9 w s k) (qF w S)
  have hwk1:WkF { g with at_:=g.at_+1,stack:=g.stack++[⟨0,0⟩] }:=⟨by simp; omega,hwk.code,fun u hu hk=>by
   rcases List.mem_append.1 hu with hu|hu
   ·exact hwk.num u hu hk
   ·rw [List.mem_singleton.1 hu] at hk; cases hk⟩
  have e1:mvC { a with fs:=g::G } { g with at_:=g.at_+1 } G (a.heap,g.temps,g.stack++[⟨0,0⟩],0)={ a with fs:={ g with at_:=g.at_+1,stack:=g.stack++[⟨0,0⟩] }::G }:=by
   unfold mvC
   simp only [he]
  have hstep2:=bZ1 (fuel:=fuel) (a:={ a with fs:={ g with at_:=g.at_+1,stack:=g.stack++[⟨0,0⟩] }::G }) (g:={ g with at_:=g.at_+1,stack:=g.stack++[⟨0,0⟩] }) he rfl hi2 (by simp only; omega) (by simp only; omega)
   (cQ3 (w:=w) (X:=g.stack) (v:=⟨0,0⟩) (T:=g.temps) (k:=b+k) (by omega) (by omega)) (fun _ k s=>y9 w s k) (qF w S)
  have e2:mvC { a with fs:={ g with at_:=g.at_+1,stack:=g.stack++[⟨0,0⟩] }::G } { g with at_:=g.at_+1+1,stack:=g.stack++[⟨0,0⟩] } G (a.heap,g.temps.set (b+k).toNat ⟨0,0⟩,g.stack,0)={ a with fs:={ g with at_:=g.at_+2,temps:=g.temps.set (b+k).toNat ⟨0,0⟩ }::G }:=by
   unfold mvC
   simp only [he,Cf.mk.injEq,List.cons.injEq,l6.mk.injEq,true_and,and_true]
   omega
  have hwk2:WkF { g with at_:=g.at_+2,temps:=g.temps.set (b+k).toNat ⟨0,0⟩ }:=⟨hwk.stack,hwk.code,hwk.num⟩
  obtain ⟨T',t1,t2,t3,t4⟩:=cF3 he hW hb n (k+1) { g with at_:=g.at_+2,temps:=g.temps.set (b+k).toNat ⟨0,0⟩ } (by simp only; omega) (fun r hr=>by
   have:=hc (r+2) (by omega)
   simp only [aP8,List.getElem?_cons_succ] at this
   rw [←this]
   congr 1
   simp only
   omega) (by simp only [List.length_set]; omega) hwk2 hs
  refine ⟨T',?_,by rw [t2]; simp,fun j hj=>?_,fun j hj=>?_⟩
  ·rw [e1] at hstep
   rw [e2] at hstep2
   refine .trans (aX1 (a:={ a with fs:=g::G }) he rfl (hW g hwk) hstep rfl rfl rfl ?_) (.trans (aX1 (a:={ a with fs:={ g with at_:=g.at_+1,stack:=g.stack++[⟨0,0⟩] }::G }) he rfl (hW _ hwk1) hstep2 rfl rfl rfl ?_) ?_)
   ·unfold Q3
    simp only
    omega
   ·unfold Q3
    simp only
    omega
   ·have e:({ g with at_:=g.at_+((2*(n+1):Nat):Int),temps:=T' }:l6)={ ({ g with at_:=g.at_+2,temps:=g.temps.set (b+k).toNat ⟨0,0⟩ }:l6) with at_:=g.at_+2+((2*n:Nat):Int),temps:=T' }:=by
     simp only [l6.mk.injEq,true_and,and_true]
     omega
    rw [e]
    exact t1
  ·rw [t3 j (by omega),List.getElem?_set_ne (by omega)]
  ·by_cases hj0:j=0
   ·subst hj0
    rw [t3 _ (by omega),show (b+(k:Int)).toNat=b.toNat+k+0 by omega,List.getElem?_set_self (by omega)]
   ·have:=t4 (j - 1) (by omega)
    rw [show b.toNat+(k+1)+(j - 1)=b.toNat+k+j by omega] at this
    exact this
end
end Go.Proofs.Ytkecefjmcimemaa
