import Derived.Test.YtkecefjmcimemaaPl28
/- Whoever stands in does the same: steps. No program in sight. -/
namespace Go.Proofs.Ytkecefjmcimemaa
open Go.RowKit
set_option linter.unusedVariables false
theorem dG9 (bs:List Int) (i:Ins):(aV2 bs i).op=i.op∧(aV2 bs i).b=i.b∧(aV2 bs i).name=i.name:=by
 unfold aV2 b61
 split<;>exact ⟨rfl,rfl,rfl⟩
theorem dL1 (bs:List Int) (i:Ins) (h:i.op≠15) (h':i.op≠16):(aV2 bs i).a=i.a:=by
 unfold aV2 aN8
 rw [decide_eq_false h,decide_eq_false h']
 rfl
theorem dG5 (bs:List Int) (i:Ins) (h:i.op=15∨i.op=16):(aV2 bs i).a=(bs[i.a.toNat]?).getD 0:=by
 unfold aV2 aN8 b61
 rcases h with h|h<;>rw [h]<;>rfl
theorem c42 (k:Nat) (i:Ins):(Q0 k i).op=i.op∧(Q0 k i).a=i.a∧(Q0 k i).b=i.b∧(Q0 k i).name=i.name:=by
 unfold Q0
 split<;>exact ⟨rfl,rfl,rfl,rfl⟩
theorem c35 {w:Wd} {H:List Ob} {self:V} {args temps stack:List V} {i i':Ins} (h1:i'.op=i.op) (h2:i'.a=i.a) (h3:i'.b=i.b):mvL w H self args temps stack i'=mvL w H self args temps stack i:=by
 unfold mvL
 rw [h1,h2,h3]
section
variable {w:Wd} {S:Int→Int→List Int} {fuel:Int}
theorem cM5 {N:Nat} (W:WOk w) (hL:aH3 w):∀k j,(qF w S k j).2=true→0≤(qF w S k j).1.temps∧(qF w S k j).1.temps≤1000:=by
 intro k j h
 have h0:¬(k < 0∨(w.classes.length:Int)≤k∨j < 0):=fun hc=>by
  unfold qF bB5 at h
  rw [if_pos hc] at h
  cases h
 obtain ⟨x,hx,hnx⟩:=P9 (l:=w.classes) (i:=k) (by omega) (by omega)
 cases hm:x.methods[j.toNat]? with
 |none =>
  unfold qF bB5 at h
  rw [if_neg h0,hx] at h
  simp only [hm] at h
  cases h
 |some m =>
  have hnm:p8 x.methods j=some m:=by rw [Z5 (by omega),hm]
  rw [cI3 hnx hnm] at h ⊢
  by_cases hp:(Z7 w S k j m).1.any L8.isPc=true
  ·rw [if_pos hp]
   have a1:m.temps≤(Z7 w S k j m).2:=aN0 w hL (S k j) m.code.length m.code 0 0 m.temps
   have hM:=(hL _ x hx m (List.mem_of_getElem? hm)).toLeafy.temps
   have a2:(Z7 w S k j m).2≤40:=bR8 w hL (S k j) m.code.length m.code 0 0 m.temps (by omega)
   simp only
   omega
  ·rw [if_neg hp] at h
   cases h
theorem FF.clen {g p:l6} {m:Me} (W:WOk w) (h:FF w S g p m):g.code.length≤240∧p.code.length≤60:=by
 obtain ⟨x,hx,hm⟩:=h.meth
 have hc:=W.code x (U0 hx) m (U0 hm)
 refine ⟨?_,by rw [h.codeP]; exact hc⟩
 rw [h.codeF,bX4,cP9]
 have:=bQ1 w (S p.class_ p.method) m.code.length m.code 0 0 m.temps rfl (by omega)
 simpa [Z7] using this
theorem FR.wk {g p:l6} {n:Int} {d:Nat} (W:WOk w) (h:FR w S g p) (hp:aJ2 w n d p):WkF g:=by
 obtain ⟨m,hh,R⟩:=hp
 obtain ⟨i,_,_,_,_,h5,_⟩:=R.len
 cases h with
 |same hs=>exact ⟨by omega,by rw [R.code]; have:=R.me.len; omega,fun v hv hk=>(R.vstack v hv).num hk⟩
 |fast hf h1 h2 h3=>exact ⟨by rw [h1]; omega,by have:=(hf.clen W).1; omega,fun v hv hk=>by rw [h1] at hv; exact (R.vstack v hv).num hk⟩
theorem FRs.wk {G P:List l6} {n:Int} (W:WOk w) (h:FRs w S G P) (hp:∀p∈P,∃d,aJ2 w n d p):∀g∈G,WkF g:=by
 induction h with
 |nil=>intro g hg; cases hg
 |@cons g p G P h1 h2 ih =>
  intro x hx
  rcases List.mem_cons.1 hx with rfl|hx
  ·obtain ⟨d,hd⟩:=hp p (by simp)
   exact h1.wk W hd
  ·exact ih (fun q hq=>hp q (by simp [hq])) x hx
theorem dD5 {N:Nat} (W:WOk w) (hL:aH3 w) {a b:Cf} (I:aF4 w fuel b) (hh:a.heap=b.heap) (hs:-1000000≤a.sends∧a.sends≤100000) (ht:a.turns=b.turns) (hl:a.fs.length≤900) (hf:∀f∈a.fs,WkF f):Wk w (qF w S) a:=by
 have Wb:=I.wk W (Q:=noQ) (fun k j h=>by cases h)
 exact ⟨Wb.cls,Wb.meth,Wb.slots,cM5 (N:=N) W hL,by rw [hh]; exact Wb.heap,hl,hf,hs,by rw [ht]; exact Wb.turns⟩
theorem FF.at_pl {g p:l6} {m:Me} (h:FF w S g p m) {q:Nat} {i:Ins} (hi:(Z7 w S p.class_ p.method m).1[q]?=some (.pl i)):p8 g.code ((Y9 (Z7 w S p.class_ p.method m).1 q:Nat):Int)=some (aV2 (P8 (Z7 w S p.class_ p.method m).1 0) i):=by
 rw [G6,h.codeF]
 exact b40 _ _ 0 q i hi
theorem FF.at_pc {g p:l6} {m y:Me} {s c:Int} (h:FF w S g p m) {q:Nat} (hi:(Z7 w S p.class_ p.method m).1[q]?=some (.pc y s c (q:Int))) {r:Nat} (hr:r < M7 y) :
  p8 g.code ((Y9 (Z7 w S p.class_ p.method m).1 q+r:Nat):Int)=(aC8 y s c (q:Int) (Y9 (Z7 w S p.class_ p.method m).1 q))[r]?:=by
 rw [G6,h.codeF,b53 _ _ 0 q y s c _ hi r hr,Nat.zero_add]
theorem cT9 {y:Me} {s c p:Int} {b r:Nat} (hr:r < y.code.length):(aC8 y s c p b)[hl y+r]?=(y.code[r]?).map (V5 s y ((b+hl y:Nat):Int)):=by
 unfold aC8 hl
 rw [show 3+y.args.toNat+2*y.temps.toNat+r=(1+y.args.toNat+2*y.temps.toNat+r)+1+1 by omega,List.getElem?_cons_succ,List.getElem?_cons_succ,
  List.getElem?_append_right (by simp [aB4,aE7]; omega)]
 simp only [List.length_append,aB4,aE7]
 rw [show 1+y.args.toNat+2*y.temps.toNat+r - (y.args.toNat+1+2*y.temps.toNat)=r by omega,List.getElem?_map]
theorem FF.item {g p:l6} {m:Me} (hL:aH3 w) (h:FF w S g p m) (h0:0≤p.at_) {i:Ins} (hi:p8 p.code p.at_=some i) :
  (Z7 w S p.class_ p.method m).1[p.at_.toNat]?=some (.pl (Q0 p.at_.toNat i)) ∨
  ∃y t c sz,aE8 w (S p.class_ p.method) m.code.length p.at_.toNat i sz t=some (y,c)∧m.temps≤t∧(Z7 w S p.class_ p.method m).1[p.at_.toNat]?=some (.pc y t c ((p.at_.toNat:Nat):Int))∧t+1+y.args+y.temps≤(Z7 w S p.class_ p.method m).2:=by
 rw [h.codeP,Z5 h0] at hi
 obtain ⟨t,sz,h1,h2⟩:=bX8 w hL (S p.class_ p.method) m.code.length m.code 0 0 m.temps p.at_.toNat i hi
 rw [Nat.zero_add] at h2
 rcases h2 with ⟨_,h2⟩|⟨y,c,h2,h3,h4⟩
 ·exact .inl h2
 ·exact .inr ⟨y,t,c,sz,h2,h1,h3,h4⟩
theorem cQ0 (k j:Int) (m:Me):(Z7 w S k j m).1.length=m.code.length:=bP5 w (S k j) m.code.length m.code 0 0 m.temps
theorem aX1 {a:Cf} {g g1:l6} {G:List l6} {a1:Cf} (he:a.err=0) (hfs:a.fs=g::G) (Wk0:Wk w (qF w S) a) (hst:M5 w fuel (fun _ k s=>y9 w s k) (qF w S) a=some a1) (h1:a1.fs=g1::G) (h2:a1.sends=a.sends) (h3:a1.turns=a.turns) (hp:Q3 g1+1≤Q3 g) :
  aB9 w fuel (fun _ k s=>y9 w s k) (qF w S) a a1:=by
 refine .step he (by rw [hfs]; simp) Wk0 hst ?_ (.refl _)
 simp only [mu,hfs,h1,h2,h3,List.map_cons,List.sum_cons]
 omega
end
end Go.Proofs.Ytkecefjmcimemaa
