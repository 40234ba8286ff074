import Derived.Test.YtkecefjmcimemaaPl28
/- Whoever stands in does the same: steps. No program in sight. -/
namespace Go.Proofs.Ytkecefjmcimemaa
open Go.RowKit
set_option linter.unusedVariables false
theorem dC4 (bs:List Int) (i:Ins):(aU0 bs i).op=i.op∧(aU0 bs i).b=i.b∧(aU0 bs i).name=i.name:=by
 unfold aU0 b33
 split<;>exact ⟨rfl,rfl,rfl⟩
theorem dJ0 (bs:List Int) (i:Ins) (h:i.op≠15) (h':i.op≠16):(aU0 bs i).a=i.a:=by
 unfold aU0 aN8
 rw [decide_eq_false h,decide_eq_false h']
 rfl
theorem dE5 (bs:List Int) (i:Ins) (h:i.op=15∨i.op=16):(aU0 bs i).a=(bs[i.a.toNat]?).getD 0:=by
 unfold aU0 aN8 b33
 rcases h with h|h<;>rw [h]<;>rfl
theorem cV1 (k:Nat) (i:Ins):(Q4 k i).op=i.op∧(Q4 k i).a=i.a∧(Q4 k i).b=i.b∧(Q4 k i).name=i.name:=by
 unfold Q4
 split<;>exact ⟨rfl,rfl,rfl,rfl⟩
theorem cU9 {w:Wd} {H:List Ob} {self:V} {args temps stack:List V} {i i':Ins} (h1:i'.op=i.op) (h2:i'.a=i.a) (h3:i'.b=i.b):mvL w H self args temps stack i'=mvL w H self args temps stack i:=by
 unfold mvL
 rw [h1,h2,h3]
section
variable {w:Wd} {S:Int→Int→List Int} {fuel:Int}
theorem cM6 {N:Nat} (W:WOk w) (hL:aI1 w):∀k j,(qF w S k j).2=true→0≤(qF w S k j).1.temps∧(qF w S k j).1.temps≤1000:=by
 intro k j h
 have h0:¬(k < 0∨(w.classes.length:Int)≤k∨j < 0):=fun hc=>by
  unfold qF bN7 at h
  rw [if_pos hc] at h
  cases h
 obtain ⟨x,hx,hnx⟩:=N8 (l:=w.classes) (i:=k) (by omega) (by omega)
 cases hm:x.methods[j.toNat]? with
 |none =>
  unfold qF bN7 at h
  rw [if_neg h0,hx] at h
  simp only [hm] at h
  cases h
 |some m =>
  have hnm:p8 x.methods j=some m:=by rw [aA3 (by omega),hm]
  rw [cG2 hnx hnm] at h ⊢
  by_cases hp:(itF w S k j m).1.any L8.isPc=true
  ·rw [if_pos hp]
   have a1:m.temps≤(itF w S k j m).2:=aN1 w hL (S k j) m.code.length m.code 0 0 m.temps
   have hM:=(hL _ x hx m (List.mem_of_getElem? hm)).toLeafy.temps
   have a2:(itF w S k j m).2≤40:=bN5 w hL (S k j) m.code.length m.code 0 0 m.temps (by omega)
   simp only
   omega
  ·rw [if_neg hp] at h
   cases h
theorem FF.clen {g p:l6} {m:Me} (W:WOk w) (h:FF w S g p m):g.code.length≤240∧p.code.length≤60:=by
 obtain ⟨x,hx,hm⟩:=h.meth
 have hc:=W.code x (U8 hx) m (U8 hm)
 refine ⟨?_,by rw [h.codeP]; exact hc⟩
 rw [h.codeF,bU3,cO4]
 have:=bO0 w (S p.class_ p.method) m.code.length m.code 0 0 m.temps rfl (by omega)
 simpa [itF] using this
theorem FR.wk {g p:l6} {n:Int} {d:Nat} (W:WOk w) (h:FR w S g p) (hp:aJ6 w n d p):WkF g:=by
 obtain ⟨m,hh,R⟩:=hp
 obtain ⟨i,_,_,_,_,h5,_⟩:=R.len
 cases h with
 |same hs=>exact ⟨by omega,by rw [R.code]; have:=R.me.len; omega,fun v hv hk=>(R.vstack v hv).num hk⟩
 |fast hf h1 h2 h3=>exact ⟨by rw [h1]; omega,by have:=(hf.clen W).1; omega,fun v hv hk=>by rw [h1] at hv; exact (R.vstack v hv).num hk⟩
theorem FRs.wk {G P:List l6} {n:Int} (W:WOk w) (h:FRs w S G P) (hp:∀p∈P,∃d,aJ6 w n d p):∀g∈G,WkF g:=by
 induction h with
 |nil=>intro g hg; cases hg
 |@cons g p G P h1 h2 ih =>
  intro x hx
  rcases List.mem_cons.1 hx with rfl|hx
  ·obtain ⟨d,hd⟩:=hp p (by simp)
   exact h1.wk W hd
  ·exact ih (fun q hq=>hp q (by simp [hq])) x hx
theorem dA4 {N:Nat} (W:WOk w) (hL:aI1 w) {a b:Cf} (I:aF9 w fuel b) (hh:a.heap=b.heap) (hs:-1000000≤a.sends∧a.sends≤100000) (ht:a.turns=b.turns) (hl:a.fs.length≤900) (hf:∀f∈a.fs,WkF f):Wk w (qF w S) a:=by
 have Wb:=I.wk W (Q:=noQ) (fun k j h=>by cases h)
 exact ⟨Wb.cls,Wb.meth,Wb.slots,cM6 (N:=N) W hL,by rw [hh]; exact Wb.heap,hl,hf,hs,by rw [ht]; exact Wb.turns⟩
theorem FF.at_pl {g p:l6} {m:Me} (h:FF w S g p m) {q:Nat} {i:Ins} (hi:(itF w S p.class_ p.method m).1[q]?=some (.pl i)):p8 g.code ((bgn (itF w S p.class_ p.method m).1 q:Nat):Int)=some (aU0 (Q0 (itF w S p.class_ p.method m).1 0) i):=by
 rw [F9,h.codeF]
 exact b29 _ _ 0 q i hi
theorem FF.at_pc {g p:l6} {m y:Me} {s c:Int} (h:FF w S g p m) {q:Nat} (hi:(itF w S p.class_ p.method m).1[q]?=some (.pc y s c (q:Int))) {r:Nat} (hr:r < M8 y) :
  p8 g.code ((bgn (itF w S p.class_ p.method m).1 q+r:Nat):Int)=(aC8 y s c (q:Int) (bgn (itF w S p.class_ p.method m).1 q))[r]?:=by
 rw [F9,h.codeF,b07 _ _ 0 q y s c _ hi r hr,Nat.zero_add]
theorem cQ4 {y:Me} {s c p:Int} {b r:Nat} (hr:r < y.code.length):(aC8 y s c p b)[hl y+r]?=(y.code[r]?).map (Y1 s y ((b+hl y:Nat):Int)):=by
 unfold aC8 hl
 rw [show 3+y.args.toNat+2*y.temps.toNat+r=(1+y.args.toNat+2*y.temps.toNat+r)+1+1 by omega,List.getElem?_cons_succ,List.getElem?_cons_succ,
  List.getElem?_append_right (by simp [aB9,aF6]; omega)]
 simp only [List.length_append,aB9,aF6]
 rw [show 1+y.args.toNat+2*y.temps.toNat+r - (y.args.toNat+1+2*y.temps.toNat)=r by omega,List.getElem?_map]
theorem FF.item {g p:l6} {m:Me} (hL:aI1 w) (h:FF w S g p m) (h0:0≤p.at_) {i:Ins} (hi:p8 p.code p.at_=some i) :
  (itF w S p.class_ p.method m).1[p.at_.toNat]?=some (.pl (Q4 p.at_.toNat i)) ∨
  ∃y t c sz,aF7 w (S p.class_ p.method) m.code.length p.at_.toNat i sz t=some (y,c)∧m.temps≤t∧(itF w S p.class_ p.method m).1[p.at_.toNat]?=some (.pc y t c ((p.at_.toNat:Nat):Int))∧t+1+y.args+y.temps≤(itF w S p.class_ p.method m).2:=by
 rw [h.codeP,aA3 h0] at hi
 obtain ⟨t,sz,h1,h2⟩:=bU7 w hL (S p.class_ p.method) m.code.length m.code 0 0 m.temps p.at_.toNat i hi
 rw [Nat.zero_add] at h2
 rcases h2 with ⟨_,h2⟩|⟨y,c,h2,h3,h4⟩
 ·exact .inl h2
 ·exact .inr ⟨y,t,c,sz,h2,h1,h3,h4⟩
theorem cP3 (k j:Int) (m:Me):(itF w S k j m).1.length=m.code.length:=bQ1 w (S k j) m.code.length m.code 0 0 m.temps
theorem aW3 {a:Cf} {g g1:l6} {G:List l6} {a1:Cf} (he:a.err=0) (hfs:a.fs=g::G) (Wk0:Wk w (qF w S) a) (hst:M6 w fuel (fun _ k s=>z8 w s k) (qF w S) a=some a1) (h1:a1.fs=g1::G) (h2:a1.sends=a.sends) (h3:a1.turns=a.turns) (hp:Q7 g1+1≤Q7 g) :
  aC4 w fuel (fun _ k s=>z8 w s k) (qF w S) a a1:=by
 refine .step he (by rw [hfs]; simp) Wk0 hst ?_ (.refl _)
 simp only [mu,hfs,h1,h2,h3,List.map_cons,List.sum_cons]
 omega
end
end Go.Proofs.Ytkecefjmcimemaa
