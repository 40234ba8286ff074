import Derived.Test.YtahmeibkdhbngaaPl41
/- A call with cells that remember what is so does what it does without. No program in sight. -/
namespace Go.Proofs.Ytahmeibkdhbngaa
open Go.RowKit
set_option linter.unusedVariables false
section
variable {w:Wd} {fuel:Int} {N:Nat}
structure bI2 (w:Wd) (fuel:Int) (c:Cf):Prop where
 inv:aW3 w fuel c
 len:(c.ev.length:Int)≤c.sends
 ok:aX0 w c.ev
theorem bH5 {c:Cf} (I:aW3 w fuel c) {f:l6} {F:List l6} (hfs:c.fs=f::F) {i:Ins} {x:Cl} {m:Me} (hi:w9 f.code f.at_=some i) (hx:w9 w.classes f.class_=some x) (hm:w9 x.methods f.method=some m):aT0 w (O1 f m i f.at_) i.name:=by
 have hF:=I.fs
 rw [hfs] at hF
 obtain ⟨⟨m',hh,R⟩,_⟩:=hF
 obtain ⟨x',hx',hm'⟩:=R.meth
 rw [hx] at hx'
 cases hx'
 rw [hm] at hm'
 cases hm'
 rw [R.code] at hi
 have hs:O1 f m i f.at_=⟨f.class_,m.name,f.at_⟩:=by unfold O1; rw [R.slow]; rfl
 rw [hs]
 exact ⟨x,m,i,f.method.toNat,hx,(C8 hm).2,rfl,hi,rfl⟩
theorem bY7 {Q:Int→Int→Fs×Bool} (W:WOk w) (h1:0 < w.classes.length) (hQ:∀k j,(Q k j).2=false) {c c1:Cf} (I:bI2 w fuel c) (he:c.err=0) (hne:c.fs≠[]) (hst:aX5 w fuel (fun _ k s=>F5 w s k) Q c=some c1) :
  (c1.err=0→bI2 w fuel c1)∧aX0 w c1.ev∧c1.ev.length≤c.ev.length+1:=by
 cases hfs:c.fs with
 |nil=>exact absurd hfs hne
 |cons f F =>
  obtain ⟨c1',k1,k2⟩:=b99 (Q:=Q) W h1 hQ I.inv he hfs
  rw [hst] at k1
  cases k1
  rcases bU3 hst with h|⟨f',F',i,x,m,k,a1,a2,a3,a4,a5,a6,a7⟩
  ·rw [h]
   refine ⟨fun e=>⟨k2.inv e,?_,by rw [h]; exact I.ok⟩,I.ok,by omega⟩
   rw [h]
   exact Int.le_trans I.len k2.sends.1
  ·rw [hfs] at a1
   cases a1
   have hs:=bH5 I.inv hfs a2 a4 a5
   have hok:aX0 w c1.ev:=by
    rw [a6]
    intro e he
    rcases List.mem_append.1 he with he|he
    ·exact I.ok e he
    ·rw [List.mem_singleton] at he
     subst he
     exact ⟨_,hs⟩
   refine ⟨fun e=>⟨k2.inv e,?_,hok⟩,hok,by rw [a6]; simp⟩
   rcases a7 with ⟨_,a7⟩|⟨_,a7|a7⟩
   ·rw [a7] at e; cases e
   ·exact absurd e a7
   ·rw [a7,a6]
    have:=I.len
    simp
    omega
theorem c38 {Q:Int→Int→Fs×Bool} (W:WOk w) (h1:0 < w.classes.length) (hQ:∀k j,(Q k j).2=false) {c c':Cf} (p:Path w fuel (fun _ k s=>F5 w s k) Q c c') (hI:c.err=0→bI2 w fuel c) (hok:aX0 w c.ev) (hl:c.ev.length≤401) :
  aX0 w c'.ev∧c'.ev.length≤401:=by
 induction p with
 |refl=>exact ⟨hok,hl⟩
 |@step c c1 c2 he hne hst _ ih =>
  obtain ⟨a1,a2,a3⟩:=bY7 W h1 hQ (hI he) he hne hst
  have hs:=(hI he).inv.sends
  have hl2:=(hI he).len
  exact ih a1 a2 (by omega)
theorem cC0 {Q:Int→Int→Fs×Bool} {c:O4} {c1:Cf} (hb:aT8 w fuel Q c=some c1):c1.ev=[]:=by
 unfold aT8 at hb
 split at hb
 ·cases hb; rfl
 ·exact (aU1 hb).1
end
theorem b65 {w:Wd} {N:Nat} {fuel:Int} (hN:4194304≤N) (hs:Y1 w) (hp:aG6 N w) (c:O4) (l:List Ce) (t:List Tl) (z:Nat) (hz:SzB z ⟨⟨[],[],0⟩,⟨⟨0,0⟩,0,0⟩,l,t,0,0⟩) (hz2:z≤1099511627000) (hr:Z8 w l) :
  ∃r ev sb,aH0 N w c fuel l t=some ⟨r.1,r.2,sb.cells,sb.tallies,sb.hits,sb.not⟩∧bO0 w c fuel r ev∧sb=ev.foldl (Q7 w) ⟨⟨[],[],0⟩,⟨⟨0,0⟩,0,0⟩,l,t,0,0⟩∧aX0 w ev∧ev.length≤401:=by
 have W:=hp.wOk hN hs
 have hcl:0 < w.classes.length:=by have:=hp.many.1; omega
 unfold aH0
 rw [bM0 N ⟨by have:=hz.1; simp only at this; omega,fun x hx=>by have:=hz.2.1 x hx; omega⟩,cD4 N (fun x hx=>by have:=hz.2.2.2 x hx; omega) (by have:=hz.2.2.1; simp only at this; omega)]
 simp only [Option.bind_some]
 generalize hsb:(⟨⟨[],[],0⟩,⟨⟨0,0⟩,0,0⟩,l,t,0,0⟩:q9)=sb at hz ⊢
 have hrs:Z8 w sb.cells:=by rw [←hsb]; exact hr
 by_cases hw:M6 w c fuel=0
 ·obtain ⟨c1,b1,b2,b3,b4,b5,b6⟩:=cD2 (Q:=noQ) hN hs hp (fun _ _=>rfl) c hw
  have hev:=cC0 b1
  have hI1:c1.err=0→bI2 w fuel c1:=fun e=>⟨b6 e,by rw [hev]; simpa using b2,by rw [hev]; intro e he; cases he⟩
  obtain ⟨c',p1,p2,p3,p4⟩:=cN9 (gl:=fun x0_ x1_ x2_ s_=>aF0 N x0_ x1_ x2_ s_ w) (gq:=fun x0_ x1_=>a99 N x0_ x1_) (T:=Q7 w) (sb:=sb) (Q:=noQ) (L:=fun _ k s=>F5 w s k) hN hs hp.rise (fun k j x m _ _=>rfl) (bI2 w fuel)
   (fun c I he hne=>by
    refine ⟨I.inv.wk W (fun k j h=>by cases h),?_,?_⟩
    ·intro f F i x m k hfs hi h14 hx hm
     have hsite:=bH5 I.inv hfs hi hx hm
     obtain ⟨t1,t2⟩:=bV1 hp.rise I.ok hz hrs
     have hl:=I.len
     have hsd:=I.inv.sends
     exact c09 N (by omega) hp.rise hs t1 (by omega) t2 hsite
    ·cases hfs:c.fs with
     |nil=>exact absurd hfs hne
     |cons f F =>
      obtain ⟨c1,k1,k2⟩:=b99 (Q:=noQ) W hcl (fun _ _=>rfl) I.inv he hfs
      exact ⟨c1,k1,k2.mu,(bY7 W hcl (fun _ _=>rfl) I he hne k1).1⟩) W.temps (fun k j h=>by cases h) c hw c1 b1 hI1 b5
  obtain ⟨e1,e2⟩:=c38 W hcl (fun _ _=>rfl) p1 hI1 (by rw [hev]; intro e he; cases he) (by rw [hev]; simp)
  refine ⟨bI9 w c',c'.ev,c'.ev.foldl (Q7 w) sb,?_,.inr ⟨hw,c1,c',b1,p1,p2,rfl,rfl⟩,rfl,e1,e2⟩
  rw [p4]
  rfl
 ·refine ⟨(w,⟨⟨0,0⟩,M6 w c fuel,0⟩),[],sb,?_,.inl ⟨hw,rfl,rfl⟩,rfl,(fun e he=>by cases he),by simp⟩
  rw [b91 hs c hw]
  rfl
end Go.Proofs.Ytahmeibkdhbngaa
