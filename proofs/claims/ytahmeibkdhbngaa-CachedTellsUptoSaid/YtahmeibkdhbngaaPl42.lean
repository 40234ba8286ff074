import Derived.Test.YtahmeibkdhbngaaPl41
/- A call with cells that remember what is so does what it does without. No program in sight. -/
namespace Go.Proofs.Ytahmeibkdhbngaa
open Go.RowKit
set_option linter.unusedVariables false
section
variable {w:Wd} {fuel:Int} {N:Nat}
structure b97 (w:Wd) (fuel:Int) (c:Cf):Prop where
 inv:aO7 w fuel c
 len:(c.ev.length:Int)≤c.sends
 ok:bM5 w c.ev
theorem b91 {c:Cf} (I:aO7 w fuel c) {f:l6} {F:List l6} (hfs:c.fs=f::F) {i:Ins} {x:Cl} {m:Me} (hi:q9 f.code f.at_=some i) (hx:q9 w.classes f.class_=some x) (hm:q9 x.methods f.method=some m):a06 w (P7 f m i f.at_) i.name:=by
 have hF:=I.fs
 rw [hfs] at hF
 obtain ⟨⟨m',hh,R⟩,_⟩:=hF
 obtain ⟨x',hx',hm'⟩:=R.meth
 rw [hx] at hx'
 cases hx'
 rw [hm] at hm'
 cases hm'
 rw [R.code] at hi
 have hs:P7 f m i f.at_=⟨f.class_,m.name,f.at_⟩:=by unfold P7; rw [R.slow]; rfl
 rw [hs]
 exact ⟨x,m,i,f.method.toNat,hx,(C8 hm).2,rfl,hi,rfl⟩
theorem cS6 {Q:Int→Int→Fs×Bool} (W:WOk w) (h1:0 < w.classes.length) (hQ:∀k j,(Q k j).2=false) {c c1:Cf} (I:b97 w fuel c) (he:c.err=0) (hne:c.fs≠[]) (hst:aL3 w fuel (fun _ k s=>D6 w s k) Q c=some c1) :
  (c1.err=0→b97 w fuel c1)∧bM5 w c1.ev∧c1.ev.length≤c.ev.length+1:=by
 cases hfs:c.fs with
 |nil=>exact absurd hfs hne
 |cons f F =>
  obtain ⟨c1',k1,k2⟩:=bA6 (Q:=Q) W h1 hQ I.inv he hfs
  rw [hst] at k1
  cases k1
  rcases cQ0 hst with h|⟨f',F',i,x,m,k,a1,a2,a3,a4,a5,a6,a7⟩
  ·rw [h]
   refine ⟨fun e=>⟨k2.inv e,?_,by rw [h]; exact I.ok⟩,I.ok,by omega⟩
   rw [h]
   exact Int.le_trans I.len k2.sends.1
  ·rw [hfs] at a1
   cases a1
   have hs:=b91 I.inv hfs a2 a4 a5
   have hok:bM5 w c1.ev:=by
    rw [a6]
    intro e he
    rcases List.mem_append.1 he with he|he
    ·exact I.ok e he
    ·rw [List.mem_singleton] at he
     subst he
     exact ⟨_,hs⟩
   refine ⟨fun e=>⟨k2.inv e,?_,hok⟩,hok,by rw [a6]; simp⟩
   rcases a7 with ⟨_,a7⟩|⟨_,a7|a7⟩
   ·rw [a7] at e; cases e
   ·exact absurd e a7
   ·rw [a7,a6]
    have:=I.len
    simp
    omega
theorem dG9 {Q:Int→Int→Fs×Bool} (W:WOk w) (h1:0 < w.classes.length) (hQ:∀k j,(Q k j).2=false) {c c':Cf} (p:Path w fuel (fun _ k s=>D6 w s k) Q c c') (hI:c.err=0→b97 w fuel c) (hok:bM5 w c.ev) (hl:c.ev.length≤401) :
  bM5 w c'.ev∧c'.ev.length≤401:=by
 induction p with
 |refl=>exact ⟨hok,hl⟩
 |@step c c1 c2 he hne hst _ ih =>
  obtain ⟨a1,a2,a3⟩:=cS6 W h1 hQ (hI he) he hne hst
  have hs:=(hI he).inv.sends
  have hl2:=(hI he).len
  exact ih a1 a2 (by omega)
theorem c79 {Q:Int→Int→Fs×Bool} {c:O3} {c1:Cf} (hb:aQ0 w fuel Q c=some c1):c1.ev=[]:=by
 unfold aQ0 at hb
 split at hb
 ·cases hb; rfl
 ·exact (a13 hb).1
end
theorem c54 {w:Wd} {N:Nat} {fuel:Int} (hN:4194304≤N) (hs:aA5 w) (hp:aJ8 N w) (c:O3) (l:List Ce) (t:List Tl) (z:Nat) (hz:SzB z ⟨⟨[],[],0⟩,⟨⟨0,0⟩,0,0⟩,l,t,0,0⟩) (hz2:z≤1099511627000) (hr:aK4 w l) :
  ∃r ev sb,a14 N w c fuel l t=some ⟨r.1,r.2,sb.cells,sb.tallies,sb.hits,sb.not⟩∧bR0 w c fuel r ev∧sb=ev.foldl (aG8 w) ⟨⟨[],[],0⟩,⟨⟨0,0⟩,0,0⟩,l,t,0,0⟩∧bM5 w ev∧ev.length≤401:=by
 have W:=hp.wOk hN hs
 have hcl:0 < w.classes.length:=by have:=hp.many.1; omega
 unfold a14
 rw [bV5 N ⟨by have:=hz.1; simp only at this; omega,fun x hx=>by have:=hz.2.1 x hx; omega⟩,cN7 N (fun x hx=>by have:=hz.2.2.2 x hx; omega) (by have:=hz.2.2.1; simp only at this; omega)]
 simp only [Option.bind_some]
 generalize hsb:(⟨⟨[],[],0⟩,⟨⟨0,0⟩,0,0⟩,l,t,0,0⟩:u6)=sb at hz ⊢
 have hrs:aK4 w sb.cells:=by rw [←hsb]; exact hr
 by_cases hw:M3 w c fuel=0
 ·obtain ⟨c1,b1,b2,b3,b4,b5,b6⟩:=c89 (Q:=noQ) hN hs hp (fun _ _=>rfl) c hw
  have hev:=c79 b1
  have hI1:c1.err=0→b97 w fuel c1:=fun e=>⟨b6 e,by rw [hev]; simpa using b2,by rw [hev]; intro e he; cases he⟩
  obtain ⟨c',p1,p2,p3,p4⟩:=c52 (gl:=fun x0_ x1_ x2_ s_=>aK3 N x0_ x1_ x2_ s_ w) (gq:=fun x0_ x1_=>bI6 N x0_ x1_) (T:=aG8 w) (sb:=sb) (Q:=noQ) (L:=fun _ k s=>D6 w s k) hN hs hp.rise (fun k j x m _ _=>rfl) (b97 w fuel)
   (fun c I he hne=>by
    refine ⟨I.inv.wk W (fun k j h=>by cases h),?_,?_⟩
    ·intro f F i x m k hfs hi h14 hx hm
     have hsite:=b91 I.inv hfs hi hx hm
     obtain ⟨t1,t2⟩:=cM1 hp.rise I.ok hz hrs
     have hl:=I.len
     have hsd:=I.inv.sends
     exact dJ7 N (by omega) hp.rise hs t1 (by omega) t2 hsite
    ·cases hfs:c.fs with
     |nil=>exact absurd hfs hne
     |cons f F =>
      obtain ⟨c1,k1,k2⟩:=bA6 (Q:=noQ) W hcl (fun _ _=>rfl) I.inv he hfs
      exact ⟨c1,k1,k2.mu,(cS6 W hcl (fun _ _=>rfl) I he hne k1).1⟩) W.temps (fun k j h=>by cases h) c hw c1 b1 hI1 b5
  obtain ⟨e1,e2⟩:=dG9 W hcl (fun _ _=>rfl) p1 hI1 (by rw [hev]; intro e he; cases he) (by rw [hev]; simp)
  refine ⟨bD9 w c',c'.ev,c'.ev.foldl (aG8 w) sb,?_,.inr ⟨hw,c1,c',b1,p1,p2,rfl,rfl⟩,rfl,e1,e2⟩
  rw [p4]
  rfl
 ·refine ⟨(w,⟨⟨0,0⟩,M3 w c fuel,0⟩),[],sb,?_,.inl ⟨hw,rfl,rfl⟩,rfl,(fun e he=>by cases he),by simp⟩
  rw [cP9 hs c hw]
  rfl
theorem cL3 (N:Nat) (w:Wd) (hN:1048578≤N) (hs:w.classes.length≤1048576) (x:Ce):∀(l:List Ln) (k:Nat),∃o,aC6 N w x l k=some o∧(match o with|.ret r=>r=false|.next ()=>x.epoch=w.epoch→∀y∈l,∃n,a06 w x.site n∧0≤(D6 w n y.cls).2∧(D6 w n y.cls).1=y.found)
 |[],k=>⟨.next (),rfl,fun _ y hy=>by cases hy⟩
 |y::l,k=>by
  obtain ⟨o,h1,h2⟩:=cL3 N w hN hs x l (k+1)
  rw [aC6]
  by_cases he:x.epoch=w.epoch
  ·rw [decide_eq_true he]
   simp only [Bool.not_true,cond_false]
   by_cases c1:x.site.cls < 0
   ·exact ⟨.ret false,by simp [c1],rfl⟩
   by_cases c2:(w.classes.length:Int)≤x.site.cls
   ·exact ⟨.ret false,by simp [c1,c2],rfl⟩
   simp only [c1,c2,decide_false,cond_false,Option.bind_some,aO0 N w x.site.cls x.site.name hN hs]
   by_cases c3:(D6 w x.site.name x.site.cls).1=x.site.cls
   ·have hj:0≤(D6 w x.site.name x.site.cls).2:=by
     have h0:(D6 w x.site.name x.site.cls).1≠-1:=by omega
     revert h0
     unfold D6
     cases hf:aB1 w x.site.name (w.classes.length+1) x.site.cls with
     |none=>intro h; exact absurd rfl h
     |some p=>intro _; exact (b62 w x.site.name _ _ _ hf).2.1
    obtain ⟨z,m,hz,hm,hn⟩:=a96 hj
    rw [c3] at hz
    rw [c3]
    by_cases c4:x.site.pos < 0
    ·exact ⟨.ret false,by simp [c4],rfl⟩
    by_cases c5:(m.code.length:Int)≤x.site.pos
    ·exact ⟨.ret false,by simp [c4,hz,hm,c5],rfl⟩
    obtain ⟨i,_,hi⟩:=Y8 (l:=m.code) (i:=x.site.pos) (by omega) (by omega)
    simp only [c4,c5,hz,hm,hi,decide_true,decide_false,Bool.not_true,cond_false,Option.bind_some,aO0 N w y.cls i.name hN hs]
    by_cases c6:(D6 w i.name y.cls).2 < 0
    ·exact ⟨.ret false,by simp [c6],rfl⟩
    by_cases c7:(D6 w i.name y.cls).1=y.found
    ·refine ⟨o,by simp [c6,c7,h1],?_⟩
     cases o with
     |ret r=>exact h2
     |next v =>
      intro _ u hu
      rcases List.mem_cons.1 hu with rfl|hu
      ·exact ⟨i.name,⟨z,m,i,_,hz,(C8 hm).2,hn,hi,rfl⟩,by omega,c7⟩
      ·exact h2 he u hu
    ·exact ⟨.ret false,by simp [c6,c7],rfl⟩
   ·exact ⟨.ret false,by simp [c3],rfl⟩
  ·refine ⟨o,by simp [he,h1],?_⟩
   cases o with
   |ret r=>exact h2
   |next v=>exact fun e=>absurd e he
theorem cK4 (N:Nat) (w:Wd) (hN:1048578≤N) (hs:w.classes.length≤1048576):∀(l:List Ce) (k:Nat),∃o,aC9 N w l k=some o∧(match o with|.ret r=>r=false|.next ()=>aK4 w l)
 |[],k=>⟨.next (),rfl,fun c hc=>by cases hc⟩
 |x::l,k=>by
  obtain ⟨o,h1,h2⟩:=cL3 N w hN hs x x.lines 0
  obtain ⟨o',k1,k2⟩:=cK4 N w hN hs l (k+1)
  rw [aC9,h1]
  cases o with
  |ret r =>
   exact ⟨.ret r,rfl,h2⟩
  |next u =>
   refine ⟨o',k1,?_⟩
   cases o' with
   |ret r=>exact k2
   |next u' =>
    intro c hc
    rcases List.mem_cons.1 hc with rfl|hc
    ·exact h2
    ·exact k2 c hc
end Go.Proofs.Ytahmeibkdhbngaa
