import Derived.Test.YtkecefjmcimemaaPl33
/- Whoever stands in does the same: from a call's begin to its end. No program in sight. -/
namespace Go.Proofs.Ytkecefjmcimemaa
open Go.RowKit
set_option linter.unusedVariables false
section
variable {w:Wd} {S:Int→Int→List Int} {fuel:Int}
theorem dB6 (W:WOk w) (hL:aH3 w) {a b b':Cf} (h:CR w S a b) (he:b.err=0) (I:aF4 w fuel b) (hst:M5 w fuel (fun _ k s=>y9 w s k) noQ b=some b') :
  ∃a',aB9 w fuel (fun _ k s=>y9 w s k) (qF w S) a a'∧aA2 a' b'∧(b'.err=0→CR w S a' b'):=by
 cases h with
 |in_ hS ha hb hF X=>exact dM5 W hL hS ha hb hF X he I hst
 |out hS hF =>
  cases hb:b.fs with
  |nil=>unfold M5 at hst; rw [hb] at hst; cases hst
  |cons p P =>
   rw [hb] at hF
   cases ha:a.fs with
   |nil=>rw [ha] at hF; cases hF
   |cons g G =>
    rw [ha] at hF
    have Ib:=I.fs
    rw [hb] at Ib
    obtain ⟨mp,hh,Fp⟩:=Ib.1
    obtain ⟨i,_,hi,him,_,hslen,_,_,_,_⟩:=Fp.len
    have hnum:=bQ0 (Fp.me.num i him)
    have hjmp:i.op=15∨i.op=16→0≤i.a∧i.a < mp.code.length:=fun h=>by omega
    have hopl:i.op≤17:=by omega
    have hlen:=Fp.me.len
    have hl:=I.fl
    rw [hb,List.length_cons] at hl
    cases hF with
    |cons h1 h2 =>
     have hWk:∀g',WkF g'→Wk w (qF w S) { a with fs:=g'::G }:=cN7 W hL hS hb h2 I (.inl rfl)
     have hWa:Wk w (qF w S) a:=by
      have:=hWk g (h1.wk W Ib.1)
      rw [←ha] at this
      exact this
     have done:cI6 w S g p (match p8 g.code g.at_ with|some j=>j|none=>i) i→∃a',aB9 w fuel (fun _ k s=>y9 w s k) (qF w S) a a'∧aA2 a' b'∧(b'.err=0→CR w S a' b'):=fun R=>by
      obtain ⟨a',q1,q2,q3⟩:=cE9 W hL hS ha hb h2 R he I hWa hi hopl hst
      exact ⟨a',q1,q2,fun hz=>.out q2 (q3 hz)⟩
     cases h1 with
     |same hs =>
      refine done ?_
      rw [hi]
      exact b68 W hs (by rw [Fp.code]; omega) hi (fun hj=>(hjmp hj).1)
     |@fast _ m hff hst' h0 hat =>
      rcases hff.item hL h0 hi with hpl|⟨y,t,c,sz,hcl,hms,hpc,htot⟩
      ·have R:=cT6 W hL hff hst' h0 hat hi hpl (fun hj=>by
        have:=hjmp hj
        rw [←Fp.code,hff.codeP] at this
        exact this)
       refine done ?_
       rw [R.at_]
       exact R
      ·exact cZ9 W hL hS ha hb h2 hff hst' h0 hat he I hi hcl hpc hms htot hst
theorem dA5 (W:WOk w) (hcl:0 < w.classes.length) (hL:aH3 w) {b c:Cf} (hp:Path w fuel (fun _ k s=>y9 w s k) noQ b c) (hc:c.done):∀{a:Cf},aA2 a b→(b.err=0→CR w S a b)→(b.err=0→aF4 w fuel b) →
  ∃a',aB9 w fuel (fun _ k s=>y9 w s k) (qF w S) a a'∧aA2 a' c∧a'.done:=by
 induction hp with
 |refl c =>
  intro a hS hR _
  refine ⟨a,.refl _,hS,?_⟩
  by_cases he:c.err=0
  ·have hfs:c.fs=[]:=hc.resolve_left (fun h=>h he)
   cases hR he with
   |out _ hF =>
    rw [hfs] at hF
    cases ha:a.fs with
    |nil=>exact .inr ha
    |cons g G=>rw [ha] at hF; cases hF
   |in_ _ _ hb=>rw [hfs] at hb; cases hb
  ·exact .inl (by rw [hS.err]; exact he)
 |@step b b1 c he hne hst _ ih =>
  intro a hS hR hI
  obtain ⟨a1,q1,q2,q3⟩:=dB6 W hL (hR he) he (hI he) hst
  have hI1:b1.err=0→aF4 w fuel b1:=by
   cases hfs:b.fs with
   |nil=>exact absurd hfs hne
   |cons f F =>
    obtain ⟨b2,k1,k2⟩:=a90 (Q:=noQ) W hcl (fun _ _=>rfl) (hI he) he hfs
    rw [hst] at k1
    cases k1
    exact k2.inv
  obtain ⟨a',r1,r2,r3⟩:=ih hc q2 q3 hI1
  exact ⟨a',q1.trans r1,r2,r3⟩
theorem cZ0 (W:WOk w) (hL:aH3 w) (c:O6) (hf:fuel≤400) {c1:Cf} (h:aQ4 w fuel noQ c=some c1):∃a1,aQ4 w fuel (qF w S) c=some a1∧aA2 a1 c1∧FRs w S a1.fs c1.fs∧mu fuel a1 < 1048576:=by
 unfold aQ4 at h ⊢
 by_cases hj:(y9 w c.name (D9 w.heap c.self_)).2 < 0
 ·rw [if_pos hj] at h ⊢
  cases h
  exact ⟨_,rfl,⟨rfl,rfl,rfl,rfl,rfl⟩,.nil,bF0 hf (Int.le_refl _) (Int.le_refl _) (by simp [I6,O5])⟩
 ·rw [if_neg hj] at h ⊢
  obtain ⟨a1,q1,q2,q3⟩:=cG6 (S:=S) (a:=O5 w) W hL ⟨rfl,rfl,rfl,rfl,rfl⟩ .nil h
  refine ⟨a1,q1,q2,q3,?_⟩
  obtain ⟨x2,m2,hx2,hm2,hh⟩:=aP4 q1
  rcases hh with ⟨_,rfl⟩|⟨_,_,rfl⟩|⟨_,_,_,v,_,hh⟩|⟨_,_,_,_,rfl⟩|⟨_,_,_,_,rfl⟩
  ·exact bF0 hf (Int.le_refl _) (Int.le_refl _) (by simp [I6,O5])
  ·exact bF0 hf (Int.le_refl _) (Int.le_refl _) (by simp [I6,O5])
  ·rcases hh with ⟨_,rfl⟩|⟨_,rfl⟩
   ·exact bF0 hf (by simp [I6,O5]) (Int.le_refl _) (by simp [I6,O5])
   ·rw [bN4]
    exact bF0 hf (by simp [O5]) (Int.le_refl _) (by simp [O5])
  ·exact bF0 hf (Int.le_refl _) (Int.le_refl _) (by simp [I6,O5])
  ·refine bF0 hf (by simp [O5]) (Int.le_refl _) ?_
   have hfr2:=b50 (S:=S) W hL hx2 hm2 (W.temps x2 (U0 hx2) m2 (U0 hm2)).1 c.self_ c.args
   have hc60:=W.code x2 (U0 hx2) m2 (U0 hm2)
   simp only [O5,List.map_cons,List.map_nil,List.sum_cons,List.sum_nil]
   generalize hg:aR6 (qF w S) (y9 w c.name (D9 w.heap c.self_)).1 (y9 w c.name (D9 w.heap c.self_)).2 m2 c.self_ c.args=ng at hfr2 ⊢
   have hat0:ng.at_=0:=by rw [←hg]; unfold aR6; split<;>rfl
   unfold Q3
   rw [hat0]
   have hcl:ng.code.length≤240:=by
    cases hfr2 with
    |same hs=>rw [aY3 (fun _ _=>rfl)]; simp only; omega
    |fast hff=>exact (hff.clen W).1
   split<;>omega
theorem dF6 {N:Nat} {gl:St→Int→ByteArray→Option (Int×Int)} {gq:Int→Int→Option (Fs×Bool)} (hN:4194304≤N) (hs:Q6 w) (hp:aC1 N w)
  (hgl:∀s k n,gl s k n=some (y9 w n k)) (hgq:∀k j x m,p8 w.classes k=some x→p8 x.methods j=some m→gq k j=some (qF w S k j)) (c:O6):∃r,aP7 N w c fuel gl gq=some r∧cA9 w c fuel noQ r:=by
 by_cases hw:M6 w c fuel=0
 ·have W:=hp.wOk hN hs
  have hL:=cO8 hN hs hp
  have hcl:0 < w.classes.length:=by have:=hp.many.1; omega
  obtain ⟨h1,h2,h3,h4,h5,h6⟩:=aX0 hw
  obtain ⟨c1,b1,b2,b3,b4,b5,b6⟩:=cL6 (Q:=noQ) hN hs hp (fun _ _=>rfl) c hw
  obtain ⟨s,s1,s2⟩:=dF5 (fuel:=fuel) (Q:=noQ) (gl:=gl) (gq:=fun _ _=>some (noQ 0 0)) hN hs hp (fun _ _=>rfl) hgl (fun k j x m _ _=>rfl) c
  rcases s2 with ⟨k1,_⟩|⟨_,d1,c',e1,e2,e3,e4⟩
  ·exact absurd hw k1
  ·rw [b1] at e1
   cases e1
   obtain ⟨a1,q1,q2,q3,q4⟩:=cZ0 (S:=S) W hL c h4 b1
   obtain ⟨a',r1,r2,r3⟩:=dA5 W hcl hL e2 e3 q2 (fun _=>.out q2 q3) b6
   obtain ⟨a2,p1,p2,p3,p4⟩:=cR7 (L:=fun _ k s=>y9 w s k) (Q:=qF w S) hN hs hp.rise hgl hgq (fun x=>∃y,aB9 w fuel (fun _ k s=>y9 w s k) (qF w S) x y∧y.done) (fun x hx he hne=>by
    obtain ⟨y,hy,hd⟩:=hx
    cases hy with
    |refl=>rcases hd with hd|hd; exact absurd he hd; exact absurd hd hne
    |@step _ x1 _ _ _ g1 g2 g3 g4=>exact ⟨g1,x1,g2,g3,fun _=>⟨y,g4,hd⟩⟩) W.temps (cM5 (N:=N) W hL) c hw a1 q1 (fun _=>⟨a',r1,r3⟩) q4
   have:=Path.det p1 p2 r1.path r3
   subst this
   refine ⟨_,p4,.inr ⟨hw,c1,c',b1,e2,e3,?_⟩⟩
   unfold bM2
   rw [r2.err,r2.heap,r2.back,r2.sends]
 ·exact ⟨_,b76 hs c hw,.inl ⟨hw,rfl⟩⟩
end
end Go.Proofs.Ytkecefjmcimemaa
