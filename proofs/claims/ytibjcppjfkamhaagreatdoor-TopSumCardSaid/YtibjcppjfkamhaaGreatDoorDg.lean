/- Ghosts on deep rows: a row is taken out, put back; deep rows are frozen, lent. No program in sight, no conditions. -/
import Derived.Test.YtibjcppjfkamhaaGreatDoorIo
namespace Go.Proofs.YtibjcppjfkamhaaGreatDoor
open Go.RowKit
set_option linter.unusedVariables false
section
variable {Γ:Fun}
theorem bF4 {c:Ctx} {x sh:Nat} {u v:Value} (h:x≠sh):((c.setHd x u).setHd sh v).hd x=u:=by simp [Ctx.setHd,h]
theorem bO0 {c:Ctx} {x sh:Nat} {u v:Value}:((c.setHd x u).setHd sh v).hd sh=v:=by simp [Ctx.setHd]
theorem aY5 {c:Ctx} {x sh i:Nat} {u v:Value} (h1:i≠x) (h2:i≠sh):((c.setHd x u).setHd sh v).hd i=c.hd i:=by simp [Ctx.setHd,h1,h2]
theorem Gh.detach {ts:Ts} {os:Os} (id x sh' i off:Nat) {sz e sh isz ie:Nat} {cols:aG8} {l:List (List AV)} {hs:Hs} {ls:List (List AV)} {cs:List AV} (hid:lk os id=some (.deep sz e cols l hs sh)) (hcol:lk cols off=some (isz,ie)) (hi:l[i]?=some cs) (ho:cs[off]?=some (.sl isz ls))
  (hno:hAt hs off=none) (hn1:Nat.beq id x=false) (hn2:Nat.beq id sh'=false) (hn3:Nat.beq x sh'=false) (hn4:(hs.all fun p=>!Nat.beq p.2.2 x && !Nat.beq p.2.2 sh')=true)
  (hf1:K9 [x,sh'] ts=true) (hf2:L8 [x,sh'] [(id,.deep sz e cols l ((i,off,x)::hs) sh'),(x,.row isz ls ie),(sh',.gone)] os=true) :
  Gh Γ ts os (fun _:Unit=>ts) (fun _=>(id,.deep sz e cols l ((i,off,x)::hs) sh')::(x,.row isz ls ie)::(sh',.gone)::os):=by
 have hn1:=J2 hn1
 have hn2:=J2 hn2
 have hn3:=J2 hn3
 have hh:∀j o y,(j,o,y)∈hs→y≠x∧y≠sh':=fun j o y hm=>by
  have:=List.all_eq_true.1 hn4 _ hm
  simp only [Bool.and_eq_true,Bool.not_eq_true'] at this
  exact ⟨J2 this.1,J2 this.2⟩
 refine Gh.of (need:=[(id,.deep sz e cols l hs sh)]) (upd:=fun _=>[(id,.deep sz e cols l ((i,off,x)::hs) sh'),(x,.row isz ls ie),(sh',.gone)]) (ex:=fun _=>[]) (news:=[x,sh']) ⟨hid,trivial⟩ hf1 (fun _=>hf2) (fun _=>?_) fun c w hok _=>?_
 ·simp only [List.all_cons,List.all_nil,Bool.and_true,Bool.and_eq_true]
  exact ⟨by rw [G9 _ _ hn1,p9]; rfl,by rw [G9 _ _ hn2,G9 _ _ hn3,p9]; rfl⟩
 obtain ⟨css,p1,p2,p3,p4⟩:=hok.rep id _ (p9 _ _ _)
 have hci:css[i]?=some (css[i]'(by rw [p2.len]; exact (List.getElem?_eq_some_iff.1 hi).1)):=List.getElem?_eq_getElem _
 generalize css[i]'(by rw [p2.len]; exact (List.getElem?_eq_some_iff.1 hi).1)=us at hci
 have hul:=(p2.cell i us cs hci hi).1
 have hu:us[off]?=some (us[off]'(by rw [hul]; exact (List.getElem?_eq_some_iff.1 ho).1)):=List.getElem?_eq_getElem _
 generalize us[off]'(by rw [hul]; exact (List.getElem?_eq_some_iff.1 ho).1)=u at hu
 have hnh:¬aE1 hs i off:=cD8 hno i
 obtain ⟨ls',q1,q2⟩:=p2.inner i us cs off isz ie u hci hi hcol hu hnh
 have hls:ls'=ls:=by rw [ho] at q1; injection q1 with q1; injection q1 with _ q1; exact q1.symm
 subst hls
 have hin:Inn css cols hs i off u:=⟨us,_,hci,hcol,hu,hnh⟩
 obtain ⟨L,hL⟩:=bW2 css cols ((i,off,x)::hs)
 have hmon:∀{j o v},Inn css cols ((i,off,x)::hs) j o v→Inn css cols hs j o v∧¬(j=i∧o=off):=fun {j o v} ⟨us',p,a,b,d,hq⟩=>⟨⟨us',p,a,b,d,fun ⟨y,hy⟩=>hq ⟨y,List.mem_cons_of_mem _ hy⟩⟩,fun ⟨e1,e2⟩=>hq ⟨x,by rw [e1,e2]; simp⟩⟩
 have foot_:∀b,foot c id (.deep sz e cols l hs sh) b→Touch c [(id,.deep sz e cols l hs sh)] [(id,.deep sz e cols l ((i,off,x)::hs) sh'),(x,.row isz ls' ie),(sh',.gone)] b:=fun b hb=>⟨id,_,p9 _ _ _,by rw [p9]; rfl,hb⟩
 have innf:∀{j o v b},Inn css cols hs j o v→v.ownBlock=some b→foot c id (.deep sz e cols l hs sh) b:=fun {j o v b} hv hb=>.inr ⟨v,(p3 v).2 ⟨j,o,hv⟩,hb⟩
 refine ⟨(),(c.setHd x u).setHd sh' (.tuple L.toArray),Post.mk' hok rfl rfl rfl rfl (Nat.le_refl _) (fun _ _ _=>rfl) (fun k hk=>⟨rfl,aY5 (by rintro rfl; simp at hk) (by rintro rfl; simp at hk)⟩) (fun k o hl=>?_) (fun k o b hl hf=>?_) (fun k k' o o' b hne hl hl' hf hf'=>?_),fun t y h=>by cases h⟩
 ·rcases lk3 hl with ⟨rfl,rfl⟩|⟨_,rfl,rfl⟩|⟨_,_,rfl,rfl⟩
  ·refine ⟨css,by rw [aY5 hn1 hn2]; exact p1,⟨p2.len,p2.cell,fun j us' cs' o isz' ie' u' a1 a2 a3 a4 a5=>p2.inner j us' cs' o isz' ie' u' a1 a2 a3 a4 fun ⟨y,hy⟩=>a5 ⟨y,List.mem_cons_of_mem _ hy⟩,fun j o y us' u' hm a1 a2=>?_,fun j o v j' o' v' b h1 h2=>p2.apart j o v j' o' v' b (hmon h1).1 (hmon h2).1⟩,fun v=>by rw [bO0,aY3]; exact hL v,fun j o v b hv hb=>p4 j o v b (hmon hv).1 (by rwa [aY5 hn1 hn2] at hb)⟩
   rcases List.mem_cons.1 hm with e'|hm
   ·cases e'
    rw [hci] at a1; cases a1
    rw [hu] at a2; cases a2
    obtain ⟨h,e1,_,e2,e3⟩:=O6.hdr q2
    exact ⟨(bF4 hn3).symm,h.A,h.n,h.c,e1,e2,e3⟩
   ·have:=hh j o y hm
    rw [aY5 this.1 this.2]
    exact p2.hole j o y us' u' hm a1 a2
  ·show O6 c.Φ w (((c.setHd k u).setHd sh' (.tuple L.toArray)).hd k) isz ls' ie
   rw [bF4 hn3]
   exact q2
  ·trivial
 ·rcases lk3 hl with ⟨rfl,rfl⟩|⟨_,rfl,rfl⟩|⟨_,_,rfl,rfl⟩
  ·rcases hf with hf|⟨v,hv,hb⟩
   ·rw [aY5 hn1 hn2] at hf
    exact .inr (foot_ b (.inl hf))
   ·rw [bO0,aY3] at hv
    obtain ⟨j,o,hv⟩:=(hL v).1 hv
    exact .inr (foot_ b (innf (hmon hv).1 hb))
  ·have hf:(((c.setHd k u).setHd sh' (.tuple L.toArray)).hd k).ownBlock=some b:=hf
   rw [bF4 hn3] at hf
   exact .inr (foot_ b (innf hin hf))
  ·exact hf.elim
 ·have key:∀b,foot ((c.setHd x u).setHd sh' (.tuple L.toArray)) id (.deep sz e cols l ((i,off,x)::hs) sh') b→(((c.setHd x u).setHd sh' (.tuple L.toArray)).hd x).ownBlock=some b→False:=fun b h1 h2=>by
   rw [bF4 hn3] at h2
   rcases h1 with h1|⟨v,hv,hb⟩
   ·rw [aY5 hn1 hn2] at h1
    exact p4 i off u b hin h1 h2
   ·rw [bO0,aY3] at hv
    obtain ⟨j,o,hv⟩:=(hL v).1 hv
    exact (hmon hv).2 (p2.apart j o v i off u b (hmon hv).1 hin hb h2)
  rcases lk3 hl with ⟨rfl,rfl⟩|⟨_,rfl,rfl⟩|⟨_,_,rfl,rfl⟩<;>rcases lk3 hl' with ⟨rfl,rfl⟩|⟨_,rfl,rfl⟩|⟨_,_,rfl,rfl⟩<;>first|exact hne rfl|exact hf.elim|exact hf'.elim|exact key b hf hf'|exact key b hf' hf
theorem Gh.attach {ts:Ts} {os:Os} (id y sh' i off:Nat) {sz e sh isz ie:Nat} {cols:aG8} {l l':List (List AV)} {hs:Hs} {ls:List (List AV)} {cs:List AV} (hid:lk os id=some (.deep sz e cols l hs sh)) (hy:lk os y=some (.row isz ls ie)) (hcol:lk cols off=some (isz,ie)) (hi:l[i]?=some cs)
  (hat:hAt hs off=some (i,y)) (hu:b07 hs=true) (hle:l'=l.set i (cs.set off (.sl isz ls))) (hn1:Nat.beq id y=false) (hn2:Nat.beq id sh'=false) (hn3:Nat.beq y sh'=false) (hn4:(hs.all fun p=>!Nat.beq p.2.2 sh')=true)
  (hf1:K9 [sh'] ts=true) (hf2:L8 [sh'] [(id,.deep sz e cols l' (aY2 hs off) sh'),(y,.gone),(sh',.gone)] os=true) :
  Gh Γ ts os (fun _:Unit=>ts) (fun _=>(id,.deep sz e cols l' (aY2 hs off) sh')::(y,.gone)::(sh',.gone)::os):=by
 have hn1:=J2 hn1
 have hn2:=J2 hn2
 have hn3:=J2 hn3
 have hh:∀j o z,(j,o,z)∈hs→z≠sh':=fun j o z hm=>by
  have:=List.all_eq_true.1 hn4 _ hm
  simp only [Bool.not_eq_true'] at this
  exact J2 this
 refine Gh.of (need:=[(id,.deep sz e cols l hs sh),(y,.row isz ls ie)]) (upd:=fun _=>[(id,.deep sz e cols l' (aY2 hs off) sh'),(y,.gone),(sh',.gone)]) (ex:=fun _=>[]) (news:=[sh']) ⟨hid,hy,trivial⟩ hf1 (fun _=>hf2) (fun _=>?_) fun c w hok _=>?_
 ·simp only [List.all_cons,List.all_nil,Bool.and_true]
  rw [G9 _ _ hn2,G9 _ _ hn3,p9]; rfl
 have g1:lk [(id,Obj.deep sz e cols l hs sh),(y,.row isz ls ie)] id=some (.deep sz e cols l hs sh):=p9 _ _ _
 have g2:lk [(id,Obj.deep sz e cols l hs sh),(y,.row isz ls ie)] y=some (.row isz ls ie):=by rw [G9 _ _ hn1,p9]
 obtain ⟨css,p1,p2,p3,p4⟩:=hok.rep id _ g1
 have ry:O6 c.Φ w (c.hd y) isz ls ie:=hok.rep y _ g2
 have hil:i < l.length:=(List.getElem?_eq_some_iff.1 hi).1
 have hci:css[i]?=some (css[i]'(by rw [p2.len]; exact hil)):=List.getElem?_eq_getElem _
 generalize css[i]'(by rw [p2.len]; exact hil)=us at hci
 obtain ⟨L,hL⟩:=bW2 css cols (aY2 hs off)
 have hcs:∀k cs2,l'[k]?=some cs2→(k=i∧cs2=cs.set off (.sl isz ls))∨(k≠i∧l[k]?=some cs2):=fun k cs2 h=>by
  rw [hle,List.getElem?_set] at h
  split at h
  ·rename_i e1; subst e1
   cases h; exact .inl ⟨rfl,rfl⟩
  ·rename_i e1; exact .inr ⟨fun h'=>e1 h'.symm,h⟩
 have way:∀{j o v},Inn css cols (aY2 hs off) j o v→(j=i∧o=off∧v=c.hd y)∨(Inn css cols hs j o v∧¬(j=i∧o=off)):=fun {j o v} ⟨us',p,a,b,d,hq⟩=>by
  by_cases e1:j=i∧o=off
  ·obtain ⟨rfl,rfl⟩:=e1
   exact .inl ⟨rfl,rfl,(p2.hole j o y us' v (bX8 hat) a d).1⟩
  ·refine .inr ⟨⟨us',p,a,b,d,fun ⟨z,hz⟩=>?_⟩,e1⟩
   by_cases e2:o=off
   ·subst e2
    exact e1 ⟨(cD1 hu hat hz).1,rfl⟩
   ·exact hq ⟨z,aY8.2 ⟨hz,e2⟩⟩
 have T1:∀b,foot c id (.deep sz e cols l hs sh) b→Touch c [(id,.deep sz e cols l hs sh),(y,.row isz ls ie)] [(id,.deep sz e cols l' (aY2 hs off) sh'),(y,.gone),(sh',.gone)] b:=fun b hb=>⟨id,_,g1,by rw [p9]; rfl,hb⟩
 have T2:∀b,(c.hd y).ownBlock=some b→Touch c [(id,.deep sz e cols l hs sh),(y,.row isz ls ie)] [(id,.deep sz e cols l' (aY2 hs off) sh'),(y,.gone),(sh',.gone)] b:=fun b hb=>⟨y,_,g2,by rw [G9 _ _ hn1,p9]; rfl,hb⟩
 have innf:∀{j o v b},Inn css cols hs j o v→v.ownBlock=some b→foot c id (.deep sz e cols l hs sh) b:=fun {j o v b} hv hb=>.inr ⟨v,(p3 v).2 ⟨j,o,hv⟩,hb⟩
 have sepy:∀b,foot c id (.deep sz e cols l hs sh) b→(c.hd y).ownBlock=some b→False:=fun b h1 h2=>hok.sep id y _ _ b hn1 g1 g2 h1 h2
 have ho1:∀z,z≠sh'→(c.setHd sh' (.tuple L.toArray)).hd z=c.hd z:=fun z hz=>by simp [Ctx.setHd,hz]
 have ho2:(c.setHd sh' (.tuple L.toArray)).hd sh'=.tuple L.toArray:=by simp [Ctx.setHd]
 refine ⟨(),c.setHd sh' (.tuple L.toArray),Post.mk' hok rfl rfl rfl rfl (Nat.le_refl _) (fun _ _ _=>rfl) (fun k hk=>⟨rfl,ho1 k (by rintro rfl; simp at hk)⟩) (fun k o hl=>?_) (fun k o b hl hf=>?_) (fun k k' o o' b hne hl hl' hf hf'=>?_),fun t y h=>by cases h⟩
 ·rcases lk3 hl with ⟨rfl,rfl⟩|⟨_,rfl,rfl⟩|⟨_,_,rfl,rfl⟩
  ·refine ⟨css,by rw [ho1 k hn2]; exact p1,⟨by rw [p2.len,hle,List.length_set],fun j us' cs2 a1 a2=>?_,fun j us' cs2 o isz' ie' u' a1 a2 a3 a4 a5=>?_,fun j o z us' u' hm a1 a2=>?_,fun j o v j' o' v' b h1 h2 b1 b2=>?_⟩,fun v=>by rw [ho2,aY3]; exact hL v,fun j o v b hv hb hvb=>?_⟩
   ·rcases hcs j cs2 a2 with ⟨rfl,rfl⟩|⟨_,a2⟩
    ·rw [hci] at a1; cases a1
     have old:=p2.cell j us cs hci hi
     refine ⟨by simpa using old.1,fun o u a b1 b2 hn=>?_⟩
     have:o≠off:=fun e1=>by rw [e1,hcol] at hn; cases hn
     rw [List.getElem?_set_ne (fun e1=>this e1.symm)] at b2
     exact old.2 o u a b1 b2 hn
    ·exact p2.cell j us' cs2 a1 a2
   ·rcases way (j:=j) (o:=o) (v:=u') ⟨us',_,a1,a3,a4,a5⟩ with ⟨rfl,rfl,rfl⟩|⟨⟨us2,p,c1,c2,c3,c4⟩,hne⟩
    ·rw [hcol] at a3; cases a3
     rcases hcs j cs2 a2 with ⟨_,rfl⟩|⟨h',_⟩
     ·refine ⟨ls,?_,ry⟩
      have:o < cs.length:=by
       have h1:=(p2.cell j us cs hci hi).1
       rw [hci] at a1; cases a1
       rw [←h1]; exact (List.getElem?_eq_some_iff.1 a4).1
      rw [List.getElem?_set_self this]
     ·exact absurd rfl h'
    ·rcases hcs j cs2 a2 with ⟨rfl,rfl⟩|⟨_,a2⟩
     ·have:o≠off:=fun e1=>hne ⟨rfl,e1⟩
      rw [hci] at a1; cases a1
      rw [List.getElem?_set_ne (fun e1=>this e1.symm)]
      exact p2.inner j us cs o isz' ie' u' hci hi a3 a4 c4
     ·exact p2.inner j us' cs2 o isz' ie' u' a1 a2 a3 a4 c4
   ·have hm':=aY8.1 hm
    rw [ho1 z (hh j o z hm'.1)]
    exact p2.hole j o z us' u' hm'.1 a1 a2
   ·rcases way h1 with ⟨rfl,rfl,rfl⟩|⟨q1,n1⟩<;>rcases way h2 with ⟨rfl,rfl,rfl⟩|⟨q2,n2⟩
    ·exact ⟨rfl,rfl⟩
    ·exact (sepy b (innf q2 b2) b1).elim
    ·exact (sepy b (innf q1 b1) b2).elim
    ·exact p2.apart j o v j' o' v' b q1 q2 b1 b2
   ·rw [ho1 k hn2] at hb
    rcases way hv with ⟨rfl,rfl,rfl⟩|⟨q1,_⟩
    ·exact sepy b (.inl hb) hvb
    ·exact p4 j o v b q1 hb hvb
  ·trivial
  ·trivial
 ·rcases lk3 hl with ⟨rfl,rfl⟩|⟨_,rfl,rfl⟩|⟨_,_,rfl,rfl⟩
  ·rcases hf with hf|⟨v,hv,hb⟩
   ·rw [ho1 k hn2] at hf
    exact .inr (T1 b (.inl hf))
   ·rw [ho2,aY3] at hv
    obtain ⟨j,o,hv⟩:=(hL v).1 hv
    rcases way hv with ⟨_,_,rfl⟩|⟨q1,_⟩
    ·exact .inr (T2 b hb)
    ·exact .inr (T1 b (innf q1 hb))
  ·exact hf.elim
  ·exact hf.elim
 ·rcases lk3 hl with ⟨rfl,rfl⟩|⟨_,rfl,rfl⟩|⟨_,_,rfl,rfl⟩<;>rcases lk3 hl' with ⟨rfl,rfl⟩|⟨_,rfl,rfl⟩|⟨_,_,rfl,rfl⟩<;>first|exact hne rfl|exact hf.elim|exact hf'.elim
end
section
variable {Γ:Fun} {P:Program}
theorem G5.fzAllG {ts:Ts} {os:Os} (id:Nat) {sz:Nat} {ls:List (List AV)} {ob:Obj} (hid:lk os id=some ob) (hz:∀(c:Ctx) (w:World) (v:Value) (g:Os),P9 c w g→lk g id=some ob→Rd c w v (.own id)→Rd (c.fz g) w v (.sl sz ls)) {a:Act} {w:World} (hr:G5 Γ ts os a w):G5 Γ (bN0 id sz ls ts) ((id,.gone)::bF2 id sz ls os) a w:=by
 obtain ⟨cx,⟨h1,h2,h3,h4,h5⟩,h6⟩:=hr
 have hsub:∀i o,lk [(id,ob)] i=some o→lk os i=some o:=fun i o hl=>by
  rw [y7] at hl
  split at hl
  ·rename_i e1; subst e1; cases hl; exact hid
  ·cases hl
 have hok1:=h4.sub hsub
 have hp:=Post.freeze hok1
 have hfr:P9 (cx.fz [(id,ob)]) w (K5 [(id,ob)]++os):=h4.frame hsub hp (fun _ h=>(by cases h)) (fun _ _ _ _ _ h=>(by cases h))
 have hk:∀v a,Rd cx w v a→Rd (cx.fz [(id,ob)]) w v a:=fun v a hr=>Rd.mono (c:=cx) (c':=cx.fz [(id,ob)]) (fun _ _=>rfl) (fun _ h=>Or.inl h) (fun _ _=>⟨rfl,rfl⟩) hr
 have h0:∀v,Rd cx w v (.own id)→Rd (cx.fz [(id,ob)]) w v (.sl sz ls):=fun v hv=>hz cx w v _ hok1 (p9 _ _ _) hv
 have way:∀i o,lk ((id,Obj.gone)::bF2 id sz ls os) i=some o→∃o',lk (K5 [(id,ob)]++os) i=some o'∧(∀b,foot (cx.fz [(id,ob)]) i o b↔foot (cx.fz [(id,ob)]) i o' b)∧aH8 (cx.fz [(id,ob)]) w i o:=fun i o hl=>by
  have hl0:=hl
  rw [y7] at hl
  split at hl
  ·rename_i e1
   subst e1
   cases hl
   exact ⟨.gone,by simp [K5,p9],fun _=>Iff.rfl,trivial⟩
  ·rename_i e1
   rw [b41] at hl
   obtain ⟨o',ho',rfl⟩:=Option.map_eq_some_iff.1 hl
   have hl2:lk (K5 [(id,ob)]++os) i=some o':=by simp only [K5,List.cons_append,List.nil_append]; rw [G9 _ _ e1]; exact ho'
   have hrep:=hfr.rep i o' hl2
   refine ⟨o',hl2,fun b=>?_,?_⟩
   ·cases o'<;>exact Iff.rfl
   ·cases o' with
    |box cs e2 =>
     obtain ⟨us,q1,q2⟩:=h4.rep i _ ho'
     exact ⟨us,q1,F6.fzvs hk h0 cs q2⟩
    |_=>exact hrep
 refine ⟨cx.fz [(id,ob)],⟨h1,h2,fun t x hl=>?_,⟨fun i o hl=>?_,fun i o b hl hf=>?_,fun i i' o o' b hne hl hl' hf hf'=>?_,hfr.phi⟩,?_⟩,h6⟩
 ·rw [b63] at hl
  obtain ⟨y,hy,rfl⟩:=Option.map_eq_some_iff.1 hl
  obtain ⟨v,q1,q2⟩:=h3 t y hy
  exact ⟨v,q1,Rd.fzv hk h0 y q2⟩
 ·obtain ⟨_,_,_,h⟩:=way i o hl; exact h
 ·obtain ⟨o1,g1,g2,_⟩:=way i o hl; exact hfr.lt i o1 b g1 ((g2 b).1 hf)
 ·obtain ⟨o1,g1,g2,_⟩:=way i o hl
  obtain ⟨o2,k1,k2,_⟩:=way i' o' hl'
  exact hfr.sep i i' o1 o2 b hne g1 k1 ((g2 b).1 hf) ((k2 b).1 hf')
 ·have hinv:Inv Γ (cx.fz [(id,ob)]) w (K5 [(id,ob)]++os):=h5.post h4 hsub hp (fun _ h=>(by cases h)) (fun _ _ _ _ x hx=>(by cases hx))
  exact ⟨hinv.wos,hinv.tape,hinv.output,hinv.size,hinv.phi,hinv.phiNew,hinv.keep,fun i o b hl hf=>by
   obtain ⟨o1,g1,g2,_⟩:=way i o hl
   exact hinv.feet i o1 b g1 ((g2 b).1 hf)⟩
theorem j5.fzAllD {c:Code} {ts:Ts} {os:Os} {Q:Qt} (id:Nat) {sz e sh:Nat} {cols:aG8} {l:List (List AV)} (hid:lk os id=some (.deep sz e cols l [] sh)) (h:j5 P Γ c (bN0 id sz l ts) ((id,.gone)::bF2 id sz l os) Q):j5 P Γ c ts os Q :=
 ⟨fun a w hr=>h.run a w (hr.fzAllG id hid fun _ _ _ _ hok hg hr=>bT8 hok hg hr)⟩
theorem y5.fzAllD {ts:Ts} {os:Os} {Q:Qt} (id:Nat) {sz e sh:Nat} {cols:aG8} {l:List (List AV)} (hid:lk os id=some (.deep sz e cols l [] sh)) (h:y5 Γ (bN0 id sz l ts) ((id,.gone)::bF2 id sz l os) Q):y5 Γ ts os Q :=
 ⟨fun a w hr=>h.run a w (hr.fzAllG id hid fun _ _ _ _ hok hg hr=>bT8 hok hg hr)⟩
theorem Gh.toDeep {ts:Ts} {os:Os} (id sh:Nat) (cols:aG8) {sz e:Nat} (hid:lk os id=some (.row sz [] e)) (hn1:Nat.beq id sh=false) (hf1:K9 [sh] ts=true) (hf2:L8 [sh] [(id,.deep sz e cols [] [] sh),(sh,.gone)] os=true) :
  Gh Γ ts os (fun _:Unit=>ts) (fun _=>(id,.deep sz e cols [] [] sh)::(sh,.gone)::os):=by
 have hn1:=J2 hn1
 refine Gh.of (need:=[(id,.row sz [] e)]) (upd:=fun _=>[(id,.deep sz e cols [] [] sh),(sh,.gone)]) (ex:=fun _=>[]) (news:=[sh]) ⟨hid,trivial⟩ hf1 (fun _=>hf2) (fun _=>?_) fun c w hok _=>?_
 ·simp only [List.all_cons,List.all_nil,Bool.and_true]
  rw [G9 _ _ hn1,p9]; rfl
 obtain ⟨css,p1,p2,p3⟩:=hok.rep id _ (p9 _ _ _)
 have hc0:css=[]:=List.eq_nil_of_length_eq_zero (by simpa using p2)
 subst hc0
 have ho:(c.setHd sh (.tuple #[])).hd id=c.hd id:=by simp [Ctx.setHd,hn1]
 have hs:(c.setHd sh (.tuple #[])).hd sh=.tuple #[]:=by simp [Ctx.setHd]
 have no:∀{i off v},¬Inn [] cols [] i off v:=fun {i off v} ⟨us,p,h,_⟩=>by simp at h
 refine ⟨(),c.setHd sh (.tuple #[]),Post.mk' hok rfl rfl rfl rfl (Nat.le_refl _) (fun _ _ _=>rfl) (fun k hk=>⟨rfl,by have:k≠sh:=(by rintro rfl; simp at hk); simp [Ctx.setHd,this]⟩) (fun k o hl=>?_) (fun k o b hl hf=>?_) (fun k k' o o' b hne hl hl' hf hf'=>?_),fun t y h=>by cases h⟩
 ·rcases lk2 hl with ⟨rfl,rfl⟩|⟨_,rfl,rfl⟩
  ·refine ⟨[],by rw [ho]; exact p1,⟨rfl,fun i us cs h=>by simp at h,fun i us cs off isz ie u h=>by simp at h,fun i off x us u hm=>(by cases hm),fun i off v i' off' v' b h=>(no h).elim⟩,fun v=>by rw [hs]; exact ⟨fun h=>by simp [aJ1] at h,fun ⟨i,off,h⟩=>(no h).elim⟩,fun i off v b h=>(no h).elim⟩
  ·trivial
 ·rcases lk2 hl with ⟨rfl,rfl⟩|⟨_,rfl,rfl⟩
  ·rcases hf with hf|⟨v,hv,_⟩
   ·rw [ho] at hf
    exact .inr ⟨k,_,p9 _ _ _,by rw [p9]; rfl,hf⟩
   ·rw [hs] at hv; simp [aJ1] at hv
  ·exact hf.elim
 ·rcases lk2 hl with ⟨rfl,rfl⟩|⟨_,rfl,rfl⟩<;>rcases lk2 hl' with ⟨rfl,rfl⟩|⟨_,rfl,rfl⟩<;>first|exact hne rfl|exact hf.elim|exact hf'.elim
end
theorem Gh.reidD {Γ:Fun} {ts:Ts} {os:Os} (b off j g sg:Nat) {cs:List AV} {e2 sz e sh:Nat} {cols:aG8} {l:List (List AV)} (hb:lk os b=some (.box cs e2)) (hat:cs[off]?=some (.own j)) (hj:lk os j=some (.deep sz e cols l [] sh)) (hi:(AV.idss cs).all (fun i=>!Nat.beq i g && !Nat.beq i sg)=true)
  (hn1:Nat.beq b j=false) (hn2:Nat.beq b g=false) (hn3:Nat.beq j g=false) (hn4:Nat.beq b sg=false) (hn5:Nat.beq j sg=false) (hn6:Nat.beq g sg=false)
  (hf1:K9 [g,sg] ts=true) (hf2:L8 [g,sg] [(b,.box (cs.set off (.own g)) e2),(g,.deep sz e cols l [] sg),(sg,.gone),(j,.gone)] os=true) :
  Gh Γ ts os (fun _:Unit=>ts) (fun _=>(b,.box (cs.set off (.own g)) e2)::(g,.deep sz e cols l [] sg)::(sg,.gone)::(j,.gone)::os):=by
 have hn1:=J2 hn1
 have hn2:=J2 hn2
 have hn3:=J2 hn3
 have hn4:=J2 hn4
 have hn5:=J2 hn5
 have hn6:=J2 hn6
 refine Gh.of (need:=[(b,.box cs e2),(j,.deep sz e cols l [] sh)]) (upd:=fun _=>[(b,.box (cs.set off (.own g)) e2),(g,.deep sz e cols l [] sg),(sg,.gone),(j,.gone)]) (ex:=fun _=>[]) (news:=[g,sg]) ⟨hb,hj,trivial⟩ hf1 (fun _=>hf2) (fun _=>?_) fun c w hok _=>?_
 ·simp only [List.all_cons,List.all_nil,Bool.and_true,Bool.and_eq_true]
  exact ⟨by rw [G9 _ _ hn2,p9]; rfl,by rw [G9 _ _ hn4,G9 _ _ hn6,p9]; rfl⟩
 have kb:lk [(b,Obj.box cs e2),(j,.deep sz e cols l [] sh)] b=some (.box cs e2):=p9 _ _ _
 have kj:lk [(b,Obj.box cs e2),(j,.deep sz e cols l [] sh)] j=some (.deep sz e cols l [] sh):=by rw [G9 _ _ hn1,p9]
 obtain ⟨us,u1,u2⟩:=hok.rep b _ kb
 obtain ⟨css,p1,p2,p3,p4⟩:=hok.rep j _ kj
 have e1:((c.setHd g (c.hd j)).setHd sg (c.hd sh)).hd g=c.hd j:=bF4 hn6
 have e3:((c.setHd g (c.hd j)).setHd sg (c.hd sh)).hd sg=c.hd sh:=bO0
 have lk4':∀{k o},lk [(b,Obj.box (cs.set off (.own g)) e2),(g,.deep sz e cols l [] sg),(sg,.gone),(j,.gone)] k=some o→(k=b∧o=.box (cs.set off (.own g)) e2)∨(k=g∧o=.deep sz e cols l [] sg)∨o=.gone:=fun {k o} h=>by
  rw [y7] at h
  split at h
  ·rename_i e; subst e; cases h; exact .inl ⟨rfl,rfl⟩
  rw [y7] at h
  split at h
  ·rename_i e; subst e; cases h; exact .inr (.inl ⟨rfl,rfl⟩)
  rw [y7] at h
  split at h
  ·cases h; exact .inr (.inr rfl)
  rw [y7] at h
  split at h
  ·cases h; exact .inr (.inr rfl)
  ·cases h
 have T1:∀d,foot c b (.box cs e2) d→Touch c [(b,.box cs e2),(j,.deep sz e cols l [] sh)] [(b,.box (cs.set off (.own g)) e2),(g,.deep sz e cols l [] sg),(sg,.gone),(j,.gone)] d:=fun d hd=>⟨b,_,kb,by rw [p9]; rfl,hd⟩
 have T2:∀d,foot c j (.deep sz e cols l [] sh) d→Touch c [(b,.box cs e2),(j,.deep sz e cols l [] sh)] [(b,.box (cs.set off (.own g)) e2),(g,.deep sz e cols l [] sg),(sg,.gone),(j,.gone)] d:=fun d hd=>⟨j,_,kj,by rw [G9 _ _ hn1,G9 _ _ (Ne.symm hn3),G9 _ _ (Ne.symm hn5),p9]; rfl,hd⟩
 have F2:∀d,foot ((c.setHd g (c.hd j)).setHd sg (c.hd sh)) g (.deep sz e cols l [] sg) d→foot c j (.deep sz e cols l [] sh) d:=fun d hd=>by
  rcases hd with hd|⟨v,hv,hvd⟩
  ·rw [e1] at hd; exact .inl hd
  ·rw [e3] at hv; exact .inr ⟨v,hv,hvd⟩
 refine ⟨(),(c.setHd g (c.hd j)).setHd sg (c.hd sh),Post.mk' hok rfl rfl rfl rfl (Nat.le_refl _) (fun _ _ _=>rfl) (fun k hk=>⟨rfl,aY5 (by rintro rfl; simp at hk) (by rintro rfl; simp at hk)⟩) (fun k o hl=>?_) (fun k o d hl hf=>?_) (fun k k' o o' d hne hl hl' hf hf'=>?_),fun t y h=>by cases h⟩
 ·rcases lk4' hl with ⟨rfl,rfl⟩|⟨rfl,rfl⟩|rfl
  ·refine ⟨us,u1,?_⟩
   obtain ⟨v,v1,v2⟩:=u2.get hat
   have i1:(AV.idss cs).all (fun i=>!Nat.beq i g)=true:=by
    rw [List.all_eq_true] at hi ⊢
    intro x hx
    have:=hi x hx
    simp only [Bool.and_eq_true] at this
    exact this.1
   have i2:(AV.idss cs).all (fun i=>!Nat.beq i sg)=true:=by
    rw [List.all_eq_true] at hi ⊢
    intro x hx
    have:=hi x hx
    simp only [Bool.and_eq_true] at this
    exact this.2
   have u3:=(u2.setHd (v:=c.hd j) i1).setHd (v:=c.hd sh) i2
   obtain ⟨A,n,cap,q1,q2,q3,q4⟩:=v2.own_
   have:=u3.set off (v:=v) (a:=.own g) (by rw [q1]; exact .own (by rw [e1,q2]) q3 q4)
   rwa [set_self v1] at this
  ·refine ⟨css,by rw [e1]; exact p1,⟨p2.len,p2.cell,p2.inner,fun i off x us u hm=>(by cases hm),p2.apart⟩,fun v=>by rw [e3]; exact p3 v,fun i off v d hv hd=>p4 i off v d hv (by rwa [e1] at hd)⟩
  ·trivial
 ·rcases lk4' hl with ⟨rfl,rfl⟩|⟨rfl,rfl⟩|rfl
  ·exact .inr (T1 d hf)
  ·exact .inr (T2 d (F2 d hf))
  ·exact hf.elim
 ·have apart:∀d,foot c j (.deep sz e cols l [] sh) d→d=c.μ b→False:=fun d h e'=>hok.sep j b _ _ d (Ne.symm hn1) kj kb h e'
  rcases lk4' hl with ⟨rfl,rfl⟩|⟨rfl,rfl⟩|rfl<;>rcases lk4' hl' with ⟨rfl,rfl⟩|⟨rfl,rfl⟩|rfl<;>first|exact hne rfl|exact hf.elim|exact hf'.elim|exact apart d (F2 d hf) hf'|exact apart d (F2 d hf') hf
theorem Gh.resh {Γ:Fun} {ts:Ts} {os:Os} (id sh':Nat) {sz e sh:Nat} {cols:aG8} {l:List (List AV)} (hid:lk os id=some (.deep sz e cols l [] sh)) (hn1:Nat.beq id sh'=false) (hf1:K9 [sh'] ts=true) (hf2:L8 [sh'] [(id,.deep sz e cols l [] sh'),(sh',.gone)] os=true) :
  Gh Γ ts os (fun _:Unit=>ts) (fun _=>(id,.deep sz e cols l [] sh')::(sh',.gone)::os):=by
 have hn1:=J2 hn1
 refine Gh.of (need:=[(id,.deep sz e cols l [] sh)]) (upd:=fun _=>[(id,.deep sz e cols l [] sh'),(sh',.gone)]) (ex:=fun _=>[]) (news:=[sh']) ⟨hid,trivial⟩ hf1 (fun _=>hf2) (fun _=>?_) fun c w hok _=>?_
 ·simp only [List.all_cons,List.all_nil,Bool.and_true]
  rw [G9 _ _ hn1,p9]; rfl
 have g1:lk [(id,Obj.deep sz e cols l [] sh)] id=some (.deep sz e cols l [] sh):=p9 _ _ _
 obtain ⟨css,p1,p2,p3,p4⟩:=hok.rep id _ g1
 have e1:(c.setHd sh' (c.hd sh)).hd id=c.hd id:=by simp [Ctx.setHd,hn1]
 have e3:(c.setHd sh' (c.hd sh)).hd sh'=c.hd sh:=by simp [Ctx.setHd]
 have F2:∀d,foot (c.setHd sh' (c.hd sh)) id (.deep sz e cols l [] sh') d→foot c id (.deep sz e cols l [] sh) d:=fun d hd=>by
  rcases hd with hd|⟨v,hv,hvd⟩
  ·rw [e1] at hd; exact .inl hd
  ·rw [e3] at hv; exact .inr ⟨v,hv,hvd⟩
 refine ⟨(),c.setHd sh' (c.hd sh),Post.mk' hok rfl rfl rfl rfl (Nat.le_refl _) (fun _ _ _=>rfl) (fun k hk=>⟨rfl,by have:k≠sh':=(by rintro rfl; simp at hk); simp [Ctx.setHd,this]⟩) (fun k o hl=>?_) (fun k o d hl hf=>?_) (fun k k' o o' d hne hl hl' hf hf'=>?_),fun t y h=>by cases h⟩
 ·rcases lk2 hl with ⟨rfl,rfl⟩|⟨_,rfl,rfl⟩
  ·exact ⟨css,by rw [e1]; exact p1,⟨p2.len,p2.cell,p2.inner,fun i off x us u hm=>(by cases hm),p2.apart⟩,fun v=>by rw [e3]; exact p3 v,fun i off v d hv hd=>p4 i off v d hv (by rwa [e1] at hd)⟩
  ·trivial
 ·rcases lk2 hl with ⟨rfl,rfl⟩|⟨_,rfl,rfl⟩
  ·exact .inr ⟨k,_,g1,by rw [p9]; rfl,F2 d hf⟩
  ·exact hf.elim
 ·rcases lk2 hl with ⟨rfl,rfl⟩|⟨_,rfl,rfl⟩<;>rcases lk2 hl' with ⟨rfl,rfl⟩|⟨_,rfl,rfl⟩<;>first|exact hne rfl|exact hf.elim|exact hf'.elim
section
variable {α:Type} {enc:α→List AV}
theorem ltD {l:List α} {i:Nat} {x:α} (h:l[i]?=some x):i < (l.map enc).length:=by
 rw [List.length_map]; exact (List.getElem?_eq_some_iff.1 h).1
theorem I9 {l:List α} {i:Nat} {x:α} (h:l[i]?=some x):(l.map enc)[i]?=some (enc x):=by rw [List.getElem?_map,h]; rfl
theorem ixD {l:List α} {i:Int} {x:α} (h:F3 l i=some x) {X Y K:Prop} (hx:X) (hy:Y) (H:K):X∧Y∧0≤i∧i < ((l.map enc).length:Int)∧K :=
 ⟨hx,hy,O8 h H⟩
theorem G7 {l:List α} {i:Nat} {x:α} (h:l[i]?=some x) {A B C D K:Prop} (a:A) (b:B) (c:C) (d:D) (H:K):A∧B∧i < (l.map enc).length∧C∧D∧K:=⟨a,b,ltD h,c,d,H⟩
theorem aH9 {l:List α} {i:Nat} {x:α} (h:l[i]?=some x) {A B D K:Prop} (a:A) (b:B) (d:D) (H:K):A∧B∧i < (l.map enc).length∧D∧K:=⟨a,b,ltD h,d,H⟩
theorem stD {l:List α} {i:Nat} {x:α} (h:l[i]?=some x) {A B C:Prop} (a:A) (b:B) (c:C) {K:List AV→Prop} (H:K (enc x)):A∧B∧C∧i < (l.map enc).length∧∀cs,(l.map enc)[i]?=some cs→K cs :=
 ⟨a,b,c,I7 h H⟩
theorem Q5 {l:List α} {i:Nat} {x':α} {cs:List AV} (h:cs=enc x'):(l.set i x').map enc=(l.map enc).set i cs:=by rw [h,List.map_set]
theorem Z0 {l:List α} {i:Nat} {x:α} (h:l[i]?=some x) {cs:List AV} (hc:cs=enc x):l.map enc=(l.map enc).set i cs:=by
 rw [hc]; exact (set_self (I9 h)).symm
theorem setAt {l:List α} {i:Nat} {x y:α} (h:l[i]?=some x):(l.set i y)[i]?=some y:=List.getElem?_set_self (List.getElem?_eq_some_iff.1 h).1
theorem b44 {l1 l2:List α} {B:Nat} (hb:Nat.ble ((l1.length+l2.length)*B) 140737488355328=true) {a b c d e f g:Prop} (ha:a) (hb':b) (hc:c) (hd:d) (he:e) (hf:f) (hg:g) {K:List (List AV)→Prop} (H:K ((l1++l2).map enc)) :
  a∧b∧c∧d∧e∧f∧g∧((l1.map enc).length+(l2.map enc).length)*B≤140737488355328∧∀q,q=l1.map enc++l2.map enc→K q :=
 ⟨ha,hb',hc,hd,he,hf,hg,by rw [List.length_map,List.length_map]; exact Nat.le_of_ble_eq_true hb,fun q e=>by rw [e,←List.map_append]; exact H⟩
end
theorem b54 {α β:Type} {o:Option α} {A:Option β} {B:α→Option β} {r:β} (h:o.elim A B=some r):(o=none∧A=some r)∨∃x,o=some x∧B x=some r:=by
 cases o with
 |none=>exact .inl ⟨rfl,h⟩
 |some x=>exact .inr ⟨x,rfl,h⟩
theorem cM0 {e:Nat} (l:List V):bU4 (.row 2 (l.map eV) e):=fun cs h=>by
 obtain ⟨x,_,rfl⟩:=List.mem_map.1 h
 rfl
theorem cC3 {e vt:Nat} {hs:Hs} {sh:Nat} (l:List Ob):bU4 (.deep 2 e [(1,(2,vt))] (l.map D8) hs sh):=fun cs h off a ha=>by
 obtain ⟨x,_,rfl⟩:=List.mem_map.1 h
 cases off with
 |zero=>simp only [D8,List.getElem?_cons_zero] at ha; cases ha; rfl
 |succ off =>
  cases off with
  |zero =>
   simp only [D8,List.getElem?_cons_succ,List.getElem?_cons_zero] at ha
   cases ha
   exact ⟨2,_,rfl,fun cs' h'=>by obtain ⟨y,_,rfl⟩:=List.mem_map.1 h'; rfl⟩
  |succ off=>simp [D8] at ha
theorem Spec.drop1 {P:Program} {f:Nat} {need upd:Os} {av:AV} {news:List Nat} {α:Type} {enc:α→List AV} {l:List α} {n sz:Nat} (h:Spec P f need [.sl sz (List.map enc (l.drop n))] av upd news):Spec P f need [.sl sz ((List.map enc l).drop n)] av upd news:=by
 rw [←List.map_drop]; exact h
theorem Gh.drop {Γ:Fun} {ts:Ts} {os:Os} (id:Nat) {o:Obj} (hid:lk os id=some o):Gh Γ ts os (fun _:Unit=>ts) (fun _=>(id,.gone)::os) :=
 Gh.of (need:=[(id,o)]) (upd:=fun _=>[(id,.gone)]) (ex:=fun _=>[]) (news:=[]) ⟨hid,trivial⟩ rfl (fun _=>rfl) (fun _=>rfl) fun c w hok _ =>
  ⟨(),c,Post.mk' hok rfl rfl rfl rfl (Nat.le_refl _) (fun _ _ _=>rfl) (fun k _=>⟨rfl,rfl⟩) (fun k o' hl=>by
   obtain ⟨_,rfl⟩:=lk1 hl
   trivial) (fun k o' b hl hf=>by
   obtain ⟨_,rfl⟩:=lk1 hl
   exact hf.elim) (fun k k' o' o2 b hne hl hl' hf hf'=>by
   obtain ⟨_,rfl⟩:=lk1 hl
   exact hf.elim),fun t y h=>by cases h⟩
end Go.Proofs.YtibjcppjfkamhaaGreatDoor
