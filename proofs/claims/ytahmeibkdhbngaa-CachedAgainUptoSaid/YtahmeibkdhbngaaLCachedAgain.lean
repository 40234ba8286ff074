/- The plain law of qclaw8.CachedAgain. No program in sight. -/
import Derived.Test.YtahmeibkdhbngaaPl43
namespace Go.Proofs.Ytahmeibkdhbngaa
open Go.RowKit
set_option linter.unusedVariables false
def aE1 (s:St) (e c:Int):List Ce→Prop
 |[]=>False
 |x::l=>if x.site=s then x.epoch=e∧∃y∈x.lines,y.cls=c else aE1 s e c l
def aO7 (e:Int) (l:List Ce):Prop:=∃x∈l,x.many=true∧x.epoch=e
theorem cC1 {c:Int}:∀{l:List Ln},(∃y∈l,y.cls=c)→(∀y∈l,0≤y.found)→0≤aT1 c l
 |[],h,_=>by obtain ⟨y,hy,_⟩:=h; cases hy
 |y::l,h,hf=>by
  rw [aT1]
  split
  ·exact hf y (by simp)
  ·rename_i e
   obtain ⟨z,hz,hc⟩:=h
   rcases List.mem_cons.1 hz with rfl|hz
   ·exact absurd hc e
   ·exact cC1 ⟨z,hz,hc⟩ fun u hu=>hf u (by simp [hu])
theorem bT1 {w:Wd} {s:St} {c:Int}:∀{l:List Ce},Z8 w l→aE1 s w.epoch c l→0≤Q9 s w.epoch c l
 |[],_,h=>h.elim
 |x::l,hr,h=>by
  rw [aE1] at h
  rw [Q9]
  by_cases hs:x.site=s
  ·rw [if_pos hs] at h ⊢
   rw [if_pos h.1]
   refine cC1 h.2 fun y hy=>?_
   obtain ⟨n,_,h2,h3⟩:=hr x (by simp) h.1 y hy
   obtain ⟨z,_,hz,_⟩:=bI6 h2
   rw [←h3]
   exact (C8 hz).1
  ·rw [if_neg hs] at h ⊢
   exact bT1 (fun z hz=>hr z (by simp [hz])) h
theorem c55 {c:Int} {l:List Ln} (h:0≤ixf (fun t:Ln=>decide (t.cls=c)) l):∃y∈l,y.cls=c:=by
 unfold ixf at h
 cases hf:l.findIdx? (fun t:Ln=>decide (t.cls=c)) with
 |none=>rw [hf] at h; exact absurd h (by decide)
 |some i =>
  obtain ⟨hi,hp,_⟩:=List.findIdx?_eq_some_iff_getElem.1 hf
  exact ⟨l[i],List.getElem_mem hi,of_decide_eq_true hp⟩
theorem cF3 {e c f:Int} {x:Ce}:(∃y∈(aJ0 e c f x).lines,y.cls=c)∨(aJ0 e c f x).many=true:=by
 unfold aJ0 K9
 split
 ·rename_i h
  rcases h with h|h
  ·exact .inr h
  ·exact .inl (c55 h)
 ·split
  ·exact .inr rfl
  ·exact .inl ⟨⟨c,f⟩,by simp,rfl⟩
theorem cQ0 {e c f:Int} {x:Ce} (he:x.epoch=e):(∀y∈x.lines,y∈(aJ0 e c f x).lines)∨(aJ0 e c f x).many=true:=by
 unfold aJ0 K9 aB7
 rw [if_pos he]
 split
 ·exact .inl fun y hy=>hy
 ·split
  ·exact .inr rfl
  ·exact .inl fun y hy=>by simp [hy]
theorem cR4 {e c f:Int} {x:Ce} (he:x.epoch=e) (h:x.many=true):(aJ0 e c f x).many=true:=by
 unfold aJ0 K9 aB7
 rw [if_pos he,if_pos (.inl h)]
 exact h
theorem cG5 {s:St} {e c f:Int}:∀{l:List Ce},aE1 s e c (aG4 s e c f l)∨aO7 e (aG4 s e c f l)
 |[]=>by
  rw [aG4]
  rcases cF3 (e:=e) (c:=c) (f:=f) (x:=⟨s,e,false,[]⟩) with h|h
  ·left; rw [aE1,if_pos (Z5 _ _ _ _).1]; exact ⟨(Z5 _ _ _ _).2,h⟩
  ·exact .inr ⟨_,by simp,h,(Z5 _ _ _ _).2⟩
 |x::l=>by
  rw [aG4]
  by_cases hs:x.site=s
  ·rw [if_pos hs]
   rcases cF3 (e:=e) (c:=c) (f:=f) (x:=x) with h|h
   ·left; rw [aE1,if_pos ((Z5 _ _ _ _).1.trans hs)]; exact ⟨(Z5 _ _ _ _).2,h⟩
   ·exact .inr ⟨_,List.mem_cons_self,h,(Z5 _ _ _ _).2⟩
  ·rw [if_neg hs]
   rcases cG5 (s:=s) (e:=e) (c:=c) (f:=f) (l:=l) with h|⟨z,h1,h2⟩
   ·left; rw [aE1,if_neg hs]; exact h
   ·exact .inr ⟨z,by simp [h1],h2⟩
theorem b61 {s s':St} {e c c' f:Int}:∀{l:List Ce},aE1 s' e c' l→aE1 s' e c' (aG4 s e c f l)∨aO7 e (aG4 s e c f l)
 |[],h=>h.elim
 |x::l,h=>by
  rw [aE1] at h
  rw [aG4]
  by_cases hs:x.site=s
  ·rw [if_pos hs]
   by_cases hs':x.site=s'
   ·rw [if_pos hs'] at h
    obtain ⟨h1,y,h2,h3⟩:=h
    rcases cQ0 (c:=c) (f:=f) h1 with k|k
    ·left; rw [aE1,if_pos ((Z5 _ _ _ _).1.trans hs')]; exact ⟨(Z5 _ _ _ _).2,y,k y h2,h3⟩
    ·exact .inr ⟨_,List.mem_cons_self,k,(Z5 _ _ _ _).2⟩
   ·rw [if_neg hs'] at h
    left
    rw [aE1,if_neg (by rw [(Z5 _ _ _ _).1]; exact hs')]
    exact h
  ·rw [if_neg hs]
   by_cases hs':x.site=s'
   ·rw [if_pos hs'] at h
    left; rw [aE1,if_pos hs']; exact h
   ·rw [if_neg hs'] at h
    rcases b61 (s:=s) (c:=c) (f:=f) h with k|⟨z,k1,k2⟩
    ·left; rw [aE1,if_neg hs']; exact k
    ·exact .inr ⟨z,by simp [k1],k2⟩
theorem b46 {s:St} {e c f:Int}:∀{l:List Ce},aO7 e l→aO7 e (aG4 s e c f l)
 |[],h=>by obtain ⟨x,hx,_⟩:=h; cases hx
 |x::l,h=>by
  obtain ⟨z,hz,h1,h2⟩:=h
  rw [aG4]
  by_cases hs:x.site=s
  ·rw [if_pos hs]
   rcases List.mem_cons.1 hz with rfl|hz
   ·exact ⟨_,List.mem_cons_self,cR4 h2 h1,(Z5 _ _ _ _).2⟩
   ·exact ⟨z,by simp [hz],h1,h2⟩
  ·rw [if_neg hs]
   rcases List.mem_cons.1 hz with rfl|hz
   ·exact ⟨_,List.mem_cons_self,h1,h2⟩
   ·obtain ⟨y,k1,k2⟩:=b46 (s:=s) (c:=c) (f:=f) ⟨z,hz,h1,h2⟩
    exact ⟨y,by simp [k1],k2⟩
def aF4 (w:Wd) (e:St×Int):Prop:=0≤(F5 w (nameAt w e.1) e.2).2
theorem b62 {s:St} {e c:Int}:∀{l:List Ce},0≤Q9 s e c l→aE1 s e c l
 |[],h=>by simp [Q9] at h
 |x::l,h=>by
  rw [Q9] at h
  rw [aE1]
  by_cases hs:x.site=s
  ·rw [if_pos hs] at h ⊢
   by_cases he:x.epoch=e
   ·rw [if_pos he] at h
    obtain ⟨y,h1,h2,_⟩:=bN6 h
    exact ⟨he,y,h1,h2⟩
   ·rw [if_neg he] at h; exact absurd h (by decide)
  ·rw [if_neg hs] at h ⊢
   exact b62 h
section
variable {w:Wd} (hw:aO6 w)
include hw
theorem bI7 {sb:q9} {e:St×Int} (hs:∃m,aT0 w e.1 m) (hr:Z8 w sb.cells) :
  (Q7 w sb e).cells=(if 0≤Q9 e.1 w.epoch e.2 sb.cells then sb.cells else if (F5 w (nameAt w e.1) e.2).2 < 0 then sb.cells else aG4 e.1 w.epoch e.2 (F5 w (nameAt w e.1) e.2).1 sb.cells) ∧
  (Q7 w sb e).hits=(if 0≤Q9 e.1 w.epoch e.2 sb.cells then wr (sb.hits+1) else sb.hits)∧(Q7 w sb e).not=(if 0≤Q9 e.1 w.epoch e.2 sb.cells then sb.not else wr (sb.not+1)):=by
 obtain ⟨m,hm⟩:=hs
 have hn:=aS3 hw hm
 obtain ⟨_,_,c3,c4⟩:=bS9 (c:=e.2) hw hr hm
 unfold Q7
 simp only [hn,c3,c4,decide_eq_true_eq]
 exact ⟨trivial,trivial,trivial⟩
theorem cY5 {sb:q9} {e:St×Int} (hs:∃m,aT0 w e.1 m) (hr:Z8 w sb.cells) :
  (aO7 w.epoch sb.cells→aO7 w.epoch (Q7 w sb e).cells)∧(aF4 w e→aE1 e.1 w.epoch e.2 (Q7 w sb e).cells∨aO7 w.epoch (Q7 w sb e).cells) ∧
  ∀s c,aE1 s w.epoch c sb.cells→aE1 s w.epoch c (Q7 w sb e).cells∨aO7 w.epoch (Q7 w sb e).cells:=by
 rw [(bI7 hw hs hr).1]
 by_cases hg:0≤Q9 e.1 w.epoch e.2 sb.cells
 ·rw [if_pos hg]
  exact ⟨id,fun _=>.inl (b62 hg),fun s c h=>.inl h⟩
 ·rw [if_neg hg]
  by_cases hf:(F5 w (nameAt w e.1) e.2).2 < 0
  ·rw [if_pos hf]
   exact ⟨id,fun h=>absurd hf (by unfold aF4 at h; omega),fun s c h=>.inl h⟩
  ·rw [if_neg hf]
   exact ⟨b46,fun _=>cG5,fun s c h=>b61 h⟩
theorem b59 : ∀{ev:List (St×Int)} {sb:q9} {z:Nat},aX0 w ev→SzB z sb→Z8 w sb.cells →
  aO7 w.epoch (ev.foldl (Q7 w) sb).cells∨((∀s c,aE1 s w.epoch c sb.cells→aE1 s w.epoch c (ev.foldl (Q7 w) sb).cells)∧¬aO7 w.epoch sb.cells∧∀e∈ev,aF4 w e→aE1 e.1 w.epoch e.2 (ev.foldl (Q7 w) sb).cells)
 |[],sb,z,_,_,_=>by
  by_cases h:aO7 w.epoch sb.cells
  ·exact .inl h
  ·exact .inr ⟨fun _ _ h=>h,h,fun e he=>by cases he⟩
 |e::ev,sb,z,hok,hz,hr=>by
  have hs:=hok e (by simp)
  obtain ⟨t1,t2⟩:=bY9 hw hs hz hr
  obtain ⟨m1,m2,m3⟩:=cY5 hw hs hr
  rw [List.foldl_cons]
  rcases b59 (show aX0 w ev from fun x hx=>hok x (List.mem_cons_of_mem _ hx)) t1 t2 with h|⟨h1,h2,h3⟩
  ·exact .inl h
  ·refine .inr ⟨fun s c h=>?_,fun h=>h2 (m1 h),fun x hx hf=>?_⟩
   ·rcases m3 s c h with k|k
    ·exact h1 s c k
    ·exact absurd k h2
   ·rcases List.mem_cons.1 hx with rfl|hx
    ·rcases m2 hf with k|k
     ·exact h1 _ _ k
     ·exact absurd k h2
    ·exact h3 x hx hf
theorem bD6 : ∀{ev:List (St×Int)} {sb:q9} {z:Nat},aX0 w ev→SzB z sb→Z8 w sb.cells→0≤sb.hits→0≤sb.not→sb.hits+sb.not+ev.length≤1000 →
  0≤(ev.foldl (Q7 w) sb).hits∧0≤(ev.foldl (Q7 w) sb).not∧(ev.foldl (Q7 w) sb).hits+(ev.foldl (Q7 w) sb).not=sb.hits+sb.not+ev.length
 |[],sb,z,_,_,_,h1,h2,_=>⟨h1,h2,by simp⟩
 |e::ev,sb,z,hok,hz,hr,h1,h2,h3=>by
  have hs:=hok e (by simp)
  obtain ⟨t1,t2⟩:=bY9 hw hs hz hr
  obtain ⟨_,c2,c3⟩:=bI7 hw hs hr
  simp only [List.length_cons] at h3
  rw [List.foldl_cons]
  have e1:wr (sb.hits+1)=sb.hits+1:=I4 (by unfold F9; omega)
  have e2:wr (sb.not+1)=sb.not+1:=I4 (by unfold F9; omega)
  rw [e1] at c2
  rw [e2] at c3
  have:=bD6 (show aX0 w ev from fun x hx=>hok x (List.mem_cons_of_mem _ hx)) t1 t2 (by rw [c2]; split<;>omega) (by rw [c3]; split<;>omega) (by rw [c2,c3]; split<;>omega)
  refine ⟨this.1,this.2.1,?_⟩
  rw [this.2.2,c2,c3,List.length_cons]
  split<;>omega
theorem b42 : ∀{ev:List (St×Int)} {sb:q9},aX0 w ev→Z8 w sb.cells→(∀e∈ev,aF4 w e→aE1 e.1 w.epoch e.2 sb.cells)→0≤sb.not→sb.not+ev.length≤1000 →
  (ev.foldl (Q7 w) sb).not≤sb.not+(ev.filter fun e=>decide ((F5 w (nameAt w e.1) e.2).2 < 0)).length
 |[],sb,_,_,_,_,_=>by simp
 |e::ev,sb,hok,hr,hh,h2,h3=>by
  have hs:=hok e (by simp)
  obtain ⟨c1,c2,c3⟩:=bI7 hw hs hr
  simp only [List.length_cons] at h3
  have e2:wr (sb.not+1)=sb.not+1:=I4 (by unfold F9; omega)
  have hcells:(Q7 w sb e).cells=sb.cells:=by
   rw [c1]
   by_cases hf:(F5 w (nameAt w e.1) e.2).2 < 0
   ·rw [if_pos hf]; split<;>rfl
   ·rw [if_pos (bT1 hr (hh e (by simp) (by unfold aF4; omega)))]
  rw [List.foldl_cons]
  have ih:=b42 (ev:=ev) (sb:=Q7 w sb e) (fun x hx=>hok x (List.mem_cons_of_mem _ hx)) (by rw [hcells]; exact hr) (fun x hx hf=>by rw [hcells]; exact hh x (List.mem_cons_of_mem _ hx) hf)
   (by rw [c3,e2]; split<;>omega) (by rw [c3,e2]; split<;>omega)
  refine Int.le_trans ih ?_
  rw [c3,e2,List.filter_cons]
  by_cases hf:(F5 w (nameAt w e.1) e.2).2 < 0
  ·rw [if_pos (decide_eq_true hf),List.length_cons]
   split<;>omega
  ·rw [if_pos (bT1 hr (hh e (by simp) (by unfold aF4; omega))),if_neg (by simpa using hf)]
   omega
end
def cZ8 (w:Wd) (c:Cf):Prop:=(∀e∈c.ev,aF4 w e)∨(c.err=10∧∃ev0 e,c.ev=ev0++[e]∧∀x∈ev0,aF4 w x)
theorem cP8 {w:Wd} {fuel:Int} {Q:Int→Int→Fs×Bool} (W:WOk w) (hw:aO6 w) (h1:0 < w.classes.length) (hQ:∀k j,(Q k j).2=false) {c c':Cf} (p:Path w fuel (fun _ k s=>F5 w s k) Q c c') (hI:c.err=0→bI2 w fuel c) (hl:cZ8 w c) (h0:c.err=0→∀e∈c.ev,aF4 w e):cZ8 w c':=by
 induction p with
 |refl=>exact hl
 |@step c c1 c2 he hne hst _ ih =>
  have hf:=h0 he
  have I:=hI he
  obtain ⟨a1,_,_⟩:=bY7 W h1 hQ I he hne hst
  rcases bU3 hst with h|⟨f,F,i,x,m,k,b1,b2,b3,b4,b5,b6,b7⟩
  ·exact ih a1 (.inl (by rw [h]; exact hf)) (fun _=>by rw [h]; exact hf)
  ·have hn:=aS3 hw (bH5 I.inv b1 b2 b4 b5)
   rcases b7 with ⟨b7,b8⟩|⟨b7,b8⟩
   ·exact ih a1 (.inr ⟨b8,c.ev,_,b6,hf⟩) (fun e=>by rw [b8] at e; cases e)
   ·have hall:∀e∈c1.ev,aF4 w e:=by
     rw [b6]
     intro e he
     rcases List.mem_append.1 he with he|he
     ·exact hf e he
     ·rw [List.mem_singleton] at he
      subst he
      unfold aF4
      rw [hn]
      exact b7
    exact ih a1 (.inl hall) (fun _=>hall)
theorem cX8 {w:Wd} {N:Nat} (hN:4194304≤N) (hs:Y1 w) (hp:aG6 N w) {c:O4} {fuel:Int} {r:Wd×aK0} {ev:List (St×Int)} (h:bO0 w c fuel r ev) :
  (∀e∈ev,aF4 w e)∨(r.2.err=10∧∃ev0 e,ev=ev0++[e]∧∀x∈ev0,aF4 w x):=by
 have W:=hp.wOk hN hs
 have hcl:0 < w.classes.length:=by have:=hp.many.1; omega
 rcases h with ⟨h1,h2,rfl⟩|⟨h1,c1,c',h2,h3,h4,rfl,rfl⟩
 ·exact .inl fun e he=>by cases he
 ·obtain ⟨c1',b1,b2,b3,b4,b5,b6⟩:=cD2 (Q:=noQ) hN hs hp (fun _ _=>rfl) c h1
  rw [h2] at b1
  cases b1
  have hev:=cC0 h2
  have hI1:c1.err=0→bI2 w fuel c1:=fun e=>⟨b6 e,by rw [hev]; simpa using b2,by rw [hev]; intro e he; cases he⟩
  rcases cP8 W hp.rise hcl (fun _ _=>rfl) h3 hI1 (.inl (by rw [hev]; intro e he; cases he)) (fun _=>by rw [hev]; intro e he; cases he) with h|⟨k1,k2⟩
  ·exact .inl h
  ·exact .inr ⟨by unfold bI9; rw [if_neg (by rw [k1]; decide)]; exact k1,k2⟩
theorem cF7 (N:Nat) (e:Int):∀(l:List Ce) (k:Nat),∃o,M9 N l k=some o∧(match o with|.ret r=>r=true|.next ()=>¬aO7 e l)
 |[],k=>⟨.next (),rfl,fun ⟨x,hx,_⟩=>by cases hx⟩
 |x::l,k=>by
  rw [M9]
  cases hm:x.many with
  |true=>exact ⟨.ret true,rfl,rfl⟩
  |false =>
   obtain ⟨o,h1,h2⟩:=cF7 N e l (k+1)
   refine ⟨o,by simpa using h1,?_⟩
   cases o with
   |ret r=>exact h2
   |next u =>
    rintro ⟨y,hy,h3,h4⟩
    rcases List.mem_cons.1 hy with rfl|hy
    ·rw [hm] at h3; cases h3
    ·exact h2 ⟨y,hy,h3,h4⟩
theorem bW6 (a0:Wd) (a1:O4) (h0:c94 a0) (h1:cI3 a1) (hb:bZ1 a0+bP8 a1≤1048576):∃N,aG9 N a0 a1=some true:=by
 have hal:aO1 4194304=some true:=by kernel_rfl
 obtain ⟨N,hN,hal⟩:∃N:Nat,4194304≤N∧aO1 N=some true:=⟨4194304,Nat.le_refl _,hal⟩
 refine ⟨N,?_⟩
 have hs:=cW8 (w:=a0) (by omega)
 unfold aG9
 obtain ⟨r,hr,hp⟩:=cM3 N a0 hN hs
 rw [hr,hal]
 simp only [Option.bind_some,Bool.not_true,cond_false]
 by_cases h:r=0
 ·have hp:=hp h
  have z0:SzB 0 ⟨⟨[],[],0⟩,⟨⟨0,0⟩,0,0⟩,[],[],0,0⟩:=⟨Nat.le_refl _,(fun x hx=>by cases hx),Nat.le_refl _,(fun x hx=>by cases hx)⟩
  have r0:Z8 a0 []:=fun c hc=>by cases hc
  obtain ⟨r,ev,sb,q1,q2,q3,q4,q5⟩:=b65 hN hs hp a1 (fuel:=400) [] [] 0 z0 (by omega) r0
  obtain ⟨t1,t2⟩:=bV1 hp.rise q4 z0 r0
  obtain ⟨n1,n2,n3⟩:=bD6 hp.rise q4 z0 r0 (Int.le_refl _) (Int.le_refl _) (by simp only; omega)
  have tm:=b59 hp.rise q4 z0 r0
  rw [←q3] at t1 t2 n1 n2 n3 tm
  have z1:SzB 401 ⟨⟨[],[],0⟩,⟨⟨0,0⟩,0,0⟩,sb.cells,sb.tallies,0,0⟩:=⟨Nat.le_trans t1.1 (by omega),fun x hx=>Nat.le_trans (t1.2.1 x hx) (by omega),Nat.le_trans t1.2.2.1 (by omega),fun x hx=>Nat.le_trans (t1.2.2.2 x hx) (by omega)⟩
  obtain ⟨s,ev',sb',p1,p2,p3,p4,p5⟩:=b65 hN hs hp a1 (fuel:=400) sb.cells sb.tallies 401 z1 (by omega) t2
  obtain ⟨rfl,rfl⟩:=bO0.det q2 p2
  obtain ⟨m1,m2,m3⟩:=bD6 hp.rise q4 z1 t2 (Int.le_refl _) (Int.le_refl _) (by simp only; omega)
  rw [←p3] at m1 m2 m3
  simp only at n3 m3
  have w1:wr (sb.hits+sb.not)=sb.hits+sb.not:=I4 (by unfold F9; omega)
  have w2:wr (sb'.hits+sb'.not)=sb'.hits+sb'.not:=I4 (by unfold F9; omega)
  have e3:sb.hits+sb.not=sb'.hits+sb'.not:=by omega
  obtain ⟨o,o1,o2⟩:=cF7 N a0.epoch sb.cells 0
  simp only [h,decide_true,Bool.not_true,cond_false,Option.bind_some,q1,p1,cR2,w1,w2,e3]
  rw [decide_eq_false (show ¬sb.hits < 0 by omega),decide_eq_false (show ¬sb'.hits < 0 by omega),decide_eq_false (show ¬sb.not < 0 by omega),decide_eq_false (show ¬sb'.not < 0 by omega),
   decide_eq_false (show ¬1000 < sb.hits by omega),decide_eq_false (show ¬1000 < sb.not by omega),decide_eq_false (show ¬1000 < sb'.hits by omega),decide_eq_false (show ¬1000 < sb'.not by omega)]
  simp only [cond_false,Option.bind_some,o1]
  cases o with
  |ret b =>
   have o2:b=true:=o2
   subst o2
   rfl
  |next u =>
   have o2:¬aO7 a0.epoch sb.cells:=o2
   rcases tm with tm|⟨_,_,tm⟩
   ·exact absurd tm o2
   have hn:=b42 hp.rise (sb:=⟨⟨[],[],0⟩,⟨⟨0,0⟩,0,0⟩,sb.cells,sb.tallies,0,0⟩) q4 t2 tm (Int.le_refl _) (by simp only; omega)
   rw [←p3] at hn
   simp only [Int.zero_add] at hn
   have hnone:∀l:List (St×Int),(∀e∈l,aF4 a0 e)→(l.filter fun e=>decide ((F5 a0 (nameAt a0 e.1) e.2).2 < 0))=[]:=fun l hl=>by
    rw [List.filter_eq_nil_iff]
    intro e he
    have:=hl e he
    unfold aF4 at this
    simp
    omega
   rcases cX8 hN hs hp q2 with hf|⟨hf,ev0,e,hev,hf2⟩
   ·rw [hnone ev hf] at hn
    simp only [List.length_nil] at hn
    have e0:sb'.not=0:=by omega
    by_cases he:r.2.err=10
    ·simp [he,e0]
    ·simp [he,e0]
   ·rw [hev,List.filter_append,hnone ev0 hf2,List.nil_append] at hn
    have:([e].filter fun e=>decide ((F5 a0 (nameAt a0 e.1) e.2).2 < 0)).length≤1:=Nat.le_trans (List.length_filter_le _ _) (by simp)
    have e1:sb'.not≤1:=by omega
    simp [hf,e1]
 ·simp only [h,decide_false,Bool.not_false,cond_true]
end Go.Proofs.Ytahmeibkdhbngaa
