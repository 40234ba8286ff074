import Derived.Test.YtahmeibkdhbngaaPl40
import Derived.Test.YtahmeibkdhbngaaPl23
/- Cells that remember what is so, over a run's sites. No program in sight. -/
namespace Go.Proofs.Ytahmeibkdhbngaa
open Go.RowKit
set_option linter.unusedVariables false
def aT0 (w:Wd) (s:St) (n:ByteArray):Prop:=∃x m i,∃j:Nat,w9 w.classes s.cls=some x∧x.methods[j]?=some m∧m.name=s.name∧w9 m.code s.pos=some i∧i.name=n
def nameAt (w:Wd) (s:St):ByteArray:=match w9 w.classes s.cls with
 |none=>ByteArray.empty
 |some x=>match ixN s.name x.methods with
  |none=>ByteArray.empty
  |some j=>match x.methods[j]? with
   |none=>ByteArray.empty
   |some m=>match w9 m.code s.pos with
    |none=>ByteArray.empty
    |some i=>i.name
theorem aS3 {w:Wd} (hw:aO6 w) {s:St} {n:ByteArray} (h:aT0 w s n):nameAt w s=n:=by
 obtain ⟨x,m,i,j,hx,hm,hn,hi,rfl⟩:=h
 have:=cJ0 (hw x (aR2 hx)) hm
 rw [hn] at this
 unfold nameAt
 simp only [hx,this,hm,hi]
def Q7 (w:Wd) (sb:q9) (e:St×Int):q9 :=
 ⟨sb.world,sb.ran,(aM9 w e.1 e.2 (nameAt w e.1) sb.cells).1,bI5 e.1 e.2 sb.tallies,
  if (aM9 w e.1 e.2 (nameAt w e.1) sb.cells).2.2.2=true then wr (sb.hits+1) else sb.hits,if (aM9 w e.1 e.2 (nameAt w e.1) sb.cells).2.2.2=true then sb.not else wr (sb.not+1)⟩
def Z8 (w:Wd) (l:List Ce):Prop:=∀c∈l,c.epoch=w.epoch→∀y∈c.lines,∃n,aT0 w c.site n∧0≤(F5 w n y.cls).2∧(F5 w n y.cls).1=y.found
def SzB (n:Nat) (sb:q9):Prop:=sb.cells.length≤n∧(∀x∈sb.cells,x.lines.length≤n)∧sb.tallies.length≤n∧∀t∈sb.tallies,t.classes.length≤n
def aX0 (w:Wd) (ev:List (St×Int)):Prop:=∀e∈ev,∃n,aT0 w e.1 n
theorem Z5 (e c f:Int) (x:Ce):(aJ0 e c f x).site=x.site∧(aJ0 e c f x).epoch=e:=by
 unfold aJ0 K9 aB7
 by_cases he:x.epoch=e
 ·rw [if_pos he]
  split
  ·exact ⟨rfl,he⟩
  ·split<;>exact ⟨rfl,he⟩
 ·rw [if_neg he]
  split
  ·exact ⟨rfl,rfl⟩
  ·split<;>exact ⟨rfl,rfl⟩
theorem bV8 (e c f:Int) (x:Ce):(∀y∈(aJ0 e c f x).lines,(x.epoch=e∧y∈x.lines)∨y=⟨c,f⟩)∧(aJ0 e c f x).lines.length≤x.lines.length+1:=by
 unfold aJ0 K9 aB7
 by_cases he:x.epoch=e
 ·rw [if_pos he]
  split
  ·exact ⟨fun y hy=>.inl ⟨he,hy⟩,by omega⟩
  ·split
   ·exact ⟨fun y hy=>by simp at hy,by simp⟩
   ·refine ⟨fun y hy=>?_,by simp⟩
    simp only [List.mem_append,List.mem_singleton] at hy
    rcases hy with hy|hy
    ·exact .inl ⟨he,hy⟩
    ·exact .inr hy
 ·rw [if_neg he]
  split
  ·exact ⟨fun y hy=>by simp at hy,by simp⟩
  ·split
   ·exact ⟨fun y hy=>by simp at hy,by simp⟩
   ·refine ⟨fun y hy=>?_,by simp⟩
    simp only [List.nil_append,List.mem_singleton] at hy
    exact .inr hy
theorem bT3 {s:St} {e c f:Int}:∀{l:List Ce} {x:Ce},x∈aG4 s e c f l→x∈l∨∃y,(y∈l∨y=⟨s,e,false,[]⟩)∧y.site=s∧x=aJ0 e c f y
 |[],x,h=>by
  rw [aG4,List.mem_singleton] at h
  exact .inr ⟨_,.inr rfl,rfl,h⟩
 |y::l,x,h=>by
  rw [aG4] at h
  split at h
  ·rename_i hs
   rcases List.mem_cons.1 h with h|h
   ·exact .inr ⟨y,.inl (by simp),hs,h⟩
   ·exact .inl (by simp [h])
  ·rcases List.mem_cons.1 h with h|h
   ·exact .inl (by simp [h])
   ·rcases bT3 h with h|⟨z,h1,h2⟩
    ·exact .inl (by simp [h])
    ·exact .inr ⟨z,h1.imp (fun h=>by simp [h]) id,h2⟩
theorem b94 {s:St} {e c f:Int}:∀l:List Ce,(aG4 s e c f l).length≤l.length+1
 |[]=>by simp [aG4]
 |x::l=>by
  rw [aG4]
  split
  ·simp
  ·have:=b94 (s:=s) (e:=e) (c:=c) (f:=f) l
   simp only [List.length_cons]
   omega
theorem cK4 {w:Wd} {s:St} {n:ByteArray} {c:Int} {l:List Ce} (h:Z8 w l) (hs:aT0 w s n) (hf:0≤(F5 w n c).2):Z8 w (aG4 s w.epoch c (F5 w n c).1 l):=by
 intro x hx he y hy
 rcases bT3 hx with hx|⟨z,hz,hzs,rfl⟩
 ·exact h x hx he y hy
 ·rw [(Z5 _ _ _ _).1,hzs]
  rcases (bV8 _ _ _ _).1 y hy with ⟨h1,h2⟩|rfl
  ·rcases hz with hz|rfl
   ·have:=h z hz h1 y h2
    rwa [hzs] at this
   ·simp at h2
  ·exact ⟨n,hs,hf,rfl⟩
theorem bN6 {c:Int}:∀{l:List Ln},0≤aT1 c l→∃y∈l,y.cls=c∧y.found=aT1 c l
 |[],h=>by simp [aT1] at h
 |y::l,h=>by
  rw [aT1] at h ⊢
  split
  ·rename_i e; exact ⟨y,by simp,e,rfl⟩
  ·rename_i e
   rw [if_neg e] at h
   obtain ⟨z,h1,h2⟩:=bN6 h
   exact ⟨z,by simp [h1],h2⟩
theorem cB5 {s:St} {e c:Int}:∀{l:List Ce},0≤Q9 s e c l→∃x∈l,x.site=s∧x.epoch=e∧∃y∈x.lines,y.cls=c∧y.found=Q9 s e c l
 |[],h=>by simp [Q9] at h
 |x::l,h=>by
  rw [Q9] at h ⊢
  by_cases hs:x.site=s
  ·rw [if_pos hs] at h ⊢
   by_cases he:x.epoch=e
   ·rw [if_pos he] at h ⊢
    exact ⟨x,by simp,hs,he,bN6 h⟩
   ·rw [if_neg he] at h; exact absurd h (by decide)
  ·rw [if_neg hs] at h ⊢
   obtain ⟨z,h1,h2⟩:=cB5 h
   exact ⟨z,by simp [h1],h2⟩
theorem cL0 {w:Wd} (hw:aO6 w) {s:St} {n:ByteArray} {c:Int} {l:List Ce} (h:Z8 w l) (hs:aT0 w s n) (hg:0≤Q9 s w.epoch c l):Q9 s w.epoch c l=(F5 w n c).1∧0≤(F5 w n c).2∧Q9 s w.epoch c l < w.classes.length:=by
 obtain ⟨x,hx,h1,h2,y,hy,h3,h4⟩:=cB5 hg
 obtain ⟨n',k1,k2,k3⟩:=h x hx h2 y hy
 rw [h1] at k1
 obtain rfl:n'=n:=(aS3 hw k1).symm.trans (aS3 hw hs)
 rw [h3] at k2 k3
 obtain ⟨z,_,hz,_⟩:=bI6 k2
 have:=(bP6 hz).2
 rw [←h4,←k3]
 exact ⟨rfl,k2,this⟩
theorem bS9 {w:Wd} (hw:aO6 w) {s:St} {n:ByteArray} {c:Int} {l:List Ce} (h:Z8 w l) (hs:aT0 w s n):(aM9 w s c n l).2.1=(F5 w n c).1∧(aM9 w s c n l).2.2.1=(F5 w n c).2 ∧
  (aM9 w s c n l).2.2.2=decide (0≤Q9 s w.epoch c l)∧(aM9 w s c n l).1=(if 0≤Q9 s w.epoch c l then l else if (F5 w n c).2 < 0 then l else aG4 s w.epoch c (F5 w n c).1 l):=by
 unfold aM9
 by_cases hg:0≤Q9 s w.epoch c l
 ·obtain ⟨g1,g2,g3⟩:=cL0 hw h hs hg
  rw [if_pos ⟨hg,g3⟩,if_pos hg,decide_eq_true hg,g1,cH0 g2]
  exact ⟨rfl,rfl,rfl,rfl⟩
 ·rw [if_neg (fun e=>hg e.1),if_neg hg,decide_eq_false hg]
  split<;>exact ⟨rfl,rfl,rfl,rfl⟩
theorem cV0 {s:St} {c:Int} {n:Nat} {l:List Tl} (h:l.length≤n) (h2:∀t∈l,t.classes.length≤n):(bI5 s c l).length≤n+1∧∀t∈bI5 s c l,t.classes.length≤n+1:=by
 have hb:∀l:List Tl,(∀t∈l,t.classes.length≤n)→∀t∈(aK2 s c l).1,t.classes.length≤n+1:=by
  intro l
  induction l with
  |nil=>intro _ t ht; cases ht
  |cons x l ih =>
   intro h t ht
   unfold aK2 at ht
   split at ht
   ·rcases List.mem_cons.1 ht with rfl|ht
    ·have:=cO3 c x.classes
     have:=h x (by simp)
     show (bP9 c x.classes).length≤n+1
     omega
    ·have:=h t (by simp [ht]); omega
   ·rcases List.mem_cons.1 ht with rfl|ht
    ·have:=h t (by simp); omega
    ·exact ih (fun t ht=>h t (by simp [ht])) t ht
 have hl:=b67 s c l
 unfold bI5
 split
 ·exact ⟨by omega,hb l h2⟩
 ·refine ⟨by simp; omega,fun t ht=>?_⟩
  rcases List.mem_append.1 ht with ht|ht
  ·exact hb l h2 t ht
  ·rw [List.mem_singleton] at ht
   subst ht
   simp
theorem bY9 {w:Wd} (hw:aO6 w) {sb:q9} {e:St×Int} {n:Nat} (hs:∃m,aT0 w e.1 m) (hz:SzB n sb) (hr:Z8 w sb.cells):SzB (n+1) (Q7 w sb e)∧Z8 w (Q7 w sb e).cells:=by
 obtain ⟨m,hm⟩:=hs
 obtain ⟨z1,z2,z3,z4⟩:=hz
 have hn:=aS3 hw hm
 obtain ⟨_,_,_,hc⟩:=bS9 (c:=e.2) hw hr hm
 have ha:=cV0 (s:=e.1) (c:=e.2) z3 z4
 unfold SzB Q7
 simp only [hn,hc]
 have hold:sb.cells.length≤n+1∧∀x∈sb.cells,x.lines.length≤n+1:=⟨by omega,fun x hx=>by have:=z2 x hx; omega⟩
 split
 ·exact ⟨⟨hold.1,hold.2,ha⟩,hr⟩
 ·split
  ·exact ⟨⟨hold.1,hold.2,ha⟩,hr⟩
  ·rename_i hf
   refine ⟨⟨?_,fun x hx=>?_,ha⟩,cK4 hr hm (by omega)⟩
   ·have:=b94 (s:=e.1) (e:=w.epoch) (c:=e.2) (f:=(F5 w m e.2).1) sb.cells
    omega
   ·rcases bT3 hx with hx|⟨z,hz,_,rfl⟩
    ·exact hold.2 x hx
    ·have:=(bV8 w.epoch e.2 (F5 w m e.2).1 z).2
     rcases hz with hz|rfl
     ·have:=z2 z hz; omega
     ·simp only [List.length_nil] at this; omega
theorem bV1 {w:Wd} (hw:aO6 w):∀{ev:List (St×Int)} {sb:q9} {n:Nat},aX0 w ev→SzB n sb→Z8 w sb.cells→SzB (n+ev.length) (ev.foldl (Q7 w) sb)∧Z8 w (ev.foldl (Q7 w) sb).cells
 |[],sb,n,_,hz,hr=>⟨hz,hr⟩
 |e::ev,sb,n,he,hz,hr=>by
  obtain ⟨h1,h2⟩:=bY9 hw (he e (by simp)) hz hr
  have:=bV1 hw (show aX0 w ev from fun x hx=>he x (List.mem_cons_of_mem _ hx)) h1 h2
  rw [List.foldl_cons,List.length_cons,show n+(ev.length+1)=n+1+ev.length by omega]
  exact this
theorem c09 {w:Wd} (N:Nat) (hN:1048578≤N) (hw:aO6 w) (hs:Y1 w) {sb:q9} {s:St} {k:Int} {n:ByteArray} {z:Nat} (hz:SzB z sb) (hz2:z≤1099511627770) (hr:Z8 w sb.cells) (hm:aT0 w s n) :
  aF0 N s k n sb w=some ((F5 w n k).1,(F5 w n k).2,Q7 w sb (s,k)):=by
 obtain ⟨z1,z2,z3,z4⟩:=hz
 obtain ⟨c1,c2,c3,c4⟩:=bS9 (c:=k) hw hr hm
 unfold aF0 Q7
 rw [b73 N sb.cells w s k n hN hw hs ⟨by omega,fun x hx=>by have:=z2 x hx; omega⟩,cC7 N sb.tallies s k (fun t ht=>by have:=z4 t ht; omega) (by omega)]
 simp only [Option.bind_some,aS3 hw hm,c1,c2]
 cases (aM9 w s k n sb.cells).2.2.2<;>rfl
end Go.Proofs.Ytahmeibkdhbngaa
