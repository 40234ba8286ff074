import Derived.Test.YtahmeibkdhbngaaPl40
import Derived.Test.YtahmeibkdhbngaaPl23
/- Cells that remember what is so, over a run's sites. No program in sight. -/
namespace Go.Proofs.Ytahmeibkdhbngaa
open Go.RowKit
set_option linter.unusedVariables false
def bC5 (w:Wd) (s:St) (n:ByteArray):Prop:=∃x m i,∃j:Nat,q9 w.classes s.cls=some x∧x.methods[j]?=some m∧m.name=s.name∧q9 m.code s.pos=some i∧i.name=n
def nameAt (w:Wd) (s:St):ByteArray:=match q9 w.classes s.cls with
 |none=>ByteArray.empty
 |some x=>match ixN s.name x.methods with
  |none=>ByteArray.empty
  |some j=>match x.methods[j]? with
   |none=>ByteArray.empty
   |some m=>match q9 m.code s.pos with
    |none=>ByteArray.empty
    |some i=>i.name
theorem bG8 {w:Wd} (hw:aY1 w) {s:St} {n:ByteArray} (h:bC5 w s n):nameAt w s=n:=by
 obtain ⟨x,m,i,j,hx,hm,hn,hi,rfl⟩:=h
 have:=cP4 (hw x (aQ5 hx)) hm
 rw [hn] at this
 unfold nameAt
 simp only [hx,this,hm,hi]
def aW3 (w:Wd) (sb:u7) (e:St×Int):u7 :=
 ⟨sb.world,sb.ran,(aR0 w e.1 e.2 (nameAt w e.1) sb.cells).1,bM3 e.1 e.2 sb.tallies,
  if (aR0 w e.1 e.2 (nameAt w e.1) sb.cells).2.2.2=true then wr (sb.hits+1) else sb.hits,if (aR0 w e.1 e.2 (nameAt w e.1) sb.cells).2.2.2=true then sb.not else wr (sb.not+1)⟩
def aF6 (w:Wd) (l:List Ce):Prop:=∀c∈l,c.epoch=w.epoch→∀y∈c.lines,∃n,bC5 w c.site n∧0≤(F3 w n y.cls).2∧(F3 w n y.cls).1=y.found
def SzB (n:Nat) (sb:u7):Prop:=sb.cells.length≤n∧(∀x∈sb.cells,x.lines.length≤n)∧sb.tallies.length≤n∧∀t∈sb.tallies,t.classes.length≤n
def bU2 (w:Wd) (ev:List (St×Int)):Prop:=∀e∈ev,∃n,bC5 w e.1 n
theorem cV3 (e c f:Int) (x:Ce):(bA9 e c f x).site=x.site∧(bA9 e c f x).epoch=e:=by
 unfold bA9 O8 aH0
 by_cases he:x.epoch=e
 ·rw [if_pos he]
  split
  ·exact ⟨rfl,he⟩
  ·split<;>exact ⟨rfl,he⟩
 ·rw [if_neg he]
  split
  ·exact ⟨rfl,rfl⟩
  ·split<;>exact ⟨rfl,rfl⟩
theorem b49 (e c f:Int) (x:Ce):(∀y∈(bA9 e c f x).lines,(x.epoch=e∧y∈x.lines)∨y=⟨c,f⟩)∧(bA9 e c f x).lines.length≤x.lines.length+1:=by
 unfold bA9 O8 aH0
 by_cases he:x.epoch=e
 ·rw [if_pos he]
  split
  ·exact ⟨fun y hy=>.inl ⟨he,hy⟩,by omega⟩
  ·split
   ·exact ⟨fun y hy=>by simp at hy,by simp⟩
   ·refine ⟨fun y hy=>?_,by simp⟩
    simp only [List.mem_append,List.mem_singleton] at hy
    rcases hy with hy|hy
    ·exact .inl ⟨he,hy⟩
    ·exact .inr hy
 ·rw [if_neg he]
  split
  ·exact ⟨fun y hy=>by simp at hy,by simp⟩
  ·split
   ·exact ⟨fun y hy=>by simp at hy,by simp⟩
   ·refine ⟨fun y hy=>?_,by simp⟩
    simp only [List.nil_append,List.mem_singleton] at hy
    exact .inr hy
theorem b23 {s:St} {e c f:Int}:∀{l:List Ce} {x:Ce},x∈bA3 s e c f l→x∈l∨∃y,(y∈l∨y=⟨s,e,false,[]⟩)∧y.site=s∧x=bA9 e c f y
 |[],x,h=>by
  rw [bA3,List.mem_singleton] at h
  exact .inr ⟨_,.inr rfl,rfl,h⟩
 |y::l,x,h=>by
  rw [bA3] at h
  split at h
  ·rename_i hs
   rcases List.mem_cons.1 h with h|h
   ·exact .inr ⟨y,.inl (by simp),hs,h⟩
   ·exact .inl (by simp [h])
  ·rcases List.mem_cons.1 h with h|h
   ·exact .inl (by simp [h])
   ·rcases b23 h with h|⟨z,h1,h2⟩
    ·exact .inl (by simp [h])
    ·exact .inr ⟨z,h1.imp (fun h=>by simp [h]) id,h2⟩
theorem cH3 {s:St} {e c f:Int}:∀l:List Ce,(bA3 s e c f l).length≤l.length+1
 |[]=>by simp [bA3]
 |x::l=>by
  rw [bA3]
  split
  ·simp
  ·have:=cH3 (s:=s) (e:=e) (c:=c) (f:=f) l
   simp only [List.length_cons]
   omega
theorem cS3 {w:Wd} {s:St} {n:ByteArray} {c:Int} {l:List Ce} (h:aF6 w l) (hs:bC5 w s n) (hf:0≤(F3 w n c).2):aF6 w (bA3 s w.epoch c (F3 w n c).1 l):=by
 intro x hx he y hy
 rcases b23 hx with hx|⟨z,hz,hzs,rfl⟩
 ·exact h x hx he y hy
 ·rw [(cV3 _ _ _ _).1,hzs]
  rcases (b49 _ _ _ _).1 y hy with ⟨h1,h2⟩|rfl
  ·rcases hz with hz|rfl
   ·have:=h z hz h1 y h2
    rwa [hzs] at this
   ·simp at h2
  ·exact ⟨n,hs,hf,rfl⟩
theorem cD1 {c:Int}:∀{l:List Ln},0≤bC2 c l→∃y∈l,y.cls=c∧y.found=bC2 c l
 |[],h=>by simp [bC2] at h
 |y::l,h=>by
  rw [bC2] at h ⊢
  split
  ·rename_i e; exact ⟨y,by simp,e,rfl⟩
  ·rename_i e
   rw [if_neg e] at h
   obtain ⟨z,h1,h2⟩:=cD1 h
   exact ⟨z,by simp [h1],h2⟩
theorem cH7 {s:St} {e c:Int}:∀{l:List Ce},0≤aE6 s e c l→∃x∈l,x.site=s∧x.epoch=e∧∃y∈x.lines,y.cls=c∧y.found=aE6 s e c l
 |[],h=>by simp [aE6] at h
 |x::l,h=>by
  rw [aE6] at h ⊢
  by_cases hs:x.site=s
  ·rw [if_pos hs] at h ⊢
   by_cases he:x.epoch=e
   ·rw [if_pos he] at h ⊢
    exact ⟨x,by simp,hs,he,cD1 h⟩
   ·rw [if_neg he] at h; exact absurd h (by decide)
  ·rw [if_neg hs] at h ⊢
   obtain ⟨z,h1,h2⟩:=cH7 h
   exact ⟨z,by simp [h1],h2⟩
theorem cR9 {w:Wd} (hw:aY1 w) {s:St} {n:ByteArray} {c:Int} {l:List Ce} (h:aF6 w l) (hs:bC5 w s n) (hg:0≤aE6 s w.epoch c l):aE6 s w.epoch c l=(F3 w n c).1∧0≤(F3 w n c).2∧aE6 s w.epoch c l < w.classes.length:=by
 obtain ⟨x,hx,h1,h2,y,hy,h3,h4⟩:=cH7 hg
 obtain ⟨n',k1,k2,k3⟩:=h x hx h2 y hy
 rw [h1] at k1
 obtain rfl:n'=n:=(bG8 hw k1).symm.trans (bG8 hw hs)
 rw [h3] at k2 k3
 obtain ⟨z,_,hz,_⟩:=bE0 k2
 have:=(bL5 hz).2
 rw [←h4,←k3]
 exact ⟨rfl,k2,this⟩
theorem cH6 {w:Wd} (hw:aY1 w) {s:St} {n:ByteArray} {c:Int} {l:List Ce} (h:aF6 w l) (hs:bC5 w s n):(aR0 w s c n l).2.1=(F3 w n c).1∧(aR0 w s c n l).2.2.1=(F3 w n c).2 ∧
  (aR0 w s c n l).2.2.2=decide (0≤aE6 s w.epoch c l)∧(aR0 w s c n l).1=(if 0≤aE6 s w.epoch c l then l else if (F3 w n c).2 < 0 then l else bA3 s w.epoch c (F3 w n c).1 l):=by
 unfold aR0
 by_cases hg:0≤aE6 s w.epoch c l
 ·obtain ⟨g1,g2,g3⟩:=cR9 hw h hs hg
  rw [if_pos ⟨hg,g3⟩,if_pos hg,decide_eq_true hg,g1,cN2 g2]
  exact ⟨rfl,rfl,rfl,rfl⟩
 ·rw [if_neg (fun e=>hg e.1),if_neg hg,decide_eq_false hg]
  split<;>exact ⟨rfl,rfl,rfl,rfl⟩
theorem c77 {s:St} {c:Int} {n:Nat} {l:List Tl} (h:l.length≤n) (h2:∀t∈l,t.classes.length≤n):(bM3 s c l).length≤n+1∧∀t∈bM3 s c l,t.classes.length≤n+1:=by
 have hb:∀l:List Tl,(∀t∈l,t.classes.length≤n)→∀t∈(aN2 s c l).1,t.classes.length≤n+1:=by
  intro l
  induction l with
  |nil=>intro _ t ht; cases ht
  |cons x l ih =>
   intro h t ht
   unfold aN2 at ht
   split at ht
   ·rcases List.mem_cons.1 ht with rfl|ht
    ·have:=cV5 c x.classes
     have:=h x (by simp)
     show (bW3 c x.classes).length≤n+1
     omega
    ·have:=h t (by simp [ht]); omega
   ·rcases List.mem_cons.1 ht with rfl|ht
    ·have:=h t (by simp); omega
    ·exact ih (fun t ht=>h t (by simp [ht])) t ht
 have hl:=cA6 s c l
 unfold bM3
 split
 ·exact ⟨by omega,hb l h2⟩
 ·refine ⟨by simp; omega,fun t ht=>?_⟩
  rcases List.mem_append.1 ht with ht|ht
  ·exact hb l h2 t ht
  ·rw [List.mem_singleton] at ht
   subst ht
   simp
theorem dA7 {w:Wd} (hw:aY1 w) {sb:u7} {e:St×Int} {n:Nat} (hs:∃m,bC5 w e.1 m) (hz:SzB n sb) (hr:aF6 w sb.cells):SzB (n+1) (aW3 w sb e)∧aF6 w (aW3 w sb e).cells:=by
 obtain ⟨m,hm⟩:=hs
 obtain ⟨z1,z2,z3,z4⟩:=hz
 have hn:=bG8 hw hm
 obtain ⟨_,_,_,hc⟩:=cH6 (c:=e.2) hw hr hm
 have ha:=c77 (s:=e.1) (c:=e.2) z3 z4
 unfold SzB aW3
 simp only [hn,hc]
 have hold:sb.cells.length≤n+1∧∀x∈sb.cells,x.lines.length≤n+1:=⟨by omega,fun x hx=>by have:=z2 x hx; omega⟩
 split
 ·exact ⟨⟨hold.1,hold.2,ha⟩,hr⟩
 ·split
  ·exact ⟨⟨hold.1,hold.2,ha⟩,hr⟩
  ·rename_i hf
   refine ⟨⟨?_,fun x hx=>?_,ha⟩,cS3 hr hm (by omega)⟩
   ·have:=cH3 (s:=e.1) (e:=w.epoch) (c:=e.2) (f:=(F3 w m e.2).1) sb.cells
    omega
   ·rcases b23 hx with hx|⟨z,hz,_,rfl⟩
    ·exact hold.2 x hx
    ·have:=(b49 w.epoch e.2 (F3 w m e.2).1 z).2
     rcases hz with hz|rfl
     ·have:=z2 z hz; omega
     ·simp only [List.length_nil] at this; omega
theorem b25 {w:Wd} (hw:aY1 w):∀{ev:List (St×Int)} {sb:u7} {n:Nat},bU2 w ev→SzB n sb→aF6 w sb.cells→SzB (n+ev.length) (ev.foldl (aW3 w) sb)∧aF6 w (ev.foldl (aW3 w) sb).cells
 |[],sb,n,_,hz,hr=>⟨hz,hr⟩
 |e::ev,sb,n,he,hz,hr=>by
  obtain ⟨h1,h2⟩:=dA7 hw (he e (by simp)) hz hr
  have:=b25 hw (show bU2 w ev from fun x hx=>he x (List.mem_cons_of_mem _ hx)) h1 h2
  rw [List.foldl_cons,List.length_cons,show n+(ev.length+1)=n+1+ev.length by omega]
  exact this
theorem dB4 {w:Wd} (N:Nat) (hN:1048578≤N) (hw:aY1 w) (hs:V7 w) {sb:u7} {s:St} {k:Int} {n:ByteArray} {z:Nat} (hz:SzB z sb) (hz2:z≤1099511627770) (hr:aF6 w sb.cells) (hm:bC5 w s n) :
  aH8 N s k n sb w=some ((F3 w n k).1,(F3 w n k).2,aW3 w sb (s,k)):=by
 obtain ⟨z1,z2,z3,z4⟩:=hz
 obtain ⟨c1,c2,c3,c4⟩:=cH6 (c:=k) hw hr hm
 unfold aH8 aW3
 rw [cF2 N sb.cells w s k n hN hw hs ⟨by omega,fun x hx=>by have:=z2 x hx; omega⟩,cM6 N sb.tallies s k (fun t ht=>by have:=z4 t ht; omega) (by omega)]
 simp only [Option.bind_some,bG8 hw hm,c1,c2]
 cases (aR0 w s k n sb.cells).2.2.2<;>rfl
end Go.Proofs.Ytahmeibkdhbngaa
