import Derived.Test.YtahmeibkdhbngaaPl40
import Derived.Test.YtahmeibkdhbngaaPl23
/- Cells that remember what is so, over a run's sites. No program in sight. -/
namespace Go.Proofs.Ytahmeibkdhbngaa
open Go.RowKit
set_option linter.unusedVariables false
def a06 (w:Wd) (s:St) (n:ByteArray):Prop:=∃x m i,∃j:Nat,q9 w.classes s.cls=some x∧x.methods[j]?=some m∧m.name=s.name∧q9 m.code s.pos=some i∧i.name=n
def nameAt (w:Wd) (s:St):ByteArray:=match q9 w.classes s.cls with
 |none=>ByteArray.empty
 |some x=>match ixN s.name x.methods with
  |none=>ByteArray.empty
  |some j=>match x.methods[j]? with
   |none=>ByteArray.empty
   |some m=>match q9 m.code s.pos with
    |none=>ByteArray.empty
    |some i=>i.name
theorem bD2 {w:Wd} (hw:aU5 w) {s:St} {n:ByteArray} (h:a06 w s n):nameAt w s=n:=by
 obtain ⟨x,m,i,j,hx,hm,hn,hi,rfl⟩:=h
 have:=cE4 (hw x (aP2 hx)) hm
 rw [hn] at this
 unfold nameAt
 simp only [hx,this,hm,hi]
def aG8 (w:Wd) (sb:u6) (e:St×Int):u6 :=
 ⟨sb.world,sb.ran,(aS8 w e.1 e.2 (nameAt w e.1) sb.cells).1,bG0 e.1 e.2 sb.tallies,
  if (aS8 w e.1 e.2 (nameAt w e.1) sb.cells).2.2.2=true then wr (sb.hits+1) else sb.hits,if (aS8 w e.1 e.2 (nameAt w e.1) sb.cells).2.2.2=true then sb.not else wr (sb.not+1)⟩
def aK4 (w:Wd) (l:List Ce):Prop:=∀c∈l,c.epoch=w.epoch→∀y∈c.lines,∃n,a06 w c.site n∧0≤(D6 w n y.cls).2∧(D6 w n y.cls).1=y.found
def SzB (n:Nat) (sb:u6):Prop:=sb.cells.length≤n∧(∀x∈sb.cells,x.lines.length≤n)∧sb.tallies.length≤n∧∀t∈sb.tallies,t.classes.length≤n
def bM5 (w:Wd) (ev:List (St×Int)):Prop:=∀e∈ev,∃n,a06 w e.1 n
theorem c38 (e c f:Int) (x:Ce):(aW0 e c f x).site=x.site∧(aW0 e c f x).epoch=e:=by
 unfold aW0 O1 aB0
 by_cases he:x.epoch=e
 ·rw [if_pos he]
  split
  ·exact ⟨rfl,he⟩
  ·split<;>exact ⟨rfl,he⟩
 ·rw [if_neg he]
  split
  ·exact ⟨rfl,rfl⟩
  ·split<;>exact ⟨rfl,rfl⟩
theorem b84 (e c f:Int) (x:Ce):(∀y∈(aW0 e c f x).lines,(x.epoch=e∧y∈x.lines)∨y=⟨c,f⟩)∧(aW0 e c f x).lines.length≤x.lines.length+1:=by
 unfold aW0 O1 aB0
 by_cases he:x.epoch=e
 ·rw [if_pos he]
  split
  ·exact ⟨fun y hy=>.inl ⟨he,hy⟩,by omega⟩
  ·split
   ·exact ⟨fun y hy=>by simp at hy,by simp⟩
   ·refine ⟨fun y hy=>?_,by simp⟩
    simp only [List.mem_append,List.mem_singleton] at hy
    rcases hy with hy|hy
    ·exact .inl ⟨he,hy⟩
    ·exact .inr hy
 ·rw [if_neg he]
  split
  ·exact ⟨fun y hy=>by simp at hy,by simp⟩
  ·split
   ·exact ⟨fun y hy=>by simp at hy,by simp⟩
   ·refine ⟨fun y hy=>?_,by simp⟩
    simp only [List.nil_append,List.mem_singleton] at hy
    exact .inr hy
theorem b47 {s:St} {e c f:Int}:∀{l:List Ce} {x:Ce},x∈aV9 s e c f l→x∈l∨∃y,(y∈l∨y=⟨s,e,false,[]⟩)∧y.site=s∧x=aW0 e c f y
 |[],x,h=>by
  rw [aV9,List.mem_singleton] at h
  exact .inr ⟨_,.inr rfl,rfl,h⟩
 |y::l,x,h=>by
  rw [aV9] at h
  split at h
  ·rename_i hs
   rcases List.mem_cons.1 h with h|h
   ·exact .inr ⟨y,.inl (by simp),hs,h⟩
   ·exact .inl (by simp [h])
  ·rcases List.mem_cons.1 h with h|h
   ·exact .inl (by simp [h])
   ·rcases b47 h with h|⟨z,h1,h2⟩
    ·exact .inl (by simp [h])
    ·exact .inr ⟨z,h1.imp (fun h=>by simp [h]) id,h2⟩
theorem cN5 {s:St} {e c f:Int}:∀l:List Ce,(aV9 s e c f l).length≤l.length+1
 |[]=>by simp [aV9]
 |x::l=>by
  rw [aV9]
  split
  ·simp
  ·have:=cN5 (s:=s) (e:=e) (c:=c) (f:=f) l
   simp only [List.length_cons]
   omega
theorem cX4 {w:Wd} {s:St} {n:ByteArray} {c:Int} {l:List Ce} (h:aK4 w l) (hs:a06 w s n) (hf:0≤(D6 w n c).2):aK4 w (aV9 s w.epoch c (D6 w n c).1 l):=by
 intro x hx he y hy
 rcases b47 hx with hx|⟨z,hz,hzs,rfl⟩
 ·exact h x hx he y hy
 ·rw [(c38 _ _ _ _).1,hzs]
  rcases (b84 _ _ _ _).1 y hy with ⟨h1,h2⟩|rfl
  ·rcases hz with hz|rfl
   ·have:=h z hz h1 y h2
    rwa [hzs] at this
   ·simp at h2
  ·exact ⟨n,hs,hf,rfl⟩
theorem cG4 {c:Int}:∀{l:List Ln},0≤aX4 c l→∃y∈l,y.cls=c∧y.found=aX4 c l
 |[],h=>by simp [aX4] at h
 |y::l,h=>by
  rw [aX4] at h ⊢
  split
  ·rename_i e; exact ⟨y,by simp,e,rfl⟩
  ·rename_i e
   rw [if_neg e] at h
   obtain ⟨z,h1,h2⟩:=cG4 h
   exact ⟨z,by simp [h1],h2⟩
theorem cL9 {s:St} {e c:Int}:∀{l:List Ce},0≤aC1 s e c l→∃x∈l,x.site=s∧x.epoch=e∧∃y∈x.lines,y.cls=c∧y.found=aC1 s e c l
 |[],h=>by simp [aC1] at h
 |x::l,h=>by
  rw [aC1] at h ⊢
  by_cases hs:x.site=s
  ·rw [if_pos hs] at h ⊢
   by_cases he:x.epoch=e
   ·rw [if_pos he] at h ⊢
    exact ⟨x,by simp,hs,he,cG4 h⟩
   ·rw [if_neg he] at h; exact absurd h (by decide)
  ·rw [if_neg hs] at h ⊢
   obtain ⟨z,h1,h2⟩:=cL9 h
   exact ⟨z,by simp [h1],h2⟩
theorem cV1 {w:Wd} (hw:aU5 w) {s:St} {n:ByteArray} {c:Int} {l:List Ce} (h:aK4 w l) (hs:a06 w s n) (hg:0≤aC1 s w.epoch c l):aC1 s w.epoch c l=(D6 w n c).1∧0≤(D6 w n c).2∧aC1 s w.epoch c l < w.classes.length:=by
 obtain ⟨x,hx,h1,h2,y,hy,h3,h4⟩:=cL9 hg
 obtain ⟨n',k1,k2,k3⟩:=h x hx h2 y hy
 rw [h1] at k1
 obtain rfl:n'=n:=(bD2 hw k1).symm.trans (bD2 hw hs)
 rw [h3] at k2 k3
 obtain ⟨z,_,hz,_⟩:=a96 k2
 have:=(bN2 hz).2
 rw [←h4,←k3]
 exact ⟨rfl,k2,this⟩
theorem b36 {w:Wd} (hw:aU5 w) {s:St} {n:ByteArray} {c:Int} {l:List Ce} (h:aK4 w l) (hs:a06 w s n):(aS8 w s c n l).2.1=(D6 w n c).1∧(aS8 w s c n l).2.2.1=(D6 w n c).2 ∧
  (aS8 w s c n l).2.2.2=decide (0≤aC1 s w.epoch c l)∧(aS8 w s c n l).1=(if 0≤aC1 s w.epoch c l then l else if (D6 w n c).2 < 0 then l else aV9 s w.epoch c (D6 w n c).1 l):=by
 unfold aS8
 by_cases hg:0≤aC1 s w.epoch c l
 ·obtain ⟨g1,g2,g3⟩:=cV1 hw h hs hg
  rw [if_pos ⟨hg,g3⟩,if_pos hg,decide_eq_true hg,g1,cR5 g2]
  exact ⟨rfl,rfl,rfl,rfl⟩
 ·rw [if_neg (fun e=>hg e.1),if_neg hg,decide_eq_false hg]
  split<;>exact ⟨rfl,rfl,rfl,rfl⟩
theorem dD5 {s:St} {c:Int} {n:Nat} {l:List Tl} (h:l.length≤n) (h2:∀t∈l,t.classes.length≤n):(bG0 s c l).length≤n+1∧∀t∈bG0 s c l,t.classes.length≤n+1:=by
 have hb:∀l:List Tl,(∀t∈l,t.classes.length≤n)→∀t∈(aF2 s c l).1,t.classes.length≤n+1:=by
  intro l
  induction l with
  |nil=>intro _ t ht; cases ht
  |cons x l ih =>
   intro h t ht
   unfold aF2 at ht
   split at ht
   ·rcases List.mem_cons.1 ht with rfl|ht
    ·have:=c66 c x.classes
     have:=h x (by simp)
     show (bP7 c x.classes).length≤n+1
     omega
    ·have:=h t (by simp [ht]); omega
   ·rcases List.mem_cons.1 ht with rfl|ht
    ·have:=h t (by simp); omega
    ·exact ih (fun t ht=>h t (by simp [ht])) t ht
 have hl:=bY0 s c l
 unfold bG0
 split
 ·exact ⟨by omega,hb l h2⟩
 ·refine ⟨by simp; omega,fun t ht=>?_⟩
  rcases List.mem_append.1 ht with ht|ht
  ·exact hb l h2 t ht
  ·rw [List.mem_singleton] at ht
   subst ht
   simp
theorem cU3 {w:Wd} (hw:aU5 w) {sb:u6} {e:St×Int} {n:Nat} (hs:∃m,a06 w e.1 m) (hz:SzB n sb) (hr:aK4 w sb.cells):SzB (n+1) (aG8 w sb e)∧aK4 w (aG8 w sb e).cells:=by
 obtain ⟨m,hm⟩:=hs
 obtain ⟨z1,z2,z3,z4⟩:=hz
 have hn:=bD2 hw hm
 obtain ⟨_,_,_,hc⟩:=b36 (c:=e.2) hw hr hm
 have ha:=dD5 (s:=e.1) (c:=e.2) z3 z4
 unfold SzB aG8
 simp only [hn,hc]
 have hold:sb.cells.length≤n+1∧∀x∈sb.cells,x.lines.length≤n+1:=⟨by omega,fun x hx=>by have:=z2 x hx; omega⟩
 split
 ·exact ⟨⟨hold.1,hold.2,ha⟩,hr⟩
 ·split
  ·exact ⟨⟨hold.1,hold.2,ha⟩,hr⟩
  ·rename_i hf
   refine ⟨⟨?_,fun x hx=>?_,ha⟩,cX4 hr hm (by omega)⟩
   ·have:=cN5 (s:=e.1) (e:=w.epoch) (c:=e.2) (f:=(D6 w m e.2).1) sb.cells
    omega
   ·rcases b47 hx with hx|⟨z,hz,_,rfl⟩
    ·exact hold.2 x hx
    ·have:=(b84 w.epoch e.2 (D6 w m e.2).1 z).2
     rcases hz with hz|rfl
     ·have:=z2 z hz; omega
     ·simp only [List.length_nil] at this; omega
theorem cM1 {w:Wd} (hw:aU5 w):∀{ev:List (St×Int)} {sb:u6} {n:Nat},bM5 w ev→SzB n sb→aK4 w sb.cells→SzB (n+ev.length) (ev.foldl (aG8 w) sb)∧aK4 w (ev.foldl (aG8 w) sb).cells
 |[],sb,n,_,hz,hr=>⟨hz,hr⟩
 |e::ev,sb,n,he,hz,hr=>by
  obtain ⟨h1,h2⟩:=cU3 hw (he e (by simp)) hz hr
  have:=cM1 hw (show bM5 w ev from fun x hx=>he x (List.mem_cons_of_mem _ hx)) h1 h2
  rw [List.foldl_cons,List.length_cons,show n+(ev.length+1)=n+1+ev.length by omega]
  exact this
theorem dJ7 {w:Wd} (N:Nat) (hN:1048578≤N) (hw:aU5 w) (hs:aA5 w) {sb:u6} {s:St} {k:Int} {n:ByteArray} {z:Nat} (hz:SzB z sb) (hz2:z≤1099511627770) (hr:aK4 w sb.cells) (hm:a06 w s n) :
  aK3 N s k n sb w=some ((D6 w n k).1,(D6 w n k).2,aG8 w sb (s,k)):=by
 obtain ⟨z1,z2,z3,z4⟩:=hz
 obtain ⟨c1,c2,c3,c4⟩:=b36 (c:=k) hw hr hm
 unfold aK3 aG8
 rw [cI1 N sb.cells w s k n hN hw hs ⟨by omega,fun x hx=>by have:=z2 x hx; omega⟩,cN4 N sb.tallies s k (fun t ht=>by have:=z4 t ht; omega) (by omega)]
 simp only [Option.bind_some,bD2 hw hm,c1,c2]
 cases (aS8 w s k n sb.cells).2.2.2<;>rfl
end Go.Proofs.Ytahmeibkdhbngaa
