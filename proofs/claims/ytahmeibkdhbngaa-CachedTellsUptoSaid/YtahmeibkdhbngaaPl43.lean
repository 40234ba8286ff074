import Derived.Test.YtahmeibkdhbngaaPl42
/- The reference's cells and tallies, over the sites of a run. No program in sight. -/
namespace Go.Proofs.Ytahmeibkdhbngaa
open Go.RowKit
set_option linter.unusedVariables false
theorem bX9 (N:Nat) (s:St):∀(l:List Me) (k:Nat),aB3 N s l k=some (match ixN s.name l with|some i=>.ret ((k+i:Nat):Int)|none=>.next ())
 |[],k=>rfl
 |m::l,k=>by
  rw [aB3,ixN,bX9 N s l (k+1)]
  by_cases e:m.name=s.name
  ·simp [e]
  ·cases ixN s.name l<;>simp [e]; omega
theorem c30 (N:Nat) {w:Wd} (hw:aU5 w) {s:St} {x:Cl} {m:Me} {j:Nat} (hx:q9 w.classes s.cls=some x) (hm:x.methods[j]?=some m) (hn:m.name=s.name):aQ2 N w s=some (j:Int):=by
 have:=cE4 (hw x (aP2 hx)) hm
 rw [hn] at this
 unfold aQ2
 simp only [hx,bX9,this,Option.bind_some,Nat.zero_add]
theorem bX0 {w:Wd} (N:Nat) (hN:1048578≤N) (hw:aU5 w) (hs:w.classes.length≤1048576) (R:Wd×aE4×TR) (ev:List (St×Int)) (hof:R.2.2.of=ev.map (·.2)):∀(es:List (St×Int)) (k:Nat) (sb:u6) (z:Nat),es=ev.drop k→bM5 w es→SzB z sb→z+es.length≤1099511627000→aK4 w sb.cells →
  Y5 N w R (es.map (·.1)) k sb.cells sb.tallies sb.hits sb.not=some ((es.foldl (aG8 w) sb).cells,(es.foldl (aG8 w) sb).tallies,(es.foldl (aG8 w) sb).hits,(es.foldl (aG8 w) sb).not)
 |[],k,sb,z,_,_,_,_,_=>rfl
 |e::es,k,sb,z,hk,hok,hz,hz2,hr=>by
  obtain ⟨hk1,hk2,_⟩:=D8 hk
  simp only [List.length_cons] at hz2
  obtain ⟨t1,t2⟩:=cU3 hw (hok e (by simp)) hz hr
  have ih:=bX0 N hN hw hs R ev hof es (k+1) (aG8 w sb e) (z+1) hk2 (fun x hx=>hok x (by simp [hx])) t1 (by omega) t2
  obtain ⟨n,x,m,i,j,hx,hm,hn,hi,hin⟩:=hok e (by simp)
  have hsite:a06 w e.1 n:=⟨x,m,i,j,hx,hm,hn,hi,hin⟩
  obtain ⟨c1,c2,c3,c4⟩:=b36 (c:=e.2) hw hr hsite
  have h1:q9 R.2.2.of (k:Int)=some e.2:=by rw [I5,hof,List.getElem?_map,hk1]; rfl
  obtain ⟨z1,z2,z3,z4⟩:=hz
  rw [List.map_cons,Y5,h1]
  simp only [Option.bind_some,b76 N sb.tallies e.1 e.2 (fun t ht=>by have:=z4 t ht; omega) (by omega),cJ5]
  rw [List.foldl_cons,←ih]
  have hnm:=bD2 hw hsite
  unfold aG8
  simp only [hnm,c3,c4]
  by_cases hg:0≤aC1 e.1 w.epoch e.2 sb.cells
  ·simp only [hg,decide_true,cond_true,if_true,Option.bind_some]
  ·have hmj:q9 x.methods (j:Int)=some m:=by rw [I5]; exact hm
   have hp:0≤(D6 w n e.2).2→aV0 N sb.cells e.1 w.epoch e.2 (D6 w n e.2).1=some (aV9 e.1 w.epoch e.2 (D6 w n e.2).1 sb.cells):=fun _=>cI0 N sb.cells e.1 _ _ _ (fun x hx=>by have:=z2 x hx; omega) (by omega)
   simp only [hg,decide_false,cond_false,if_false,hx,c30 N hw hx hm hn,hmj,hi,hin,Option.bind_some,aO0 N w e.2 n hN hs]
   by_cases hf:0≤(D6 w n e.2).2
   ·rw [decide_eq_true hf,hp hf,if_neg (show ¬(D6 w n e.2).2 < 0 by omega)]
    simp only [cond_true,Option.bind_some,Bool.false_eq_true,if_false]
   ·rw [decide_eq_false hf,if_pos (show (D6 w n e.2).2 < 0 by omega)]
    simp only [cond_false,Option.bind_some,Bool.false_eq_true,if_false]
theorem b40 {w:Wd} {N:Nat} (hN:4194304≤N) (hs:aA5 w) (hp:aJ8 N w) (c:O3) (fuel:Int) (l:List Ce) (t:List Tl) (z:Nat) (hz:SzB z ⟨⟨[],[],0⟩,⟨⟨0,0⟩,0,0⟩,l,t,0,0⟩) (hz2:z≤1099511620000) (hr:aK4 w l)
  {r:Wd×aE4} {ev:List (St×Int)} (h:bR0 w c fuel r ev) (hok:bM5 w ev) (hl:ev.length≤401) :
  aQ5 N w c fuel l t=some ⟨r.1,r.2,(ev.foldl (aG8 w) ⟨⟨[],[],0⟩,⟨⟨0,0⟩,0,0⟩,l,t,0,0⟩).cells,(ev.foldl (aG8 w) ⟨⟨[],[],0⟩,⟨⟨0,0⟩,0,0⟩,l,t,0,0⟩).tallies,(ev.foldl (aG8 w) ⟨⟨[],[],0⟩,⟨⟨0,0⟩,0,0⟩,l,t,0,0⟩).hits,(ev.foldl (aG8 w) ⟨⟨[],[],0⟩,⟨⟨0,0⟩,0,0⟩,l,t,0,0⟩).not⟩:=by
 obtain ⟨r',R,ev',p1,p2,p3,p4⟩:=cI7 hN hs hp c fuel
 obtain ⟨rfl,rfl⟩:=bR0.det h p2
 unfold aQ5
 rw [p1]
 simp only [Option.bind_some,p3]
 rw [show Y5 N w (r.1,r.2,R) (ev.map (·.1)) 0 l t 0 0=_ from bX0 N (by omega) hp.rise hs.1 (r.1,r.2,R) ev p4 ev 0 ⟨⟨[],[],0⟩,⟨⟨0,0⟩,0,0⟩,l,t,0,0⟩ z rfl hok hz (by omega) hr]
 rfl
theorem dM8 {l:List Ce} {t:List Tl} {n:Nat} (h1:bkL bE1 l≤n) (h2:bkL bE5 t≤n):SzB n ⟨⟨[],[],0⟩,⟨⟨0,0⟩,0,0⟩,l,t,0,0⟩:=by
 refine ⟨?_,fun x (hx:x∈l)=>?_,?_,fun x (hx:x∈t)=>?_⟩
 ·have:=aU4 (bk:=bE1) (fun a=>dB5 a) l
  simp only; omega
 ·have h1:=bN4 (bk:=bE1) hx
  have h2:=aU4 (bk:=bH3) (fun a=>cN1 a) x.lines
  have h3:(bkL bH3) x.lines+1≤bE1 x:=by unfold bE1; omega
  omega
 ·have:=aU4 (bk:=bE5) (fun a=>dA3 a) t
  simp only; omega
 ·have h1:=bN4 (bk:=bE5) hx
  have h2:=aU4 (bk:=bH3) (fun a=>cN1 a) x.classes
  have h3:(bkL bH3) x.classes+1≤bE5 x:=by unfold bE5; omega
  omega
end Go.Proofs.Ytahmeibkdhbngaa
