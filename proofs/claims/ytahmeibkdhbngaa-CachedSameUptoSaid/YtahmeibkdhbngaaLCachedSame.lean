/- The plain law of qclaw8.CachedSame. No program in sight. -/
import Derived.Test.YtahmeibkdhbngaaPl43
namespace Go.Proofs.Ytahmeibkdhbngaa
open Go.RowKit
set_option linter.unusedVariables false
theorem aF6.heap {w:Wd} {H:List Ob} {l:List Ce} (h:aF6 w l):aF6 ⟨w.classes,H,w.epoch⟩ l:=by
 intro c hc he y hy
 obtain ⟨n,h1,h2,h3⟩:=h c hc he y hy
 exact ⟨n,h1,by rw [bM6]; exact h2,by rw [bM6]; exact h3⟩
theorem SzB.of {n n':Nat} {sb:u7} (h:SzB n sb) (hn:n≤n'):SzB n' ⟨⟨[],[],0⟩,⟨⟨0,0⟩,0,0⟩,sb.cells,sb.tallies,0,0⟩ :=
 ⟨Nat.le_trans h.1 hn,fun x hx=>Nat.le_trans (h.2.1 x hx) hn,Nat.le_trans h.2.2.1 hn,fun x hx=>Nat.le_trans (h.2.2.2 x hx) hn⟩
theorem bQ3 (N:Nat) (hN:4194304≤N):∀(l:List K7) (k:Nat) (cs:List Ce) (ts:List Tl) (w:Wd) (z:Nat),aE2 N w→V7 w→aF6 w cs→SzB z ⟨⟨[],[],0⟩,⟨⟨0,0⟩,0,0⟩,cs,ts,0,0⟩→z+401*l.length≤1099511620000 →
  Q5 N l k cs ts w=some (.next ())
 |[],k,cs,ts,w,z,_,_,_,_,_=>rfl
 |x::l,k,cs,ts,w,z,hp,hs,hr,hz,hl=>by
  simp only [List.length_cons] at hl
  obtain ⟨r,ev,sb,q1,q2,rfl,q4,q5⟩:=cU2 hN hs hp x (fuel:=400) cs ts _ hz (by omega) hr
  obtain ⟨r',R,ev',p1,p2,_⟩:=cE2 hN hs hp x 400
  obtain ⟨rfl,rfl⟩:=bT1.det q2 p2
  obtain ⟨t1,t2⟩:=b25 hp.rise q4 hz hr
  obtain ⟨f1,f2⟩:=cT9 hN hs hp q2.ran
  have hw:aE2 N r.1∧V7 r.1∧aF6 r.1 (ev.foldl (aW3 w) ⟨⟨[],[],0⟩,⟨⟨0,0⟩,0,0⟩,cs,ts,0,0⟩).cells:=by
   by_cases he:r.2.err=0
   ·obtain ⟨_,_,_,_,hH,e1,_⟩:=f1 he
    have:=hp.heap hN hs hH
    rw [e1]
    exact ⟨this.1,this.2,t2.heap⟩
   ·obtain ⟨e1,_⟩:=f2 he
    rw [e1]
    exact ⟨hp,hs,t2⟩
  have ih:=bQ3 N hN l (k+1) _ _ r.1 (z+401) hw.1 hw.2.1 hw.2.2 (t1.of (by omega)) (by omega)
  rw [Q5,q1,p1]
  simp only [Option.bind_some,cX0,decide_true,Bool.not_true,cond_false,cK1]
  exact ih
theorem b83 (a0:Wd) (a1:(List K7)) (h0:dF8 a0) (h1:(okL b78) a1) (hb:b81 a0+(bkL aV8) a1≤1048576):∃N,aL2 N a0 a1=some true:=by
 have hal:aQ9 4194304=some true:=by kernel_rfl
 obtain ⟨N,hN,hal⟩:∃N:Nat,4194304≤N∧aQ9 N=some true:=⟨4194304,Nat.le_refl _,hal⟩
 refine ⟨N,?_⟩
 have hs:=c02 (w:=a0) (by omega)
 unfold aL2
 obtain ⟨r,hr,hp⟩:=cQ0 N a0 hN hs
 rw [hr,hal]
 simp only [Option.bind_some,Bool.not_true,cond_false]
 by_cases h:r=0
 ·have hp:=hp h
  have hl:=bC9 (bk:=aV8) (fun a=>cN4 a) a1
  rw [bQ3 N hN a1 0 [] [] a0 0 hp hs (fun c hc=>by cases hc) ⟨Nat.le_refl _,(fun x hx=>by cases hx),Nat.le_refl _,(fun x hx=>by cases hx)⟩ (by omega)]
  simp only [h,decide_true,Bool.not_true,cond_false,Option.bind_some]
 ·simp only [h,decide_false,Bool.not_false,cond_true]
end Go.Proofs.Ytahmeibkdhbngaa
