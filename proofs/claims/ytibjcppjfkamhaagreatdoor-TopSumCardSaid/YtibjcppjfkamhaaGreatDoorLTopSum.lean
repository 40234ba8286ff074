import Derived.Test.YtibjcppjfkamhaaGreatDoorPl73
/- The plain law of TopSum. No program in sight. -/
namespace Go.Proofs.YtibjcppjfkamhaaGreatDoor
open Go.RowKit
set_option linter.unusedVariables false
theorem cR6 {k n:Int} {t:Nat} (h:bS9 k n t=bQ3 n t) (hn:-1000≤n∧n≤1000) (ht:t≤60):∃x:y8×List N7,D7 tN [z8 5 0 D9 3,z8 k 0 D9 (t:Int)] 6 (tS6 n) (tR5.2++[⟨0,1,⟨4,0⟩⟩])=some x∧x.2.length=8∧∃r,x.2[7]?=some r∧r.err=0∧r.value=⟨3,n*t⟩:=by
 unfold bS9 bQ3 at h
 cases hx:D7 tN [z8 5 0 D9 3,z8 k 0 D9 (t:Int)] 6 (tS6 n) (tR5.2++[⟨0,1,⟨4,0⟩⟩]) with
 |none=>rw [hx] at h; cases h
 |some x =>
  rw [hx] at h
  simp only [Option.map_some,Option.some.injEq,Prod.mk.injEq] at h
  obtain ⟨h1,h2⟩:=h
  cases hr:x.2[7]? with
  |none=>rw [hr] at h2; cases h2
  |some r =>
   rw [hr] at h2
   simp only [Option.map_some,Option.some.injEq,Prod.mk.injEq] at h2
   obtain ⟨h3,h4,h5⟩:=h2
   refine ⟨x,rfl,h1,r,hr,h3,?_⟩
   obtain ⟨e,m,v,w⟩:=r
   simp only at h4 h5 ⊢
   rw [h4,h5,(aM2 hn t ht).1]
theorem cQ0 (n:Int) (t:Nat) (k:Int) (hn:-1000≤n∧n≤1000) (ht:t≤60) (hk:4≤k∧k≤6):∃x:y8×List N7,P5 tN (tL5++[z8 4 0 V4 n,z8 5 0 D9 3,z8 k 0 D9 (t:Int)])=some (x.1,x.2,0)∧x.2.length=8∧∃r,x.2[7]?=some r∧r.err=0∧r.value=⟨3,n*t⟩:=by
 have hr:bS9 k n t=bQ3 n t:=by
  have:k=4∨k=5∨k=6:=by omega
  rcases this with rfl|rfl|rfl
  ·exact dC7 n t ht
  ·exact dD3 n t ht
  ·exact dC8 n t ht
 obtain ⟨x,hx,h8,h⟩:=cR6 hr hn ht
 refine ⟨x,?_,h8,h⟩
 have e1:D7 tN [z8 4 0 V4 n,z8 5 0 D9 3,z8 k 0 D9 (t:Int)] 5 tR5.1 tR5.2=some x:=by
  rw [D7,cH5 n hn]
  simp only [Option.bind_some,b33]
  exact hx
 have el:decide ((60:Int) < ((tL5++[z8 4 0 V4 n,z8 5 0 D9 3,z8 k 0 D9 (t:Int)]).length:Int))=false:=by
  rw [List.length_append,aV8]
  rfl
 unfold P5
 rw [el,b69]
 simp only [cond_false,Option.bind_some]
 rw [b46,e1]
 rfl
theorem cL6 (a0:Int) (a1:Int) (a2:Int) (h0:okI a0) (h1:okI a1) (h2:okI a2) (hb:bkI a0+bkI a1+bkI a2≤1048576):∃N,a02 N a0 a1 a2=some true:=by
 refine ⟨tN,?_⟩
 unfold a02
 rw [bQ2]
 simp only [Option.bind_some,Bool.not_true,cond_false]
 by_cases c1:a0 < -1000
 ·simp [c1]
 by_cases c2:1000 < a0
 ·simp [c1,c2]
 by_cases c3:a1 < 0
 ·simp [c1,c2,c3]
 by_cases c4:60 < a1
 ·simp [c1,c2,c3,c4]
 by_cases c5:a2 < 4
 ·simp [c1,c2,c3,c4,c5]
 by_cases c6:6 < a2
 ·simp [c1,c2,c3,c4,c5,c6]
 obtain ⟨t,rfl⟩:∃t:Nat,a1=(t:Int):=⟨a1.toNat,by omega⟩
 obtain ⟨x,hx,h8,r,hr,he,hv⟩:=cQ0 a0 t a2 (by omega) (by omega) (by omega)
 have ek:Nat.ble ((tL5.length+[z8 4 0 V4 a0,z8 5 0 D9 3,z8 a2 0 D9 (t:Int)].length)*160) 140737488355328=true:=Nat.ble_eq_true_of_le (by rw [aV8]; simp only [List.length_cons,List.length_nil]; omega)
 have el:(((tL5++[z8 4 0 V4 a0,z8 5 0 D9 3,z8 a2 0 D9 (t:Int)]).length:Nat):Int)=8:=by rw [List.length_append,aV8]; rfl
 have e7:wr ((8:Int) - 1)=((7:Nat):Int):=by rw [aY0 (by unfold Z8; omega)]; rfl
 have em:wr (a0*(t:Int))=a0*(t:Int):=by
  have:=(aM2 (n:=a0) (by omega) t (by omega)).2
  exact aY0 (by unfold Z8; omega)
 simp only [c1,c2,c3,c4,c5,c6,decide_false,cond_false,Option.bind_some,b72,Q9,M3,O5]
 show (bif Nat.ble ((tL5.length+[z8 4 0 V4 a0,z8 5 0 D9 3,z8 a2 0 D9 (t:Int)].length)*160) 140737488355328 then ((P5 tN (tL5++[z8 4 0 V4 a0,z8 5 0 D9 3,z8 a2 0 D9 (t:Int)])).bind _) else none)=some true
 rw [ek,hx]
 simp only [cond_true,Option.bind_some,decide_true]
 show ((bif decide (((x.2.length:Nat):Int)=(((tL5++[z8 4 0 V4 a0,z8 5 0 D9 3,z8 a2 0 D9 (t:Int)]).length:Nat):Int)) then ((F3 x.2 (wr ((((tL5++[z8 4 0 V4 a0,z8 5 0 D9 3,z8 a2 0 D9 (t:Int)]).length:Nat):Int) - (1:Int)))).bind fun x44=>(bif decide (x44.err=(0:Int)) then ((F3 x.2 (wr ((((tL5++[z8 4 0 V4 a0,z8 5 0 D9 3,z8 a2 0 D9 (t:Int)]).length:Nat):Int) - (1:Int)))).bind fun x48=>some ((aC6 (eV x48.value) (eV ⟨3,wr (a0*(t:Int))⟩)))) else some (false))) else some (false):Option Bool).bind fun v36=>some v36)=some true
 rw [el,h8,e7,bG7,hr]
 have e8:decide (((8:Nat):Int)=8)=true:=rfl
 simp only [e8,cond_true,Option.bind_some,he,decide_true,hv,em]
 exact congrArg some ((eqV _ _).trans (decide_eq_true rfl))
end Go.Proofs.YtibjcppjfkamhaaGreatDoor
