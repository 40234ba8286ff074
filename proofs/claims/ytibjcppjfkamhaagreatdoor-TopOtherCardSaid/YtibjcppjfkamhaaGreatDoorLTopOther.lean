import Derived.Test.YtibjcppjfkamhaaGreatDoorPl80
/- The plain law of TopOther. No program in sight. -/
namespace Go.Proofs.YtibjcppjfkamhaaGreatDoor
open Go.RowKit
set_option linter.unusedVariables false
theorem cV5 {s:y8} {x:J7} {v:V} (h:(F5 tN s x).map (fun x=>(x.1,x.2.err,x.2.value))=some (s,0,v)):∃r:N7,F5 tN s x=some (s,r)∧r.value=v:=by
 cases hx:F5 tN s x with
 |none=>rw [hx] at h; cases h
 |some y =>
  rw [hx] at h
  simp only [Option.map_some,Option.some.injEq,Prod.mk.injEq] at h
  obtain ⟨a,b⟩:=y
  obtain ⟨h1,h2,h3⟩:=h
  simp only at h1 h2 h3
  subst h1
  exact ⟨b,rfl,h3⟩
def otL (n m:Int) (t:Nat):List J7:=[cL5,aV9 5 m,cQ6,z8 4 0 V4 n,z8 4 1 V4 n,z8 5 0 D9 5,z8 6 1 D9 (t:Int),z8 6 0 D9 (t:Int)]
theorem cV0 (n m:Int) (t:Nat) (hn:-1000≤n∧n≤1000) (hm:-1000≤m∧m≤1000) (ht:t≤60):∃x:y8×List N7,P5 tN (tL5++otL n m t)=some (x.1,x.2,0)∧x.2.length=13 ∧
  ∃r1 r2,x.2[11]?=some r1∧x.2[12]?=some r2∧r1.value=⟨3,m*t⟩∧r2.value=⟨3,n*t⟩:=by
 obtain ⟨q6,h6⟩:∃q,F5 tN (tO5 n m) (z8 5 0 D9 5)=some (tO6 n m,q):=by
  have h:=dB5 n m
  cases hx:F5 tN (tO5 n m) (z8 5 0 D9 5) with
  |none=>rw [hx] at h; cases h
  |some y =>
   rw [hx] at h
   obtain ⟨a,b⟩:=y
   simp only [Option.map_some,Option.some.injEq] at h
   subst h
   exact ⟨b,rfl⟩
 obtain ⟨r1,h7,v1⟩:=cV5 (c82 n m t ht)
 obtain ⟨y,r2,h8,v2⟩:∃y r,F5 tN (tO6 n m) (z8 6 0 D9 (t:Int))=some (y,r)∧r.value=⟨3,a07 n t⟩:=by
  have h:(F5 tN (tO6 n m) (z8 6 0 D9 (t:Int))).map (fun x=>(x.2.err,x.2.value))=some (0,⟨3,a07 n t⟩):=c69 n m t ht
  cases hx:F5 tN (tO6 n m) (z8 6 0 D9 (t:Int)) with
  |none=>rw [hx] at h; cases h
  |some y =>
   rw [hx] at h
   obtain ⟨a,b⟩:=y
   simp only [Option.map_some,Option.some.injEq,Prod.mk.injEq] at h
   exact ⟨a,b,rfl,h.2⟩
 rw [(aM2 hm t ht).1] at v1
 rw [(aM2 hn t ht).1] at v2
 obtain ⟨a0,a1,a2,a3,a4,hR⟩:∃a0 a1 a2 a3 a4,tR5.2=[a0,a1,a2,a3,a4]:=by
  have h:=b33
  match h2:tR5.2 with
  |[a0,a1,a2,a3,a4]=>exact ⟨a0,a1,a2,a3,a4,rfl⟩
  |[]=>rw [h2] at h; cases h
  |[_]=>rw [h2] at h; cases h
  |[_,_]=>rw [h2] at h; cases h
  |[_,_,_]=>rw [h2] at h; cases h
  |[_,_,_,_]=>rw [h2] at h; cases h
  |_::_::_::_::_::_::l=>rw [h2] at h; simp at h
 have e1:D7 tN (otL n m t) 5 tR5.1 [a0,a1,a2,a3,a4]=some (y,[a0,a1,a2,a3,a4,⟨0,5,⟨0,0⟩⟩,⟨0,0,⟨0,0⟩⟩,⟨0,1,⟨4,1⟩⟩,⟨0,1,⟨4,0⟩⟩,⟨0,1,⟨4,1⟩⟩,q6,r1,r2]):=by
  unfold otL
  rw [D7,dD6]
  simp only [Option.bind_some]
  rw [D7,dC0 m hm]
  simp only [Option.bind_some]
  rw [D7,dC3 m]
  simp only [Option.bind_some]
  rw [D7,dC9 n m hn]
  simp only [Option.bind_some]
  rw [D7,dD1 n m hn]
  simp only [Option.bind_some]
  rw [D7,h6]
  simp only [Option.bind_some]
  rw [D7,h7]
  simp only [Option.bind_some]
  rw [D7,h8]
  rfl
 refine ⟨(y,[a0,a1,a2,a3,a4,⟨0,5,⟨0,0⟩⟩,⟨0,0,⟨0,0⟩⟩,⟨0,1,⟨4,1⟩⟩,⟨0,1,⟨4,0⟩⟩,⟨0,1,⟨4,1⟩⟩,q6,r1,r2]),?_,rfl,r1,r2,rfl,rfl,v1,v2⟩
 have el:decide ((60:Int) < ((tL5++otL n m t).length:Int))=false:=by
  rw [List.length_append,aV8]
  rfl
 unfold P5
 rw [el,b69]
 simp only [cond_false,Option.bind_some]
 rw [b46,hR,e1]
 rfl
theorem cE1 (a0:Int) (a1:Int) (a2:Int) (h0:okI a0) (h1:okI a1) (h2:okI a2) (hb:bkI a0+bkI a1+bkI a2≤1048576):∃N,aW3 N a0 a1 a2=some true:=by
 refine ⟨tN,?_⟩
 unfold aW3
 rw [bQ2]
 simp only [Option.bind_some,Bool.not_true,cond_false]
 by_cases c1:a0 < -1000
 ·simp [c1]
 by_cases c2:1000 < a0
 ·simp [c1,c2]
 by_cases c3:a1 < -1000
 ·simp [c1,c2,c3]
 by_cases c4:1000 < a1
 ·simp [c1,c2,c3,c4]
 by_cases c5:a2 < 0
 ·simp [c1,c2,c3,c4,c5]
 by_cases c6:60 < a2
 ·simp [c1,c2,c3,c4,c5,c6]
 obtain ⟨t,rfl⟩:∃t:Nat,a2=(t:Int):=⟨a2.toNat,by omega⟩
 obtain ⟨x,hx,h8,r1,r2,g1,g2,v1,v2⟩:=cV0 a0 a1 t (by omega) (by omega) (by omega)
 have hLl:(otL a0 a1 t).length=8:=rfl
 have ek:Nat.ble ((tL5.length+(otL a0 a1 t).length)*160) 140737488355328=true:=Nat.ble_eq_true_of_le (by rw [aV8,hLl]; omega)
 have el:(((tL5++otL a0 a1 t).length:Nat):Int)=13:=by rw [List.length_append,aV8,hLl]; rfl
 have e2:wr ((13:Int) - 2)=((11:Nat):Int):=by rw [aY0 (by unfold Z8; omega)]; rfl
 have e1:wr ((13:Int) - 1)=((12:Nat):Int):=by rw [aY0 (by unfold Z8; omega)]; rfl
 have em:wr (a0*(t:Int))=a0*(t:Int):=by
  have:=(aM2 (n:=a0) (by omega) t (by omega)).2
  exact aY0 (by unfold Z8; omega)
 have em1:wr (a1*(t:Int))=a1*(t:Int):=by
  have:=(aM2 (n:=a1) (by omega) t (by omega)).2
  exact aY0 (by unfold Z8; omega)
 have eq1:∀v:V,aC6 (eV v) (eV v)=true:=fun v=>(eqV v v).trans (decide_eq_true rfl)
 simp only [c1,c2,c3,c4,c5,c6,decide_false,cond_false,Option.bind_some,b72,Q9,M3,O5,J9,Z6]
 have conv:∀{α:Type} (F:List J7→α),F [cL5,aV9 5 a1,cQ6,z8 4 0 V4 a0,z8 4 1 V4 a0,z8 5 0 D9 5,z8 6 1 D9 (t:Int),z8 6 0 D9 (t:Int)]=F (otL a0 a1 t):=fun F=>rfl
 refine (conv (fun L=>(bif Nat.ble ((tL5.length+L.length)*160) 140737488355328 then ((P5 tN (tL5++L)).bind fun r52 =>
  ((bif (!decide (r52.2.2=(0:Int))) then some (true) else some ((!decide ((r52.2.1.length:Int)=((tL5++L).length:Int)))):Option Bool).bind fun v54 =>
   (bif v54 then some false else
    (((F3 r52.2.1 (wr (((tL5++L).length:Int) - (2:Int)))).bind fun x65 =>
     (bif (aC6 (eV x65.value) (eV ⟨3,wr (a1*(t:Int))⟩)) then
      ((F3 r52.2.1 (wr (((tL5++L).length:Int) - (1:Int)))).bind fun x70=>some (aC6 (eV x70.value) (eV ⟨3,wr (a0*(t:Int))⟩)))
     else some (false)):Option Bool).bind fun v62=>some v62)))) else none:Option Bool))).trans ?_
 rw [ek,hx]
 simp only [cond_true,Option.bind_some,decide_true,Bool.not_true,cond_false,el,h8]
 have e8:decide (((13:Nat):Int)=13)=true:=rfl
 simp only [e8,Bool.not_true,cond_false,e2,e1,bG7,g1,g2,Option.bind_some,v1,v2,em,em1,eq1,cond_true]
end Go.Proofs.YtibjcppjfkamhaaGreatDoor
