import Derived.Test.YtibjcppjfkamhaaGreatDoorPl77
/- The plain law of TopChanged. No program in sight. -/
namespace Go.Proofs.YtibjcppjfkamhaaGreatDoor
open Go.RowKit
set_option linter.unusedVariables false
theorem cH7 {s:y8} {x:J7} {v:V} (h:(F5 tN s x).map (fun x=>(x.1,x.2.err,x.2.value))=some (s,0,v)):∃r:N7,F5 tN s x=some (s,r)∧r.value=v:=by
 cases hx:F5 tN s x with
 |none=>rw [hx] at h; cases h
 |some y =>
  rw [hx] at h
  simp only [Option.map_some,Option.some.injEq,Prod.mk.injEq] at h
  obtain ⟨a,b⟩:=y
  obtain ⟨h1,h2,h3⟩:=h
  simp only at h1 h2 h3
  subst h1
  exact ⟨b,rfl,h3⟩
theorem cY1 (n m:Int) (t:Nat) (hn:-1000≤n∧n≤1000) (hm:-1000≤m∧m≤1000) (ht:t≤60):∃x:y8×List N7,P5 tN (tL5++[z8 4 0 V4 n,z8 5 0 D9 4,z8 6 0 D9 (t:Int),aV9 4 m,z8 6 0 D9 (t:Int),z8 5 0 D9 (t:Int)])=some (x.1,x.2,0)∧x.2.length=11 ∧
  ∃r1 r2 r3,x.2[7]?=some r1∧x.2[9]?=some r2∧x.2[10]?=some r3∧r1.value=⟨3,n*t⟩∧r2.value=⟨3,m*t⟩∧r3.value=⟨3,m*t⟩:=by
 obtain ⟨q4,h4⟩:∃q,F5 tN (tS6 n) (z8 5 0 D9 4)=some (tS7 n,q):=by
  have h:=dB0 n
  cases hx:F5 tN (tS6 n) (z8 5 0 D9 4) with
  |none=>rw [hx] at h; cases h
  |some y =>
   rw [hx] at h
   obtain ⟨a,b⟩:=y
   simp only [Option.map_some,Option.some.injEq] at h
   subst h
   exact ⟨b,rfl⟩
 obtain ⟨r1,h5,v1⟩:=cH7 (c81 n t ht)
 obtain ⟨r2,h7,v2⟩:=cH7 (c89 n m t ht)
 obtain ⟨y,r3,h8,v3⟩:∃y r,F5 tN (tS9 n m) (z8 5 0 D9 (t:Int))=some (y,r)∧r.value=⟨3,a07 m t⟩:=by
  have h:(F5 tN (tS9 n m) (z8 5 0 D9 (t:Int))).map (fun x=>(x.2.err,x.2.value))=some (0,⟨3,a07 m t⟩):=c26 n m t ht
  cases hx:F5 tN (tS9 n m) (z8 5 0 D9 (t:Int)) with
  |none=>rw [hx] at h; cases h
  |some y =>
   rw [hx] at h
   obtain ⟨a,b⟩:=y
   simp only [Option.map_some,Option.some.injEq,Prod.mk.injEq] at h
   exact ⟨a,b,rfl,h.2⟩
 rw [(aM2 hn t ht).1] at v1
 rw [(aM2 hm t ht).1] at v2 v3
 obtain ⟨a0,a1,a2,a3,a4,hR⟩:∃a0 a1 a2 a3 a4,tR5.2=[a0,a1,a2,a3,a4]:=by
  have h:=b33
  match h2:tR5.2 with
  |[a0,a1,a2,a3,a4]=>exact ⟨a0,a1,a2,a3,a4,rfl⟩
  |[]=>rw [h2] at h; cases h
  |[_]=>rw [h2] at h; cases h
  |[_,_]=>rw [h2] at h; cases h
  |[_,_,_]=>rw [h2] at h; cases h
  |[_,_,_,_]=>rw [h2] at h; cases h
  |_::_::_::_::_::_::l=>rw [h2] at h; simp at h
 have e1:D7 tN [z8 4 0 V4 n,z8 5 0 D9 4,z8 6 0 D9 (t:Int),aV9 4 m,z8 6 0 D9 (t:Int),z8 5 0 D9 (t:Int)] 5 tR5.1 [a0,a1,a2,a3,a4]=some (y,[a0,a1,a2,a3,a4,⟨0,1,⟨4,0⟩⟩,q4,r1,⟨0,0,⟨0,0⟩⟩,r2,r3]):=by
  rw [D7,cH5 n hn]
  simp only [Option.bind_some]
  rw [D7,h4]
  simp only [Option.bind_some]
  rw [D7,h5]
  simp only [Option.bind_some]
  rw [D7,dA8 n m hm]
  simp only [Option.bind_some]
  rw [D7,h7]
  simp only [Option.bind_some]
  rw [D7,h8]
  rfl
 refine ⟨(y,[a0,a1,a2,a3,a4,⟨0,1,⟨4,0⟩⟩,q4,r1,⟨0,0,⟨0,0⟩⟩,r2,r3]),?_,rfl,r1,r2,r3,rfl,rfl,rfl,v1,v2,v3⟩
 have el:decide ((60:Int) < ((tL5++[z8 4 0 V4 n,z8 5 0 D9 4,z8 6 0 D9 (t:Int),aV9 4 m,z8 6 0 D9 (t:Int),z8 5 0 D9 (t:Int)]).length:Int))=false:=by
  rw [List.length_append,aV8]
  rfl
 unfold P5
 rw [el,b69]
 simp only [cond_false,Option.bind_some]
 rw [b46,hR,e1]
 rfl
theorem b59 (a0:Int) (a1:Int) (a2:Int) (h0:okI a0) (h1:okI a1) (h2:okI a2) (hb:bkI a0+bkI a1+bkI a2≤1048576):∃N,aO3 N a0 a1 a2=some true:=by
 refine ⟨tN,?_⟩
 unfold aO3
 rw [bQ2]
 simp only [Option.bind_some,Bool.not_true,cond_false]
 by_cases c1:a0 < -1000
 ·simp [c1]
 by_cases c2:1000 < a0
 ·simp [c1,c2]
 by_cases c3:a1 < -1000
 ·simp [c1,c2,c3]
 by_cases c4:1000 < a1
 ·simp [c1,c2,c3,c4]
 by_cases c5:a2 < 0
 ·simp [c1,c2,c3,c4,c5]
 by_cases c6:60 < a2
 ·simp [c1,c2,c3,c4,c5,c6]
 obtain ⟨t,rfl⟩:∃t:Nat,a2=(t:Int):=⟨a2.toNat,by omega⟩
 obtain ⟨x,hx,h8,r1,r2,r3,g1,g2,g3,v1,v2,v3⟩:=cY1 a0 a1 t (by omega) (by omega) (by omega)
 generalize hL:[z8 4 0 V4 a0,z8 5 0 D9 4,z8 6 0 D9 (t:Int),aV9 4 a1,z8 6 0 D9 (t:Int),z8 5 0 D9 (t:Int)]=L at hx
 have hLl:L.length=6:=by rw [←hL]; rfl
 have ek:Nat.ble ((tL5.length+L.length)*160) 140737488355328=true:=Nat.ble_eq_true_of_le (by rw [aV8,hLl]; omega)
 have el:(((tL5++L).length:Nat):Int)=11:=by rw [List.length_append,aV8,hLl]; rfl
 have e4:wr ((11:Int) - 4)=((7:Nat):Int):=by rw [aY0 (by unfold Z8; omega)]; rfl
 have e2:wr ((11:Int) - 2)=((9:Nat):Int):=by rw [aY0 (by unfold Z8; omega)]; rfl
 have e1:wr ((11:Int) - 1)=((10:Nat):Int):=by rw [aY0 (by unfold Z8; omega)]; rfl
 have em:wr (a0*(t:Int))=a0*(t:Int):=by
  have:=(aM2 (n:=a0) (by omega) t (by omega)).2
  exact aY0 (by unfold Z8; omega)
 have em1:wr (a1*(t:Int))=a1*(t:Int):=by
  have:=(aM2 (n:=a1) (by omega) t (by omega)).2
  exact aY0 (by unfold Z8; omega)
 have eq1:∀v:V,aC6 (eV v) (eV v)=true:=fun v=>(eqV v v).trans (decide_eq_true rfl)
 simp only [c1,c2,c3,c4,c5,c6,decide_false,cond_false,Option.bind_some,b72,Q9,M3,O5,J9,Z6]
 have conv:∀{α:Type} (F:List J7→α),F [z8 4 0 V4 a0,z8 5 0 D9 4,z8 6 0 D9 (t:Int),aV9 4 a1,z8 6 0 D9 (t:Int),z8 5 0 D9 (t:Int)]=F L:=fun F=>by rw [hL]
 refine (conv (fun L=>(bif Nat.ble ((tL5.length+L.length)*160) 140737488355328 then ((P5 tN (tL5++L)).bind fun r52 =>
  ((bif (!decide (r52.2.2=(0:Int))) then some (true) else some ((!decide ((r52.2.1.length:Int)=((tL5++L).length:Int)))):Option Bool).bind fun v54 =>
   (bif v54 then some false else
    (((F3 r52.2.1 (wr (((tL5++L).length:Int) - (4:Int)))).bind fun x65 =>
     (bif (aC6 (eV x65.value) (eV ⟨3,wr (a0*(t:Int))⟩)) then
      ((F3 r52.2.1 (wr (((tL5++L).length:Int) - (2:Int)))).bind fun x70 =>
       (bif (aC6 (eV x70.value) (eV ⟨3,wr (a1*(t:Int))⟩)) then
        ((F3 r52.2.1 (wr (((tL5++L).length:Int) - (1:Int)))).bind fun x75=>some (aC6 (eV x75.value) (eV ⟨3,wr (a1*(t:Int))⟩)))
       else some (false)))
     else some (false)):Option Bool).bind fun v62=>some v62)))) else none:Option Bool))).trans ?_
 rw [ek,hx]
 simp only [cond_true,Option.bind_some,decide_true,Bool.not_true,cond_false,el,h8]
 have e8:decide (((11:Nat):Int)=11)=true:=rfl
 simp only [e8,Bool.not_true,cond_false,e4,e2,e1,bG7,g1,g2,g3,Option.bind_some,v1,v2,v3,em,em1,eq1,cond_true]
end Go.Proofs.YtibjcppjfkamhaaGreatDoor
