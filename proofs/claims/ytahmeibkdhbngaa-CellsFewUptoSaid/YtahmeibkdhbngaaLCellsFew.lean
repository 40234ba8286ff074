/- The plain law of qclaw6.CellsFew. No program in sight. -/
import Derived.Test.YtahmeibkdhbngaaPl10
namespace Go.Proofs.Ytahmeibkdhbngaa
open Go.RowKit
set_option linter.unusedVariables false
set_option maxRecDepth 100000 in
theorem aS6 : Z4 4194304=some true:=by kernel_rfl
theorem aV2 {c:Int} {b:Bool}:∀{m:List (Int×Bool)},c∈m.map (·.1)→(N7 c b m).map (·.1)=m.map (·.1)
 |[],h=>by cases h
 |p::m,h=>by
  rw [N7]
  by_cases e:c=p.1
  ·rw [if_pos e]; simp [e]
  ·rw [if_neg e,List.map_cons,List.map_cons,aV2 (by rcases List.mem_cons.1 h with h|h; exact absurd h e; exact h)]
theorem aQ1 {c:Int} {b:Bool}:∀{m:List (Int×Bool)},¬c∈m.map (·.1)→N7 c b m=m++[(c,b)]
 |[],_=>rfl
 |p::m,h=>by
  have e:¬c=p.1:=fun e=>h (by simp [e])
  rw [N7,if_neg e,aQ1 fun q=>h (List.mem_cons_of_mem _ q)]
  rfl
def X9 (D:List Int):List Ln:=D.map fun k=>⟨k,k⟩
def aN5 (s:St) (e:Int) (m:List (Int×Bool)) (y:Ce):Prop :=
 (y=⟨s,e,false,X9 (m.map (·.1))⟩∧m.length≤3)∨(y=⟨s,e,true,[]⟩∧3 < m.length)
theorem bA3 (c:Int) (D:List Int):(0≤ixf (fun t:Ln=>decide (t.cls=c)) (X9 D))↔c∈D:=by
 rw [bN0,List.any_eq_true]
 constructor
 ·rintro ⟨x,hx,h⟩
  obtain ⟨k,hk,rfl⟩:=List.mem_map.1 hx
  have:k=c:=by simpa using h
  exact this▸hk
 ·intro h
  exact ⟨⟨c,c⟩,List.mem_map.2 ⟨c,h,rfl⟩,by simp⟩
theorem aZ4 {k:Int}:∀{D:List Int},k∈D→aG2 k (X9 D)=k
 |[],h=>by cases h
 |d::D,h=>by
  show aG2 k (⟨d,d⟩::X9 D)=k
  rw [aG2]
  by_cases e:d=k
  ·simp [e]
  ·rw [if_neg e]; exact aZ4 (by rcases List.mem_cons.1 h with h|h; exact absurd h.symm e; exact h)
theorem bE2 {s:St} {e c:Int} {m:List (Int×Bool)} {y:Ce} (h:aN5 s e m y):aN5 s e (N7 c true m) (aA8 e c c y):=by
 rcases h with ⟨rfl,hl⟩|⟨rfl,hl⟩
 ·by_cases hc:c∈m.map (·.1)
  ·have h1:=aV2 (b:=true) hc
   have h2:(N7 c true m).length=m.length:=by rw [←List.length_map (f:=(·.1)),h1,List.length_map]
   have h3:aA8 e c c ⟨s,e,false,X9 (m.map (·.1))⟩=⟨s,e,false,X9 (m.map (·.1))⟩:=by
    unfold aA8 E9 K8
    rw [if_pos rfl,if_pos (Or.inr ((bA3 c _).2 hc))]
   exact .inl ⟨by rw [h3,h1],by omega⟩
  ·have h1:=aQ1 (b:=true) hc
   have hlen:(X9 (m.map (·.1))).length=m.length:=by simp [X9]
   have hno:¬((⟨s,e,false,X9 (m.map (·.1))⟩:Ce).many=true∨0≤ixf (fun t:Ln=>decide (t.cls=c)) (⟨s,e,false,X9 (m.map (·.1))⟩:Ce).lines):=by
    rintro (h|h)
    ·cases h
    ·exact hc ((bA3 c _).1 h)
   by_cases h3:m.length=3
   ·refine .inr ⟨?_,by rw [h1]; simp; omega⟩
    unfold aA8 E9 K8
    rw [if_pos rfl,if_neg hno,if_pos (by show (3:Int)≤((X9 (m.map (·.1))).length:Int); rw [hlen]; omega)]
   ·refine .inl ⟨?_,by rw [h1]; simp; omega⟩
    unfold aA8 E9 K8
    rw [if_pos rfl,if_neg hno,if_neg (by show ¬(3:Int)≤((X9 (m.map (·.1))).length:Int); rw [hlen]; omega),h1]
    simp [X9]
 ·have h3:aA8 e c c ⟨s,e,true,[]⟩=⟨s,e,true,[]⟩:=by
   unfold aA8 E9 K8
   rw [if_pos rfl,if_pos (Or.inl rfl)]
  refine .inr ⟨h3,?_⟩
  by_cases hc:c∈m.map (·.1)
  ·have h1:=aV2 (b:=true) hc
   have h2:(N7 c true m).length=m.length:=by rw [←List.length_map (f:=(·.1)),h1,List.length_map]
   omega
  ·rw [aQ1 hc]; simp; omega
theorem aI1 (N:Nat) {s:St} {e:Int} {m:List (Int×Bool)} {y:Ce} (h:aN5 s e m y):∀q:List (Int×Bool),(∀p∈q,p.1∈m.map (·.1))→I9 N s e [y] (m.length:Int) q=some ()
 |[],_=>rfl
 |p::q,hq=>by
  have hp:=hq p (by simp)
  have h1:aT2 N s e [y] (m.length:Int) p.1=some ():=by
   unfold aT2
   rw [aY3]
   rcases h with ⟨rfl,hl⟩|⟨rfl,hl⟩
   ·have h3:(m.length:Int)≤3:=by omega
    have h4:aF5 s e p.1 [⟨s,e,false,X9 (m.map (·.1))⟩]=p.1:=by
     rw [aF5,if_pos rfl,if_pos rfl]; exact aZ4 hp
    simp [h3,h4]
   ·have h3:¬(m.length:Int)≤3:=by omega
    have h4:aF5 s e p.1 [⟨s,e,true,[]⟩]=-1:=by
     rw [aF5,if_pos rfl,if_pos rfl]; rfl
    simp [h3,h4]
  rw [I9,h1]
  exact aI1 N h q fun p hp=>hq p (by simp [hp])
def aZ3 (s:St) (e:Int) (m:List (Int×Bool)) (l:List Ce):Prop:=(l=[]∧m=[])∨∃y,l=[y]∧aN5 s e m y
theorem aM4 {s:St} {e:Int} {m:List (Int×Bool)} {y:Ce} (h:aN5 s e m y):y.lines.length≤3∧y.site=s:=by
 rcases h with ⟨rfl,hl⟩|⟨rfl,hl⟩
 ·exact ⟨by simp [X9]; omega,rfl⟩
 ·exact ⟨by simp,rfl⟩
theorem aZ3.small {s:St} {e:Int} {m:List (Int×Bool)} {l:List Ce} (h:aZ3 s e m l):bF4 l:=by
 rcases h with ⟨rfl,_⟩|⟨y,rfl,h⟩
 ·exact ⟨by simp,fun x hx=>by cases hx⟩
 ·exact ⟨by simp,fun x hx=>by rw [List.mem_singleton] at hx; subst hx; have:=(aM4 h).1; omega⟩
theorem aZ3.put {s:St} {e c:Int} {m:List (Int×Bool)} {l:List Ce} (h:aZ3 s e m l):∃y,aX8 s e c c l=[y]∧aN5 s e (N7 c true m) y:=by
 rcases h with ⟨rfl,rfl⟩|⟨y,rfl,h⟩
 ·exact ⟨_,rfl,bE2 (.inl ⟨rfl,by simp⟩)⟩
 ·exact ⟨aA8 e c c y,by rw [aX8,if_pos (aM4 h).2],bE2 h⟩
theorem aH7 (N:Nat) (s:St) (e:Int):∀(cs:List Int) (k:Nat) (l:List Ce) (m:List (Int×Bool)),aZ3 s e m l→m.length+cs.length≤1048576→I4 N s e cs k l m=some (.next ())
 |[],k,l,m,_,_=>rfl
 |c::cs,k,l,m,h,hb=>by
  rw [I4,aZ0 N l s e c c h.small]
  obtain ⟨y,h1,h2⟩:=h.put (c:=c)
  obtain ⟨h3,_⟩:=aM4 h2
  have h4:¬(3:Int) < (y.lines.length:Int):=by omega
  have hn:X8 [y] 0=some y:=by rw [show (0:Int)=((0:Nat):Int) from rfl,aD6]; rfl
  have hm:=aQ0 c true m
  simp only [List.length_cons] at hb
  rw [h1]
  simp only [Option.bind_some]
  rw [aQ5 (by omega)]
  simp only [hn,h4,List.length_singleton,decide_true,decide_false,Bool.not_true,cond_true,cond_false,Option.bind_some,Int.natCast_one,Int.cast_ofNat_Int]
  rw [aI1 N h2 _ fun p hp=>List.mem_map_of_mem hp]
  exact aH7 N s e cs (k+1) [y] _ (.inr ⟨y,rfl,h2⟩) (by omega)
theorem a81 (a0:St) (a1:Int) (a2:(List Int)) (h0:bO3 a0) (h1:okI a1) (h2:(okL okI) a2) (hb:bB7 a0+bkI a1+(bkL bkI) a2≤1048576):∃N,U3 N a0 a1 a2=some true:=by
 refine ⟨4194304,?_⟩
 unfold U3
 rw [aS6]
 generalize 4194304=N
 have hl:=bL9 (bk:=bkI) (fun a=>by show 1≤bkI a; exact Nat.le_refl 1) a2
 simp only [Option.bind_some,Bool.not_true,cond_false]
 rw [aH7 N a0 a1 a2 0 [] [] (.inl ⟨rfl,rfl⟩) (by simp; omega)]
 rfl
end Go.Proofs.Ytahmeibkdhbngaa
