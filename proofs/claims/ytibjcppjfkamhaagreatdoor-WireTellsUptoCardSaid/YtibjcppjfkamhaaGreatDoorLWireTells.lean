import Derived.Test.YtibjcppjfkamhaaGreatDoorPl66
/- The plain law of WireTells. No program in sight. -/
namespace Go.Proofs.YtibjcppjfkamhaaGreatDoor
open Go.RowKit
set_option linter.unusedVariables false
theorem bY5 (a0:Wd) (a1:List Int) (h0:cC6 a0) (h1:(okL okI) a1) (hb:bG3 a0+(bkL bkI) a1≤1048576):∃N,aH0 N a0 a1=some true:=by
 obtain ⟨N,hNe⟩:∃N:Nat,N=4194304:=⟨_,rfl⟩
 have hN:4194304≤N:=by omega
 refine ⟨N,?_⟩
 have hs:=cL9 (w:=a0) (by omega)
 have hl:=cQ8 h0
 have hb1:=aV5 (bk:=bkI) (fun a=>Nat.le_refl _) a1
 unfold aH0
 rw [bC7 N a0 hN hs,bK3 N a0 hN hs,cL7 N a0 (by omega),cT5 N a0 (by omega),cN1 N a1 (by omega),b77 N a1 (by omega)]
 obtain ⟨r,hr⟩:=bJ6 N a0 hN
 have e0:strOfNums (U (woT a0))=tx (woT a0):=aO4 (by rw [cP2]; rfl)
 simp only [Option.bind_some,hr,decide_true,Bool.not_true,cond_false,e0]
 have e1:((bif decide (r=(0:Int)) then some false else some false):Option Bool)=some false:=by cases decide (r=0)<;>rfl
 simp only [e1,Option.bind_some,cond_false]
 cases hp:bA8 (strOfNums a1).data.toList with
 |none=>simp [aV7]
 |some x =>
  obtain ⟨t1,hx⟩:=bV8 hp
  obtain ⟨q,hq⟩:=bJ6 N x hN
  simp only [bC7 N x hN hx.small,bK3 N x hN hx.small,hq,Option.bind_some]
  by_cases h:q=0
  ·simp [h,aV7]
  ·simp [h,aV7]
end Go.Proofs.YtibjcppjfkamhaaGreatDoor
