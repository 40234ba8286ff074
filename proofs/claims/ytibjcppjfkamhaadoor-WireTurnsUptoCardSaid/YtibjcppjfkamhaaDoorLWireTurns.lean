import Derived.Test.YtibjcppjfkamhaaDoorPl64
/- The plain law of WireTurns. No program in sight. -/
namespace Go.Proofs.YtibjcppjfkamhaaDoor
open Go.RowKit
set_option linter.unusedVariables false
theorem bO2 (a0:Wd) (a1:List Int) (h0:bQ4 a0) (h1:(okL okI) a1) (hb:aX4 a0+(bkL bkI) a1≤1048576):∃N,aD2 N a0 a1=some true:=by
 obtain ⟨N,hNe⟩:∃N:Nat,N=4194304:=⟨_,rfl⟩
 have hN:4194304≤N:=by omega
 refine ⟨N,?_⟩
 have hs:=b97 (w:=a0) (by omega)
 have hl:=bY7 h0
 have hb1:=aO5 (bk:=bkI) (fun a=>Nat.le_refl _) a1
 unfold aD2
 rw [b06 N hN,aB2 N a0 hN hs]
 obtain ⟨r,hr⟩:=bB4 N a0 hN
 simp only [Option.bind_some,Bool.not_true,cond_false,hr]
 have first:((bif decide (r=(0:Int)) then ((aB8 N a0).bind fun r9=>((Y6 N r9).bind fun r11=>(((bif (!decide (r11.2=(0:Int))) then some (true) else ((U8 N r11.1 a0).bind fun r17=>some ((!r17)))):Option Bool).bind fun v13=>(bif v13 then some (F7.ret false) else some (.next ()))))) else some (.next ())):Option (F7 Bool Unit))=some (.next ()):=by
  by_cases h:r=0
  ·subst h
   have hw:=(cB5 hr).wr h0
   rw [bD7 N a0 (by omega)]
   simp only [decide_true,cond_true,Option.bind_some]
   rw [bD9 N _ (by rw [aE7]; omega),bG0,bX8 hw]
   simp only [aB2 N a0 hN hs,hr,Option.bind_some,decide_true,Bool.not_true,cond_false,bS4,cond_true]
  ·rw [decide_eq_false h]
   rfl
 rw [first]
 simp only [Option.bind_some]
 rw [bD9 N a1 (by omega)]
 cases hp:bF2 (strOfNums a1).data.toList with
 |none=>simp
 |some x =>
  obtain ⟨t1,hx⟩:=b61 hp
  obtain ⟨q,hq⟩:=bB4 N x hN
  have hlen:(woT x).length=a1.length:=by rw [←t1,strOfNums_data,List.length_map]
  simp only [aB2 N x hN hx.small,hq,Option.bind_some]
  by_cases h:q=0
  ·subst h
   simp only [decide_true,Bool.not_true,cond_false,Option.bind_some,aB2 N x hN hx.small,hq,cond_true,bD7 N x (by omega),cO4 (show (strOfNums (U (woT x))).data.toList=(strOfNums a1).data.toList by rw [bG0,t1])]
  ·simp only [h,decide_false,Bool.not_false,cond_true,Option.bind_some]
   rfl
end Go.Proofs.YtibjcppjfkamhaaDoor
