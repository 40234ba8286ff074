import Derived.Test.YtibjcppjfkamhaaDoorPl64
/- The plain law of WireCut. No program in sight. -/
namespace Go.Proofs.YtibjcppjfkamhaaDoor
open Go.RowKit
set_option linter.unusedVariables false
theorem bU2 (a0:Wd) (a1:Int) (h0:bQ4 a0) (h1:okI a1) (hb:aV2 a0+bkI a1≤1048576):∃N,aE4 N a0 a1=some true:=by
 obtain ⟨N,hNe⟩:∃N:Nat,N=4194304:=⟨_,rfl⟩
 have hN:4194304≤N:=by omega
 refine ⟨N,?_⟩
 have hs:=b71 (w:=a0) (by omega)
 have hl:=bV5 h0
 unfold aE4
 rw [bW7 N hN,aL3 N a0 hN hs]
 obtain ⟨r,hr⟩:=bT6 N a0 hN
 simp only [Option.bind_some,Bool.not_true,cond_false,hr]
 by_cases h:r=0
 ·subst h
  have hw:=(b77 hr).wr h0
  rw [bN6 N a0 (by omega)]
  simp only [decide_true,Bool.not_true,cond_false,Option.bind_some,aB7]
  by_cases g:a1 < 0
  ·simp only [g,decide_true,cond_true,Option.bind_some]
  ·by_cases g2:((Z7 a0).length:Int)≤a1
   ·simp only [g,g2,decide_true,decide_false,cond_true,cond_false,Option.bind_some]
   ·have e1:(decide (0≤a1) && decide (a1≤((Z7 a0).length:Int)))=true:=by simp only [Bool.and_eq_true,decide_eq_true_eq]; omega
    have e2:(U (Z7 a0)).take a1.toNat=U ((Z7 a0).take a1.toNat):=by simp [U,List.map_take]
    simp only [g,g2,decide_false,cond_false,Option.bind_some,e1,cond_true,e2]
    rw [bP2 N _ (by rw [aB7,List.length_take]; omega),bN2,cB9 hw a1.toNat (by omega)]
    rfl
 ·simp only [h,decide_false,Bool.not_false,cond_true]
end Go.Proofs.YtibjcppjfkamhaaDoor
