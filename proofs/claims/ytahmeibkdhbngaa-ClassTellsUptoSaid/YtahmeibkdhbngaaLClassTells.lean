/- The plain law of qclaw2.ClassTells. No program in sight. -/
import Derived.Test.YtahmeibkdhbngaaPl50
namespace Go.Proofs.Ytahmeibkdhbngaa
open Go.RowKit
set_option linter.unusedVariables false
theorem aM8 (N:Nat):∀(l:List Cl) (k:Nat),∃o,H8 N l k=some o∧(match o with|.ret r=>r=true|.next ()=>∀x∈l,0≤x.slots∧x.slots≤6)
 |[],k=>⟨_,rfl,fun x hx=>by cases hx⟩
 |x::l,k=>by
  rw [H8]
  by_cases h1:x.slots < 0
  ·exact ⟨.ret true,by simp [h1],rfl⟩
  by_cases h2:6 < x.slots
  ·exact ⟨.ret true,by simp [h1,h2],rfl⟩
  obtain ⟨o,ho,h3⟩:=aM8 N l (k+1)
  refine ⟨o,by simp [h1,h2,ho],?_⟩
  cases o with
  |ret r=>exact h3
  |next u =>
   intro y hy
   rcases List.mem_cons.1 hy with rfl|hy
   ·omega
   ·exact h3 y hy
theorem bC0 (a0:Wd) (a1:Int) (a2:ByteArray) (a3:Int) (a4:Me) (h0:b38 a0) (h1:okI a1) (h2:okS a2) (h3:okI a3) (h4:bO9 a4) (hb:bD0 a0+bkI a1+bkS a2+bkI a3+aG6 a4≤1048576):∃N,Y3 N a0 a1 a2 a3 a4=some true:=by
 obtain ⟨N,hN⟩:∃N:Nat,4194304≤N:=⟨4194304,Nat.le_refl _⟩
 refine ⟨N,?_⟩
 have hs:=bU0 (w:=a0) (by omega)
 have hm:a4.code.length≤1048576:=by
  have:=aK7 (bk:=aK2) (fun a=>bF0 a) a4.code
  unfold aG6 at hb; omega
 unfold Y3
 obtain ⟨o,ho,hsl⟩:=aM8 N a0.classes 0
 rw [ho]
 cases o with
 |ret r=>simp only [Option.bind_some]; rw [show r=true from hsl]
 |next u =>
 have hsl:∀x∈a0.classes,0≤x.slots∧x.slots≤6:=hsl
 obtain ⟨b,hb1,hb2⟩:=bO0 N a0 hs
 simp only [Option.bind_some,hb1]
 cases b with
 |false=>rfl
 |true =>
 have hw:=hb2 rfl
 have hn:(aH7 N).bind (fun r22=>(aE1 N).bind fun r24=>H9 N r22 r24)=some true:=by
  unfold aH7 aE1; simp only [Option.bind_some,aX0,decide_true]
 unfold aH7 aE1
 simp only [Option.bind_some,aX0,decide_true,Bool.not_true,cond_false,cond_true,bH9 N a0 hs,aU6,aR2,aP9 N a0 a1 (by omega) hs.1,aN4 N a0 a1 (by omega) hs.1,
  bG4 N a0 a1 a2 (by omega) hw hs,bD7 N a0 a1 a2 (by omega) hs.1,bG5 N a0 a2 a1 a3 (by omega) hs hsl,bB7 N a0 a2 a1 a3 (by omega) hs hsl,
  a08 N a0 a1 a4 (by omega) hs hw hm,aY2 N a0 a1 a4 hs hw,V8 N a4 hm,aY5]
end Go.Proofs.Ytahmeibkdhbngaa
