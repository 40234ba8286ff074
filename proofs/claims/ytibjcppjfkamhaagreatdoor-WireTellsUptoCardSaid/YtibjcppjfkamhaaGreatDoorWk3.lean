/- Walks after the mirrors. Printed by mir.py. -/
import Derived.Test.YtibjcppjfkamhaaGreatDoorWk2
namespace Go.Proofs.YtibjcppjfkamhaaGreatDoor
open Go.RowKit
set_option linter.unusedVariables false
/- qclaw4.WireTells -/
set_option maxRecDepth 100000 in
set_option maxHeartbeats 8000000 in
theorem bC9 (N:Nat) (a0:Wd) (a1:(List Int)) (r:Bool) (h:aH0 N a0 a1=some r):Spec Tryz.prog 5 [(2000,GL)] [.agg (eWd a0),.sl 1 (List.map (eIk .u8) a1)] (.bool r) [(2000,GL)] []:=by
 refine Spec.of F3 Tryz.func5 rfl Tryz.ntmps5 (by kernel_rfl) rfl rfl rfl fun Γ hn=>?_
 unfold aH0 at h
 refine j6 hn ?_
 refine j4.seqQ fun _ A0 _ R0=>?_
 refine j4.seqQ fun _ A1 _ _=>?_
 refine god hn (by kernel_rfl) ?_
 obtain ⟨r1,hr2,h⟩:=j5 h
 show l6 Tryz.prog _ _ _ _
 refine cA (bC4 N a0 r1 hr2) ?_
 obtain ⟨r3,hr4,h⟩:=j5 h
 show l6 Tryz.prog _ _ _ _
 refine cA (aP3 N a0 r3 hr4) ?_
 refine A1 _ _ ?_
 refine l7 hn ?_
 refine l5 h (fun hb5 h=>?_) (fun hb5 h=>?_)
 ·refine j6 hn ?_
  refine got hn ?_
  refine R0 _ _ ?_
  obtain rfl:=Option.some.inj h
  exact ⟨[],_,fm⟩
 refine l9 hn ?_
 refine A0 _ _ ?_
 refine j4.seqQ fun _ A2 _ R2=>?_
 refine j4.seqQ fun _ A3 _ _=>?_
 obtain ⟨o8,h7,h⟩:=j5 h
 refine jk (ι:={ s // o8=s }) hn (fun s=>[(24,.bool s.1)]) (fun s=>[]) [(1,_)] [(2000,_)] (fun _ A4 _ _=>?_) ?_
 ·refine god hn (by kernel_rfl) ?_
  obtain ⟨r9,hr10,h7⟩:=j5 h7
  show l6 Tryz.prog _ _ _ _
  refine cA (aP3 N a0 r9 hr10) ?_
  refine l5 h7 (fun hb11 h7=>?_) (fun hb11 h7=>?_)
  ·refine j3 hb11 ?_
   obtain ⟨r12,hr13,h7⟩:=j5 h7
   show l6 Tryz.prog _ _ _ _
   refine cA (bX7 N a0 r12 hr13) ?_
   refine j3 hb11 ?_
   refine Exists.intro r12 (And.intro rfl ?_)
   refine j3 hb11 ?_
   refine j3 hb11 ?_
   obtain ⟨r14,hr15,h7⟩:=j5 h7
   show l6 Tryz.prog _ _ _ _
   refine cA (bR4 N a0 r14 hr15) ?_
   refine j3 hb11 ?_
   refine j3 hb11 ?_
   refine A4 _ _ ?_
   exact jn ⟨_,sj h7⟩ []
  refine d9 hb11 ?_
  refine d9 hb11 ?_
  refine d9 hb11 ?_
  refine d9 hb11 ?_
  refine d9 hb11 ?_
  refine d9 hb11 ?_
  refine A4 _ _ ?_
  exact jn ⟨_,sj h7⟩ []
 rintro ⟨v6,hv_⟩
 replace hv_:=hv_.symm
 subst hv_
 refine A3 _ _ ?_
 refine l7 hn ?_
 refine l5 h (fun hb16 h=>?_) (fun hb16 h=>?_)
 ·refine j6 hn ?_
  refine got hn ?_
  refine R2 _ _ ?_
  obtain rfl:=Option.some.inj h
  exact ⟨[],_,fm⟩
 refine l9 hn ?_
 refine A2 _ _ ?_
 refine j6 hn ?_
 obtain ⟨r17,hr18,h⟩:=j5 h
 show l6 Tryz.prog _ _ _ _
 refine cA (bY9 N a1 r17 hr18) ?_
 refine j6 hn ?_
 obtain ⟨r19,hr20,h⟩:=j5 h
 show l6 Tryz.prog _ _ _ _
 refine cA (bO6 N a1 r19 hr20) ?_
 refine j4.seqQ fun _ A5 _ _=>?_
 obtain ⟨o23,h22,h⟩:=j5 h
 refine jk (ι:={ s // o23=s }) hn (fun s=>[(4,.bool s.1)]) (fun s=>[]) [] [(2000,_)] (fun _ A6 _ _=>?_) ?_
 ·refine p9 hn ?_
  refine l5 h22 (fun hb24 h22=>?_) (fun hb24 h22=>?_)
  ·refine j3 hb24 ?_
   refine j3 hb24 ?_
   obtain ⟨r25,hr26,h22⟩:=j5 h22
   show l6 Tryz.prog _ _ _ _
   refine cA (bD0 N r17.1 r19.1 r25 hr26) ?_
   refine j3 hb24 ?_
   refine A6 _ _ ?_
   exact jn ⟨_,sj h22⟩ []
  refine d9 hb24 ?_
  refine d9 hb24 ?_
  refine d9 hb24 ?_
  refine A6 _ _ ?_
  exact jn ⟨_,sj h22⟩ []
 rintro ⟨v21,hv_⟩
 replace hv_:=hv_.symm
 subst hv_
 refine A5 _ _ ?_
 refine got hn ?_
 obtain rfl:=Option.some.inj h
 exact ⟨[],_,fm⟩
end Go.Proofs.YtibjcppjfkamhaaGreatDoor
