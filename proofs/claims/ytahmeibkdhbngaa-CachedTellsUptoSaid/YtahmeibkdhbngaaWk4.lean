/- Walks after the mirrors. Printed by mir.py. -/
import Derived.Test.YtahmeibkdhbngaaWk3
namespace Go.Proofs.Ytahmeibkdhbngaa
open Go.RowKit
set_option linter.unusedVariables false
/- qcref1.SameLines -/
set_option maxRecDepth 100000 in
set_option maxHeartbeats 8000000 in
theorem a18 (N:Nat) (a0:(List Ln)) (a1:(List Ln)) (r:Bool) (h:aE2 N a0 a1=some r):Spec Try.prog 55 [] [.sl 2 (List.map J6 a0),.sl 2 (List.map J6 a1)] (.bool r) [] []:=by
 refine Spec.of z8 Try.func55 rfl Try.ntmps55 (by kernel_rfl) rfl rfl rfl fun Γ hn=>?_
 unfold aE2 at h
 refine j6 hn ?_
 refine j5.seqQ fun _ A0 _ R0=>?_
 refine j6 hn ?_
 refine y7 (fun _=>?_)
 refine y7 (fun _=>?_)
 refine l8 hn ?_
 refine l5 h (fun hb3 h=>?_) (fun hb3 h=>?_)
 ·refine j6 hn ?_
  refine got hn ?_
  refine R0 _ _ ?_
  obtain rfl:=Option.some.inj h
  exact ⟨[],_,fm⟩
 refine p9 hn ?_
 refine A0 _ _ ?_
 refine j5.seqQ fun _ A1 _ R1=>?_
 refine j6 hn ?_
 refine y7 (fun hl4=>?_)
 obtain ⟨o6,h7,h⟩:=j4 h
 refine jk (ι:={ s // o6=C9.next s }) hn (fun s=>[]) (fun s=>[]) [] [] (fun _ A2 _ R2=>?_) ?_
 ·refine j5.blkQ fun _ _ E3 _ R3=>?_
  refine lq (ι:={ q:((List Ln)×Nat) // q.1=a0.drop q.2∧V3 N a1 q.1 q.2=some o6 }) hn (fun q=>[(13,.int (q.1.2:Int))]) (fun q=>[]) (fun q=>q.1.1.length) [(0,_),(1,_),(12,_)] [] ⟨(a0,0),rfl,h7⟩ [] ?_
  rintro ⟨⟨rest_,k5⟩,hd9,h7⟩ _ A4 X4 R4
  replace hd9:rest_=a0.drop k5:=hd9
  rcases rest_ with _|⟨x11,rest8⟩
  ·have hlt13:=H5 hd9
   replace h7:=(V3.eq_1 _ _ _).symm.trans h7
   refine j6 hn ?_
   refine j5.seqQ fun _ _ X5 _=>?_
   refine l8 hn ?_
   refine d9 hlt13 ?_
   refine F6 hn ?_
   refine X5 _ _ _ ?_
   refine X4 _ _ _ ?_
   refine E3 _ _ ?_
   refine A2 _ _ ?_
   exact jn ⟨_,sj h7⟩ []
  ·obtain ⟨hx12,hd2,hlt13⟩:=D8 hd9
   replace h7:=(V3.eq_2 _ _ _ _ _).symm.trans h7
   refine j6 hn ?_
   refine j5.seqQ fun _ A6 _ _=>?_
   refine l8 hn ?_
   refine j3 hlt13 ?_
   refine p9 hn ?_
   refine A6 _ _ ?_
   refine j5.seqQ fun _ A7 _ R7=>?_
   refine j5.blkQ fun _ A8 _ _ R8=>?_
   refine j6 hn ?_
   refine j5.seqQ fun _ A9 _ _=>?_
   refine J7 hn (by kernel_rfl) ?_
   refine P8 hx12 ?_
   obtain ⟨x14,hx15,h7⟩:=j4 h7
   refine J3 hx15 ?_
   refine A9 _ _ ?_
   refine l8 hn ?_
   refine l5 h7 (fun hb16 h7=>?_) (fun hb16 h7=>?_)
   ·refine j6 hn ?_
    refine got hn ?_
    refine R8 _ _ ?_
    refine R7 _ _ ?_
    refine R4 _ _ ?_
    refine R3 _ _ ?_
    refine R2 _ _ ?_
    refine R1 _ _ ?_
    obtain rfl:=Option.some.inj h7
    obtain rfl:=Option.some.inj h
    exact ⟨[],_,fm⟩
   refine p9 hn ?_
   refine A8 _ _ ?_
   refine A7 _ _ ?_
   refine q8 hn ?_
   refine Or.inl (And.intro (P9 hx12 hl4) ?_)
   refine A4 _ _ ?_
   exact jn ⟨(rest8,k5+1),hd2,h7⟩ [] (by show rest8.length < rest8.length+1; omega)
 rintro ⟨⟨⟩,rfl⟩
 refine A1 _ _ ?_
 refine j6 hn ?_
 refine got hn ?_
 obtain rfl:=Option.some.inj h
 exact ⟨[],_,fm⟩

/- qcref1.SameCells -/
set_option maxRecDepth 100000 in
set_option maxHeartbeats 8000000 in
theorem bU2 (N:Nat) (a0:(List Ce)) (a1:(List Ce)) (r:Bool) (h:aJ0 N a0 a1=some r):Spec Try.prog 18 [] [.sl 6 (List.map Y6 a0),.sl 6 (List.map Y6 a1)] (.bool r) [] []:=by
 refine Spec.of z8 Try.func18 rfl Try.ntmps18 (by kernel_rfl) rfl rfl rfl fun Γ hn=>?_
 unfold aJ0 at h
 refine j6 hn ?_
 refine j5.seqQ fun _ A0 _ R0=>?_
 refine j6 hn ?_
 refine y7 (fun _=>?_)
 refine y7 (fun _=>?_)
 refine l8 hn ?_
 refine l5 h (fun hb3 h=>?_) (fun hb3 h=>?_)
 ·refine j6 hn ?_
  refine got hn ?_
  refine R0 _ _ ?_
  obtain rfl:=Option.some.inj h
  exact ⟨[],_,fm⟩
 refine p9 hn ?_
 refine A0 _ _ ?_
 refine j5.seqQ fun _ A1 _ R1=>?_
 refine j6 hn ?_
 refine y7 (fun hl4=>?_)
 obtain ⟨o6,h7,h⟩:=j4 h
 refine jk (ι:={ s // o6=C9.next s }) hn (fun s=>[]) (fun s=>[]) [] [] (fun _ A2 _ R2=>?_) ?_
 ·refine j5.blkQ fun _ _ E3 _ R3=>?_
  refine lq (ι:={ q:((List Ce)×Nat) // q.1=a0.drop q.2∧V8 N a1 q.1 q.2=some o6 }) hn (fun q=>[(13,.int (q.1.2:Int))]) (fun q=>[]) (fun q=>q.1.1.length) [(0,_),(1,_),(12,_)] [] ⟨(a0,0),rfl,h7⟩ [] ?_
  rintro ⟨⟨rest_,k5⟩,hd9,h7⟩ _ A4 X4 R4
  replace hd9:rest_=a0.drop k5:=hd9
  rcases rest_ with _|⟨x11,rest8⟩
  ·have hlt13:=H5 hd9
   replace h7:=(V8.eq_1 _ _ _).symm.trans h7
   refine j6 hn ?_
   refine j5.seqQ fun _ _ X5 _=>?_
   refine l8 hn ?_
   refine d9 hlt13 ?_
   refine F6 hn ?_
   refine X5 _ _ _ ?_
   refine X4 _ _ _ ?_
   refine E3 _ _ ?_
   refine A2 _ _ ?_
   exact jn ⟨_,sj h7⟩ []
  ·obtain ⟨hx12,hd2,hlt13⟩:=D8 hd9
   replace h7:=(V8.eq_2 _ _ _ _ _).symm.trans h7
   refine j6 hn ?_
   refine j5.seqQ fun _ A6 _ _=>?_
   refine l8 hn ?_
   refine j3 hlt13 ?_
   refine p9 hn ?_
   refine A6 _ _ ?_
   refine j5.seqQ fun _ A7 _ R7=>?_
   refine j5.blkQ fun _ A8 _ _ R8=>?_
   refine j6 hn ?_
   refine j5.seqQ fun _ A9 _ _=>?_
   obtain ⟨o16,h15,h7⟩:=j4 h7
   refine jk (ι:={ s // o16=s }) hn (fun s=>[(66,.bool s.1)]) (fun s=>[]) [(0,_),(1,_),(12,_),(13,_)] [] (fun _ A10 _ _=>?_) ?_
   ·refine kp [(0,_),(1,_),(5,_),(12,_),(13,_)] [] ?_
    refine J7 hn (by kernel_rfl) ?_
    refine P8 hx12 ?_
    obtain ⟨x17,hx18,h15⟩:=j4 h15
    refine J3 hx18 ?_
    refine l5 h15 (fun hb19 h15=>?_) (fun hb19 h15=>?_)
    ·refine j3 hb19 ?_
     refine j3 hb19 ?_
     refine j3 hb19 ?_
     refine j3 hb19 ?_
     refine j3 hb19 ?_
     refine j3 hb19 ?_
     refine j3 hb19 ?_
     refine j3 hb19 ?_
     refine j3 hb19 ?_
     refine j3 hb19 ?_
     refine j3 hb19 ?_
     refine A10 _ _ ?_
     exact jn ⟨_,sj h15⟩ []
    refine d9 hb19 ?_
    refine d9 hb19 ?_
    refine P8 hx12 ?_
    refine d9 hb19 ?_
    refine d9 hb19 ?_
    refine d9 hb19 ?_
    refine d9 hb19 ?_
    refine d9 hb19 ?_
    obtain ⟨x20,hx21,h15⟩:=j4 h15
    refine J3 hx21 ?_
    refine d9 hb19 ?_
    refine d9 hb19 ?_
    refine d9 hb19 ?_
    refine d9 hb19 ?_
    refine l5 h15 (fun hb22 h15=>?_) (fun hb22 h15=>?_)
    ·refine j3 hb22 ?_
     refine j3 hb22 ?_
     refine j3 hb22 ?_
     refine j3 hb22 ?_
     refine j3 hb22 ?_
     refine j3 hb22 ?_
     refine j3 hb22 ?_
     refine j3 hb22 ?_
     refine j3 hb22 ?_
     refine j3 hb22 ?_
     refine j3 hb22 ?_
     refine A10 _ _ ?_
     exact jn ⟨_,sj h15⟩ []
    refine d9 hb22 ?_
    refine d9 hb22 ?_
    refine P8 hx12 ?_
    refine d9 hb22 ?_
    refine d9 hb22 ?_
    refine d9 hb22 ?_
    refine d9 hb22 ?_
    refine d9 hb22 ?_
    obtain ⟨x23,hx24,h15⟩:=j4 h15
    refine J3 hx24 ?_
    refine d9 hb22 ?_
    refine d9 hb22 ?_
    refine d9 hb22 ?_
    refine d9 hb22 ?_
    refine l5 h15 (fun hb25 h15=>?_) (fun hb25 h15=>?_)
    ·refine j3 hb25 ?_
     refine j3 hb25 ?_
     refine j3 hb25 ?_
     refine j3 hb25 ?_
     refine j3 hb25 ?_
     refine j3 hb25 ?_
     refine j3 hb25 ?_
     refine j3 hb25 ?_
     refine j3 hb25 ?_
     refine j3 hb25 ?_
     refine j3 hb25 ?_
     refine j3 hb25 ?_
     refine A10 _ _ ?_
     exact jn ⟨_,sj h15⟩ []
    refine d9 hb25 ?_
    refine d9 hb25 ?_
    refine P8 hx12 ?_
    refine d9 hb25 ?_
    refine d9 hb25 ?_
    refine d9 hb25 ?_
    refine d9 hb25 ?_
    refine d9 hb25 ?_
    obtain ⟨x26,hx27,h15⟩:=j4 h15
    refine J3 hx27 ?_
    refine d9 hb25 ?_
    refine d9 hb25 ?_
    refine d9 hb25 ?_
    obtain ⟨r28,hr29,h15⟩:=j4 h15
    show l7 Try.prog _ _ _ _
    refine cA (a18 N x11.lines x26.lines r28 hr29) ?_
    refine d9 hb25 ?_
    refine d9 hb25 ?_
    refine A10 _ _ ?_
    exact jn ⟨_,sj h15⟩ []
   rintro ⟨v14,hv_⟩
   replace hv_:=hv_.symm
   subst hv_
   refine A9 _ _ ?_
   refine l8 hn ?_
   refine l5 h7 (fun hb30 h7=>?_) (fun hb30 h7=>?_)
   ·refine j6 hn ?_
    refine got hn ?_
    refine R8 _ _ ?_
    refine R7 _ _ ?_
    refine R4 _ _ ?_
    refine R3 _ _ ?_
    refine R2 _ _ ?_
    refine R1 _ _ ?_
    obtain rfl:=Option.some.inj h7
    obtain rfl:=Option.some.inj h
    exact ⟨[],_,fm⟩
   refine p9 hn ?_
   refine A8 _ _ ?_
   refine A7 _ _ ?_
   refine q8 hn ?_
   refine Or.inl (And.intro (P9 hx12 hl4) ?_)
   refine A4 _ _ ?_
   exact jn ⟨(rest8,k5+1),hd2,h7⟩ [] (by show rest8.length < rest8.length+1; omega)
 rintro ⟨⟨⟩,rfl⟩
 refine A1 _ _ ?_
 refine j6 hn ?_
 refine got hn ?_
 obtain rfl:=Option.some.inj h
 exact ⟨[],_,fm⟩

/- qcref1.SameTallies -/
set_option maxRecDepth 100000 in
set_option maxHeartbeats 8000000 in
theorem bO5 (N:Nat) (a0:(List Tl)) (a1:(List Tl)) (r:Bool) (h:aF7 N a0 a1=some r):Spec Try.prog 19 [] [.sl 4 (List.map eTl a0),.sl 4 (List.map eTl a1)] (.bool r) [] []:=by
 refine Spec.of z8 Try.func19 rfl Try.ntmps19 (by kernel_rfl) rfl rfl rfl fun Γ hn=>?_
 unfold aF7 at h
 refine j6 hn ?_
 refine j5.seqQ fun _ A0 _ R0=>?_
 refine j6 hn ?_
 refine y7 (fun _=>?_)
 refine y7 (fun _=>?_)
 refine l8 hn ?_
 refine l5 h (fun hb3 h=>?_) (fun hb3 h=>?_)
 ·refine j6 hn ?_
  refine got hn ?_
  refine R0 _ _ ?_
  obtain rfl:=Option.some.inj h
  exact ⟨[],_,fm⟩
 refine p9 hn ?_
 refine A0 _ _ ?_
 refine j5.seqQ fun _ A1 _ R1=>?_
 refine j6 hn ?_
 refine y7 (fun hl4=>?_)
 obtain ⟨o6,h7,h⟩:=j4 h
 refine jk (ι:={ s // o6=C9.next s }) hn (fun s=>[]) (fun s=>[]) [] [] (fun _ A2 _ R2=>?_) ?_
 ·refine j5.blkQ fun _ _ E3 _ R3=>?_
  refine lq (ι:={ q:((List Tl)×Nat) // q.1=a0.drop q.2∧Q8 N a1 q.1 q.2=some o6 }) hn (fun q=>[(13,.int (q.1.2:Int))]) (fun q=>[]) (fun q=>q.1.1.length) [(0,_),(1,_),(12,_)] [] ⟨(a0,0),rfl,h7⟩ [] ?_
  rintro ⟨⟨rest_,k5⟩,hd9,h7⟩ _ A4 X4 R4
  replace hd9:rest_=a0.drop k5:=hd9
  rcases rest_ with _|⟨x11,rest8⟩
  ·have hlt13:=H5 hd9
   replace h7:=(Q8.eq_1 _ _ _).symm.trans h7
   refine j6 hn ?_
   refine j5.seqQ fun _ _ X5 _=>?_
   refine l8 hn ?_
   refine d9 hlt13 ?_
   refine F6 hn ?_
   refine X5 _ _ _ ?_
   refine X4 _ _ _ ?_
   refine E3 _ _ ?_
   refine A2 _ _ ?_
   exact jn ⟨_,sj h7⟩ []
  ·obtain ⟨hx12,hd2,hlt13⟩:=D8 hd9
   replace h7:=(Q8.eq_2 _ _ _ _ _).symm.trans h7
   refine j6 hn ?_
   refine j5.seqQ fun _ A6 _ _=>?_
   refine l8 hn ?_
   refine j3 hlt13 ?_
   refine p9 hn ?_
   refine A6 _ _ ?_
   refine j5.seqQ fun _ A7 _ R7=>?_
   refine j5.blkQ fun _ A8 _ _ R8=>?_
   refine j6 hn ?_
   refine j5.seqQ fun _ A9 _ _=>?_
   obtain ⟨o16,h15,h7⟩:=j4 h7
   refine jk (ι:={ s // o16=s }) hn (fun s=>[(40,.bool s.1)]) (fun s=>[]) [(0,_),(1,_),(12,_),(13,_)] [] (fun _ A10 _ _=>?_) ?_
   ·refine kp [(0,_),(1,_),(5,_),(12,_),(13,_)] [] ?_
    refine J7 hn (by kernel_rfl) ?_
    refine P8 hx12 ?_
    obtain ⟨x17,hx18,h15⟩:=j4 h15
    refine J3 hx18 ?_
    refine l5 h15 (fun hb19 h15=>?_) (fun hb19 h15=>?_)
    ·refine j3 hb19 ?_
     refine j3 hb19 ?_
     refine j3 hb19 ?_
     refine j3 hb19 ?_
     refine j3 hb19 ?_
     refine j3 hb19 ?_
     refine j3 hb19 ?_
     refine j3 hb19 ?_
     refine j3 hb19 ?_
     refine j3 hb19 ?_
     refine j3 hb19 ?_
     refine j3 hb19 ?_
     refine A10 _ _ ?_
     exact jn ⟨_,sj h15⟩ []
    refine d9 hb19 ?_
    refine d9 hb19 ?_
    refine P8 hx12 ?_
    refine d9 hb19 ?_
    refine d9 hb19 ?_
    refine d9 hb19 ?_
    refine d9 hb19 ?_
    refine d9 hb19 ?_
    obtain ⟨x20,hx21,h15⟩:=j4 h15
    refine J3 hx21 ?_
    refine d9 hb19 ?_
    refine d9 hb19 ?_
    refine d9 hb19 ?_
    obtain ⟨r22,hr23,h15⟩:=j4 h15
    show l7 Try.prog _ _ _ _
    refine cA (a18 N x11.classes x20.classes r22 hr23) ?_
    refine d9 hb19 ?_
    refine d9 hb19 ?_
    refine A10 _ _ ?_
    exact jn ⟨_,sj h15⟩ []
   rintro ⟨v14,hv_⟩
   replace hv_:=hv_.symm
   subst hv_
   refine A9 _ _ ?_
   refine l8 hn ?_
   refine l5 h7 (fun hb24 h7=>?_) (fun hb24 h7=>?_)
   ·refine j6 hn ?_
    refine got hn ?_
    refine R8 _ _ ?_
    refine R7 _ _ ?_
    refine R4 _ _ ?_
    refine R3 _ _ ?_
    refine R2 _ _ ?_
    refine R1 _ _ ?_
    obtain rfl:=Option.some.inj h7
    obtain rfl:=Option.some.inj h
    exact ⟨[],_,fm⟩
   refine p9 hn ?_
   refine A8 _ _ ?_
   refine A7 _ _ ?_
   refine q8 hn ?_
   refine Or.inl (And.intro (P9 hx12 hl4) ?_)
   refine A4 _ _ ?_
   exact jn ⟨(rest8,k5+1),hd2,h7⟩ [] (by show rest8.length < rest8.length+1; omega)
 rintro ⟨⟨⟩,rfl⟩
 refine A1 _ _ ?_
 refine j6 hn ?_
 refine got hn ?_
 obtain rfl:=Option.some.inj h
 exact ⟨[],_,fm⟩

/- qclaw8.CachedTells -/
set_option maxRecDepth 100000 in
set_option maxHeartbeats 8000000 in
theorem bO6 (N:Nat) (a0:Wd) (a1:O3) (a2:Int) (a3:(List Ce)) (a4:(List Tl)) (r:Bool) (h:aL4 N a0 a1 a2 a3 a4=some r):Spec Try.prog 4 [] [.agg (eWd a0),.agg (bD0 a1),.int a2,.sl 6 (List.map Y6 a3),.sl 4 (List.map eTl a4)] (.bool r) [] []:=by
 refine Spec.of z8 Try.func4 rfl Try.ntmps4 (by kernel_rfl) rfl rfl rfl fun Γ hn=>?_
 unfold aL4 at h
 refine j6 hn ?_
 refine j5.seqQ fun _ A0 _ R0=>?_
 refine j5.seqQ fun _ A1 _ _=>?_
 obtain ⟨o3,h2,h⟩:=j4 h
 refine jk (ι:={ s // o3=s }) hn (fun s=>[(21,.bool s.1)]) (fun s=>[]) [(2,_),(3,_),(4,_),(5,_),(6,_)] [(5,_),(6,_)] (fun _ A2 _ _=>?_) ?_
 ·refine q8 hn ?_
  obtain ⟨r4,hr5,h2⟩:=j4 h2
  show l7 Try.prog _ _ _ _
  refine cA (b87 N a0 r4 hr5) ?_
  refine l5 h2 (fun hb6 h2=>?_) (fun hb6 h2=>?_)
  ·refine j3 hb6 ?_
   refine j3 hb6 ?_
   refine j3 hb6 ?_
   refine j3 hb6 ?_
   refine A2 _ _ ?_
   exact jn ⟨_,sj h2⟩ []
  refine d9 hb6 ?_
  refine d9 hb6 ?_
  obtain ⟨r7,hr8,h2⟩:=j4 h2
  show l7 Try.prog _ _ _ _
  refine cA (b69 N a0 a3 r7 hr8) ?_
  refine d9 hb6 ?_
  refine d9 hb6 ?_
  refine A2 _ _ ?_
  exact jn ⟨_,sj h2⟩ []
 rintro ⟨v1,hv_⟩
 replace hv_:=hv_.symm
 subst hv_
 refine A1 _ _ ?_
 refine l8 hn ?_
 refine l5 h (fun hb9 h=>?_) (fun hb9 h=>?_)
 ·refine j6 hn ?_
  refine got hn ?_
  refine R0 _ _ ?_
  obtain rfl:=Option.some.inj h
  exact ⟨[],_,fm⟩
 refine p9 hn ?_
 refine A0 _ _ ?_
 refine j6 hn ?_
 obtain ⟨r10,hr11,h⟩:=j4 h
 show l7 Try.prog _ _ _ _
 refine cA (cI6 N a0 a1 a2 a3 a4 r10 hr11) ?_
 refine j6 hn ?_
 obtain ⟨r12,hr13,h⟩:=j4 h
 show l7 Try.prog _ _ _ _
 refine cA (b60 N a0 a1 a2 a3 a4 r12 hr13) ?_
 refine j5.seqQ fun _ A3 _ _=>?_
 obtain ⟨o16,h15,h⟩:=j4 h
 refine jk (ι:={ s // o16=s }) hn (fun s=>[(10,.bool s.1)]) (fun s=>[]) [] [] (fun _ A4 _ _=>?_) ?_
 ·refine kp [(11,_),(12,_)] [(11,_),(12,_)] ?_
  refine q8 hn ?_
  obtain ⟨r17,hr18,h15⟩:=j4 h15
  show l7 Try.prog _ _ _ _
  refine cA (bU5 N r10.world r12.world r17 hr18) ?_
  refine l5 h15 (fun hb19 h15=>?_) (fun hb19 h15=>?_)
  ·refine j3 hb19 ?_
   refine j3 hb19 ?_
   refine j3 hb19 ?_
   refine j3 hb19 ?_
   refine j3 hb19 ?_
   refine l5 h15 (fun hb20 h15=>?_) (fun hb20 h15=>?_)
   ·refine j3 hb20 ?_
    refine j3 hb20 ?_
    refine j3 hb20 ?_
    refine j3 hb20 ?_
    obtain ⟨r21,hr22,h15⟩:=j4 h15
    show l7 Try.prog _ _ _ _
    refine cA (bU2 N r10.cells r12.cells r21 hr22) ?_
    refine j3 hb20 ?_
    refine l5 h15 (fun hb23 h15=>?_) (fun hb23 h15=>?_)
    ·refine j3 hb23 ?_
     refine j3 hb23 ?_
     refine j3 hb23 ?_
     refine j3 hb23 ?_
     obtain ⟨r24,hr25,h15⟩:=j4 h15
     show l7 Try.prog _ _ _ _
     refine cA (bO5 N r10.tallies r12.tallies r24 hr25) ?_
     refine j3 hb23 ?_
     refine l5 h15 (fun hb26 h15=>?_) (fun hb26 h15=>?_)
     ·refine j3 hb26 ?_
      refine j3 hb26 ?_
      refine j3 hb26 ?_
      refine j3 hb26 ?_
      refine j3 hb26 ?_
      refine l5 h15 (fun hb27 h15=>?_) (fun hb27 h15=>?_)
      ·refine j3 hb27 ?_
       refine j3 hb27 ?_
       refine j3 hb27 ?_
       refine j3 hb27 ?_
       refine j3 hb27 ?_
       refine A4 _ _ ?_
       exact jn ⟨_,sj h15⟩ []
      refine d9 hb27 ?_
      refine d9 hb27 ?_
      refine d9 hb27 ?_
      refine d9 hb27 ?_
      refine d9 hb27 ?_
      refine A4 _ _ ?_
      exact jn ⟨_,sj h15⟩ []
     refine d9 hb26 ?_
     refine d9 hb26 ?_
     refine d9 hb26 ?_
     refine d9 hb26 ?_
     refine d9 hb26 ?_
     refine A4 _ _ ?_
     exact jn ⟨_,sj h15⟩ []
    refine d9 hb23 ?_
    refine d9 hb23 ?_
    refine d9 hb23 ?_
    refine d9 hb23 ?_
    refine d9 hb23 ?_
    refine A4 _ _ ?_
    exact jn ⟨_,sj h15⟩ []
   refine d9 hb20 ?_
   refine d9 hb20 ?_
   refine d9 hb20 ?_
   refine d9 hb20 ?_
   refine d9 hb20 ?_
   refine A4 _ _ ?_
   exact jn ⟨_,sj h15⟩ []
  refine d9 hb19 ?_
  refine d9 hb19 ?_
  refine d9 hb19 ?_
  refine d9 hb19 ?_
  refine d9 hb19 ?_
  refine A4 _ _ ?_
  exact jn ⟨_,sj h15⟩ []
 rintro ⟨v14,hv_⟩
 replace hv_:=hv_.symm
 subst hv_
 refine A3 _ _ ?_
 refine got hn ?_
 obtain rfl:=Option.some.inj h
 exact ⟨[],_,fm⟩
end Go.Proofs.Ytahmeibkdhbngaa
