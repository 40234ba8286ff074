/- Walks after the mirrors. Printed by mir.py. -/
import Derived.Test.YtahmeibkdhbngaaWk1
namespace Go.Proofs.Ytahmeibkdhbngaa
open Go.RowKit
set_option linter.unusedVariables false
/- qclaw2.alive -/
set_option maxRecDepth 100000 in
set_option maxHeartbeats 8000000 in
theorem a10 (N:Nat) (r:Bool) (h:aA4 N =some r):Spec Try.prog 38 [] [] (.bool r) [] []:=by
 refine Spec.of F4 Try.func38 rfl Try.ntmps38 (by kernel_rfl) rfl rfl rfl fun Γ hn=>?_
 unfold aA4 at h
 refine j5 hn ?_
 refine j5 hn ?_
 obtain ⟨r1,hr2,h⟩:=j6 h
 show q8 Try.prog _ _ _ _
 refine cA (bI6 N  r1 hr2) ?_
 obtain ⟨r3,hr4,h⟩:=j6 h
 show q8 Try.prog _ _ _ _
 refine cA (aS5 N r1 (⟨#[65]⟩:ByteArray) (0:Int) (2:Int) r3 hr4) ?_
 refine j5 hn ?_
 obtain ⟨r5,hr6,h⟩:=j6 h
 show q8 Try.prog _ _ _ _
 refine cA (aS5 N r3.1 (⟨#[66]⟩:ByteArray) r3.2.1 (1:Int) r5 hr6) ?_
 refine kp [(1,_),(2,_),(3,_),(4,_),(5,_)] [(1,_)] ?_
 refine j5 hn ?_
 obtain ⟨r7,hr8,h⟩:=j6 h
 show q8 Try.prog _ _ _ _
 refine cA (aX9 N r5.1 r3.2.1 (⟨(⟨#[109]⟩:ByteArray),(1:Int),(0:Int),(0:Int),[]⟩:Me) r7 hr8) ?_
 refine j5 hn ?_
 obtain ⟨r9,hr10,h⟩:=j6 h
 show q8 Try.prog _ _ _ _
 refine cA (aS4 N r7.1 r5.2.1 (⟨#[109]⟩:ByteArray) r9 hr10) ?_
 refine j4.seqQ fun _ A0 _ _=>?_
 obtain ⟨o13,h12,h⟩:=j6 h
 refine jk (ι:={ s // o13=s }) hn (fun s=>[(0,.bool s.1)]) (fun s=>[]) [] [] (fun _ A1 _ _=>?_) ?_
 ·refine kp [(1,_),(2,_),(3,_),(4,_),(5,_),(6,_),(7,_),(8,_)] [(1,_)] ?_
  refine u6 hn ?_
  refine l5 h12 (fun hb14 h12=>?_) (fun hb14 h12=>?_)
  ·refine j3 hb14 ?_
   refine j3 hb14 ?_
   refine l5 h12 (fun hb15 h12=>?_) (fun hb15 h12=>?_)
   ·refine j3 hb15 ?_
    refine j3 hb15 ?_
    refine l5 h12 (fun hb16 h12=>?_) (fun hb16 h12=>?_)
    ·refine j3 hb16 ?_
     refine j3 hb16 ?_
     refine l5 h12 (fun hb17 h12=>?_) (fun hb17 h12=>?_)
     ·refine j3 hb17 ?_
      refine j3 hb17 ?_
      refine l5 h12 (fun hb18 h12=>?_) (fun hb18 h12=>?_)
      ·refine j3 hb18 ?_
       refine j3 hb18 ?_
       refine l5 h12 (fun hb19 h12=>?_) (fun hb19 h12=>?_)
       ·refine j3 hb19 ?_
        refine j3 hb19 ?_
        refine l5 h12 (fun hb20 h12=>?_) (fun hb20 h12=>?_)
        ·refine j3 hb20 ?_
         refine j3 hb20 ?_
         obtain ⟨r21,hr22,h12⟩:=j6 h12
         show q8 Try.prog _ _ _ _
         refine cA (aO4 N r7.1 r5.2.1 r21 hr22) ?_
         refine j3 hb20 ?_
         refine j3 hb20 ?_
         refine l5 h12 (fun hb23 h12=>?_) (fun hb23 h12=>?_)
         ·refine j3 hb23 ?_
          refine j3 hb23 ?_
          refine j3 hb23 ?_
          refine l5 h12 (fun hb24 h12=>?_) (fun hb24 h12=>?_)
          ·obtain ⟨r25,hr26,h12⟩:=j6 h12
           show q8 Try.prog _ _ _ _
           refine cA (aT0 N (⟨#[43]⟩:ByteArray) r25 hr26) ?_
           refine j3 hb24 ?_
           refine l5 h12 (fun hb27 h12=>?_) (fun hb27 h12=>?_)
           ·refine j3 hb27 ?_
            obtain ⟨r28,hr29,h12⟩:=j6 h12
            show q8 Try.prog _ _ _ _
            refine cA (((bF6 N r7.1 r28 hr29).sw 0 77).sw 1 777) ?_
            refine j3 hb27 ?_
            refine j3 hb27 ?_
            refine y9 (fun _=>?_)
            refine j3 hb27 ?_
            refine j3 hb27 ?_
            refine l5 h12 (fun hb31 h12=>?_) (fun hb31 h12=>?_)
            ·refine j3 hb31 ?_
             obtain ⟨r32,hr33,h12⟩:=j6 h12
             show q8 Try.prog _ _ _ _
             refine cA (U3 N (⟨ByteArray.empty,(3:Int),(0:Int),(0:Int),[]⟩:Me) r32 hr33) ?_
             refine j3 hb31 ?_
             refine j3 hb31 ?_
             refine j3 hb31 ?_
             refine A1 _ _ ?_
             exact jn ⟨_,sj h12⟩ []
            refine d9 hb31 ?_
            refine d9 hb31 ?_
            refine d9 hb31 ?_
            refine d9 hb31 ?_
            refine A1 _ _ ?_
            exact jn ⟨_,sj h12⟩ []
           refine d9 hb27 ?_
           refine d9 hb27 ?_
           refine d9 hb27 ?_
           refine d9 hb27 ?_
           refine d9 hb27 ?_
           refine A1 _ _ ?_
           exact jn ⟨_,sj h12⟩ []
          refine d9 hb24 ?_
          refine A1 _ _ ?_
          exact jn ⟨_,sj h12⟩ []
         refine d9 hb23 ?_
         refine d9 hb23 ?_
         refine d9 hb23 ?_
         refine A1 _ _ ?_
         exact jn ⟨_,sj h12⟩ []
        refine d9 hb20 ?_
        refine d9 hb20 ?_
        refine d9 hb20 ?_
        refine d9 hb20 ?_
        refine A1 _ _ ?_
        exact jn ⟨_,sj h12⟩ []
       refine d9 hb19 ?_
       refine d9 hb19 ?_
       refine A1 _ _ ?_
       exact jn ⟨_,sj h12⟩ []
      refine d9 hb18 ?_
      refine d9 hb18 ?_
      refine A1 _ _ ?_
      exact jn ⟨_,sj h12⟩ []
     refine d9 hb17 ?_
     refine d9 hb17 ?_
     refine A1 _ _ ?_
     exact jn ⟨_,sj h12⟩ []
    refine d9 hb16 ?_
    refine d9 hb16 ?_
    refine A1 _ _ ?_
    exact jn ⟨_,sj h12⟩ []
   refine d9 hb15 ?_
   refine d9 hb15 ?_
   refine A1 _ _ ?_
   exact jn ⟨_,sj h12⟩ []
  refine d9 hb14 ?_
  refine d9 hb14 ?_
  refine A1 _ _ ?_
  exact jn ⟨_,sj h12⟩ []
 rintro ⟨v11,hv_⟩
 replace hv_:=hv_.symm
 subst hv_
 refine A0 _ _ ?_
 refine got hn ?_
 obtain rfl:=Option.some.inj h
 exact ⟨[],_,fm⟩

/- qclaw2.ClassNearest -/
set_option maxRecDepth 100000 in
set_option maxHeartbeats 8000000 in
theorem aM2 (N:Nat) (a0:Wd) (a1:Int) (a2:ByteArray) (r:Bool) (h:Q7 N a0 a1 a2=some r):Spec Try.prog 8 [] [.agg (eWd a0),.int a1,.str a2] (.bool r) [] []:=by
 refine Spec.of F4 Try.func8 rfl Try.ntmps8 (by kernel_rfl) rfl rfl rfl fun Γ hn=>?_
 unfold Q7 at h
 refine j5 hn ?_
 refine j4.seqQ fun _ A0 _ R0=>?_
 refine j5 hn ?_
 obtain ⟨r1,hr2,h⟩:=j6 h
 show q8 Try.prog _ _ _ _
 refine cA (a10 N  r1 hr2) ?_
 refine l9 hn ?_
 refine l5 h (fun hb3 h=>?_) (fun hb3 h=>?_)
 ·refine j5 hn ?_
  refine got hn ?_
  refine R0 _ _ ?_
  obtain rfl:=Option.some.inj h
  exact ⟨[],_,fm⟩
 refine q9 hn ?_
 refine A0 _ _ ?_
 refine j4.seqQ fun _ A1 _ R1=>?_
 refine j5 hn ?_
 obtain ⟨r4,hr5,h⟩:=j6 h
 show q8 Try.prog _ _ _ _
 refine cA (a81 N a0 r4 hr5) ?_
 refine l9 hn ?_
 refine l5 h (fun hb6 h=>?_) (fun hb6 h=>?_)
 ·refine j5 hn ?_
  refine got hn ?_
  refine R1 _ _ ?_
  obtain rfl:=Option.some.inj h
  exact ⟨[],_,fm⟩
 refine q9 hn ?_
 refine A1 _ _ ?_
 refine j5 hn ?_
 obtain ⟨r7,hr8,h⟩:=j6 h
 show q8 Try.prog _ _ _ _
 refine cA (aS4 N a0 a1 a2 r7 hr8) ?_
 refine j4.seqQ fun _ A2 _ R2=>?_
 refine kp [(1,_),(2,_),(3,_),(7,_),(8,_)] [(3,_)] ?_
 refine j5 hn ?_
 obtain ⟨o12,h13,h⟩:=j6 h
 refine jk (ι:={ s // o12=G6.next s }) hn (fun s=>[]) (fun s=>[]) [(7,_),(8,_)] [] (fun _ A3 _ R3=>?_) ?_
 ·refine j4.blkQ fun _ _ E4 _ R4=>?_
  refine lq (ι:={ q:(Nat×Int) // y8 N a0 a2 r7 q.1 q.2=some o12 }) hn (fun q=>[(9,.int q.1.2)]) (fun q=>[]) (fun q=>q.1.1) [(2,_),(3,_),(7,_),(8,_)] [(3,_)] ⟨(N,a1),h13⟩ [] ?_
  rintro ⟨⟨n_,v10⟩,h13⟩ _ A5 X5 R5
  rcases n_ with _|n16
  ·rw [y8.eq_1] at h13
   cases h13
  ·replace h13:=(y8.eq_2 _ _ _ _ _ _).symm.trans h13
   refine j4.seqQ fun _ A6 X6 _=>?_
   refine j4.seqQ fun _ A7 _ _=>?_
   obtain ⟨o19,h18,h13⟩:=j6 h13
   refine jk (ι:={ s // o19=s }) hn (fun s=>[(34,.bool s.1)]) (fun s=>[]) [(2,_),(3,_),(7,_),(8,_),(9,_)] [(3,_)] (fun _ A8 _ _=>?_) ?_
   ·refine u6 hn ?_
    refine l5 h18 (fun hb20 h18=>?_) (fun hb20 h18=>?_)
    ·refine j3 hb20 ?_
     refine j3 hb20 ?_
     refine j3 hb20 ?_
     refine y9 (fun _=>?_)
     refine j3 hb20 ?_
     refine j3 hb20 ?_
     refine A8 _ _ ?_
     exact jn ⟨_,sj h18⟩ []
    refine d9 hb20 ?_
    refine d9 hb20 ?_
    refine d9 hb20 ?_
    refine d9 hb20 ?_
    refine d9 hb20 ?_
    refine A8 _ _ ?_
    exact jn ⟨_,sj h18⟩ []
   rintro ⟨v17,hv_⟩
   replace hv_:=hv_.symm
   subst hv_
   refine A7 _ _ ?_
   refine l9 hn ?_
   refine l5 h13 (fun hb22 h13=>?_) (fun hb22 h13=>?_)
   ·refine q9 hn ?_
    refine A6 _ _ ?_
    refine j4.seqQ fun _ A9 _ R9=>?_
    refine j4.blkQ fun _ A10 _ _ R10=>?_
    refine j5 hn ?_
    refine j4.seqQ fun _ A11 _ R11=>?_
    refine j5 hn ?_
    obtain ⟨x23,hx24,h13⟩:=j6 h13
    refine Y4 hx24 ?_
    refine y9 (fun hl25=>?_)
    obtain ⟨o30,h31,h13⟩:=j6 h13
    refine jk (ι:={ s // o30=G6.next s }) hn (fun s=>[(10,.bool s.1)]) (fun s=>[]) [(2,_),(3,_),(7,_),(8,_),(9,_)] [(3,_)] (fun _ A12 _ R12=>?_) ?_
    ·refine j4.blkQ fun _ _ E13 _ R13=>?_
     refine lq (ι:={ q:((List Me)×Nat×Bool) // q.1=x23.methods.drop q.2.1∧D7 N a2 r7 v10 q.1 q.2.1 q.2.2=some o30 }) hn (fun q=>[(10,.bool q.1.2.2),(48,.int (q.1.2.1:Int))]) (fun q=>[]) (fun q=>q.1.1.length) [(2,_),(3,_),(7,_),(8,_),(9,_),(46,_),(47,_)] [(3,_)] ⟨(x23.methods,0,false),rfl,h31⟩ [] ?_
     rintro ⟨⟨rest_,k26,v27⟩,hd33,h31⟩ _ A14 X14 R14
     replace hd33:rest_=x23.methods.drop k26:=hd33
     rcases rest_ with _|⟨x35,rest32⟩
     ·have hlt37:=J6 hd33
      replace h31:=(D7.eq_1 _ _ _ _ _ _).symm.trans h31
      refine j5 hn ?_
      refine j4.seqQ fun _ _ X15 _=>?_
      refine l9 hn ?_
      refine d9 hlt37 ?_
      refine H7 hn ?_
      refine X15 _ _ _ ?_
      refine X14 _ _ _ ?_
      refine E13 _ _ ?_
      refine A12 _ _ ?_
      exact jn ⟨_,sj h31⟩ []
     ·obtain ⟨hx36,hd2,hlt37⟩:=D5 hd33
      replace h31:=(D7.eq_2 _ _ _ _ _ _ _ _).symm.trans h31
      refine j5 hn ?_
      refine j4.seqQ fun _ A16 _ _=>?_
      refine l9 hn ?_
      refine j3 hlt37 ?_
      refine q9 hn ?_
      refine A16 _ _ ?_
      refine j4.seqQ fun _ A17 _ R17=>?_
      refine j4.blkQ fun _ A18 _ _ R18=>?_
      refine j5 hn ?_
      refine aA2 hx36 ?_
      refine j4.seqQ fun _ A19 _ _=>?_
      obtain ⟨o40,h39,h31⟩:=j6 h31
      refine jk (ι:={ s // o40=s }) hn (fun s=>[(10,.bool s.1)]) (fun s=>[]) [(2,_),(3,_),(7,_),(8,_),(9,_),(11,_),(12,_),(46,_),(47,_),(48,_)] [(3,_),(12,_)] (fun _ A20 _ _=>?_) ?_
      ·refine u6 hn ?_
       refine l5 h39 (fun hb41 h39=>?_) (fun hb41 h39=>?_)
       ·refine j3 hb41 ?_
        refine j3 hb41 ?_
        refine j3 hb41 ?_
        refine j3 hb41 ?_
        refine A20 _ _ ?_
        exact jn ⟨_,sj h39⟩ []
       refine d9 hb41 ?_
       refine d9 hb41 ?_
       refine d9 hb41 ?_
       refine d9 hb41 ?_
       refine A20 _ _ ?_
       exact jn ⟨_,sj h39⟩ []
      rintro ⟨v38,hv_⟩
      replace hv_:=hv_.symm
      subst hv_
      refine A19 _ _ ?_
      refine j4.seqQ fun _ A21 _ _=>?_
      obtain ⟨o44,h43,h31⟩:=j6 h31
      refine jk (ι:={ s // o44=s }) hn (fun s=>[(73,.bool s.1)]) (fun s=>[]) [(2,_),(3,_),(7,_),(8,_),(9,_),(10,_),(46,_),(47,_),(48,_)] [(3,_)] (fun _ A22 _ _=>?_) ?_
      ·refine u6 hn ?_
       refine l5 h43 (fun hb45 h43=>?_) (fun hb45 h43=>?_)
       ·refine j3 hb45 ?_
        refine j3 hb45 ?_
        refine j3 hb45 ?_
        refine l5 h43 (fun hb46 h43=>?_) (fun hb46 h43=>?_)
        ·refine j3 hb46 ?_
         refine j3 hb46 ?_
         refine j3 hb45 ?_
         refine j3 hb46 ?_
         refine j3 hb45 ?_
         refine A22 _ _ ?_
         exact jn ⟨_,sj h43⟩ []
        refine d9 hb46 ?_
        refine d9 hb46 ?_
        refine j3 hb45 ?_
        refine d9 hb46 ?_
        refine j3 hb45 ?_
        refine A22 _ _ ?_
        exact jn ⟨_,sj h43⟩ []
       refine d9 hb45 ?_
       refine d9 hb45 ?_
       refine d9 hb45 ?_
       refine d9 hb45 ?_
       refine d9 hb45 ?_
       refine A22 _ _ ?_
       exact jn ⟨_,sj h43⟩ []
      rintro ⟨v42,hv_⟩
      replace hv_:=hv_.symm
      subst hv_
      refine A21 _ _ ?_
      refine l9 hn ?_
      refine l5 h31 (fun hb47 h31=>?_) (fun hb47 h31=>?_)
      ·refine j5 hn ?_
       refine got hn ?_
       refine R18 _ _ ?_
       refine R17 _ _ ?_
       refine R14 _ _ ?_
       refine R13 _ _ ?_
       refine R12 _ _ ?_
       refine R11 _ _ ?_
       refine R10 _ _ ?_
       refine R9 _ _ ?_
       refine R5 _ _ ?_
       refine R4 _ _ ?_
       refine R3 _ _ ?_
       refine R2 _ _ ?_
       obtain rfl:=Option.some.inj h31
       obtain rfl:=Option.some.inj h13
       obtain rfl:=Option.some.inj h
       exact ⟨[],_,fm⟩
      refine q9 hn ?_
      refine A18 _ _ ?_
      refine A17 _ _ ?_
      refine u6 hn ?_
      refine Or.inl (And.intro (Y2 hx36 hl25) ?_)
      refine A14 _ _ ?_
      exact jn ⟨(rest32,k26+1,v38),hd2,h31⟩ [] (by show rest32.length < rest32.length+1; omega)
    rintro ⟨v29,rfl⟩
    refine A11 _ _ ?_
    refine j5 hn ?_
    refine l9 hn ?_
    refine l5 h13 (fun hb48 h13=>?_) (fun hb48 h13=>?_)
    ·refine j5 hn ?_
     refine got hn ?_
     refine R10 _ _ ?_
     refine R9 _ _ ?_
     refine R5 _ _ ?_
     refine R4 _ _ ?_
     refine R3 _ _ ?_
     refine R2 _ _ ?_
     obtain rfl:=Option.some.inj h13
     obtain rfl:=Option.some.inj h
     exact ⟨[],_,fm⟩
    refine q9 hn ?_
    refine A10 _ _ ?_
    refine A9 _ _ ?_
    refine u6 hn ?_
    obtain ⟨x49,hx50,h13⟩:=j6 h13
    refine Y4 hx50 ?_
    refine A5 _ _ ?_
    exact jn ⟨(n16,x49.super),h13⟩ [] (by show n16 < n16+1; omega)
   refine H7 hn ?_
   refine X6 _ _ _ ?_
   refine X5 _ _ _ ?_
   refine E4 _ _ ?_
   refine A3 _ _ ?_
   exact jn ⟨_,sj h13⟩ []
 rintro ⟨⟨⟩,rfl⟩
 refine A2 _ _ ?_
 refine j4.seqQ fun _ A23 _ _=>?_
 obtain ⟨o53,h52,h⟩:=j6 h
 refine jk (ι:={ s // o53=s }) hn (fun s=>[(6,.bool s.1)]) (fun s=>[]) [] [] (fun _ A24 _ _=>?_) ?_
 ·refine u6 hn ?_
  refine l5 h52 (fun hb54 h52=>?_) (fun hb54 h52=>?_)
  ·refine j3 hb54 ?_
   refine j3 hb54 ?_
   refine A24 _ _ ?_
   exact jn ⟨_,sj h52⟩ []
  refine d9 hb54 ?_
  refine d9 hb54 ?_
  refine A24 _ _ ?_
  exact jn ⟨_,sj h52⟩ []
 rintro ⟨v51,hv_⟩
 replace hv_:=hv_.symm
 subst hv_
 refine A23 _ _ ?_
 refine got hn ?_
 obtain rfl:=Option.some.inj h
 exact ⟨[],_,fm⟩
end Go.Proofs.Ytahmeibkdhbngaa
