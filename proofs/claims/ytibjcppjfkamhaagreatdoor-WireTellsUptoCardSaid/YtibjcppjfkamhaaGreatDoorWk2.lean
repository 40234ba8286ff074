/- Walks after the mirrors. Printed by mir.py. -/
import Derived.Test.YtibjcppjfkamhaaGreatDoorWk1
namespace Go.Proofs.YtibjcppjfkamhaaGreatDoor
open Go.RowKit
set_option linter.unusedVariables false
/- qcref1.Name -/
set_option maxRecDepth 100000 in
set_option maxHeartbeats 8000000 in
theorem aQ7 (N:Nat) (a0:ByteArray) (r:Bool) (h:aF6 N a0=some r):Spec Tryz.prog 41 [] [.str a0] (.bool r) [] []:=by
 refine Spec.of F3 Tryz.func41 rfl Tryz.ntmps41 (by kernel_rfl) rfl rfl rfl fun Γ hn=>?_
 unfold aF6 at h
 refine j6 hn ?_
 refine j4.seqQ fun _ A0 _ R0=>?_
 refine j6 hn ?_
 intro _
 refine j4.rng 5 rfl (fun hrn2=>?_)
 obtain ⟨o3,h4,h⟩:=j5 h
 refine jk (ι:={ s // o3=C9.next s }) hn (fun s=>[]) (fun s=>[]) [(0,_)] [] (fun _ A1 _ R1=>?_) ?_
 ·refine j4.blkQ fun _ _ E2 _ R2=>?_
  refine lq (ι:={ q:(Nat×Nat) // q.1=((a0.size:Int) - (q.2:Int)).toNat∧aA2 N a0 q.1 q.2=some o3 }) hn (fun q=>[(6,.int (q.1.2:Int))]) (fun q=>[]) (fun q=>q.1.1) [(0,_),(5,_)] [] ⟨(((a0.size:Int) - ((0:Nat):Int)).toNat,0),rfl,h4⟩ [] ?_
  rintro ⟨⟨n_,k2⟩,hd6,h4⟩ _ A3 X3 R3
  replace hd6:n_=((a0.size:Int) - (k2:Int)).toNat:=hd6
  rcases n_ with _|n7
  ·have hlt10:=aH2 hd6
   replace h4:=(aA2.eq_1 _ _ _).symm.trans h4
   refine j6 hn ?_
   refine j4.seqQ fun _ _ X4 _=>?_
   refine l7 hn ?_
   refine d9 hlt10 ?_
   refine H8 hn ?_
   refine X4 _ _ _ ?_
   refine X3 _ _ _ ?_
   refine E2 _ _ ?_
   refine A1 _ _ ?_
   exact jn ⟨_,sj h4⟩ []
  ·obtain ⟨hd2,hlt10⟩:=aE5 hd6
   replace h4:=(aA2.eq_2 _ _ _ _).symm.trans h4
   refine j6 hn ?_
   refine j4.seqQ fun _ A5 _ _=>?_
   refine l7 hn ?_
   refine j3 hlt10 ?_
   refine l9 hn ?_
   refine A5 _ _ ?_
   refine j4.seqQ fun _ A6 _ R6=>?_
   refine j4.blkQ fun _ A7 _ _ R7=>?_
   refine j6 hn ?_
   refine j4.seqQ fun _ A8 _ _=>?_
   obtain ⟨o13,h12,h4⟩:=j5 h4
   refine jk (ι:={ s // o13=s }) hn (fun s=>[(18,.bool s.1)]) (fun s=>[]) [(0,_),(5,_),(6,_)] [] (fun _ A9 _ _=>?_) ?_
   ·refine p9 hn ?_
    obtain ⟨u14,hx15,h12⟩:=j5 h12
    refine byM hx15 ?_
    refine And.intro rfl ?_
    refine l5 h12 (fun hb16 h12=>?_) (fun hb16 h12=>?_)
    ·refine j3 hb16 ?_
     refine j3 hb16 ?_
     refine j3 hb16 ?_
     refine j3 hb16 ?_
     refine A9 _ _ ?_
     exact jn ⟨_,sj h12⟩ []
    refine d9 hb16 ?_
    refine d9 hb16 ?_
    obtain ⟨u17,hx18,h12⟩:=j5 h12
    refine byM hx18 ?_
    refine d9 hb16 ?_
    refine And.intro rfl ?_
    refine d9 hb16 ?_
    refine A9 _ _ ?_
    exact jn ⟨_,sj h12⟩ []
   rintro ⟨v11,hv_⟩
   replace hv_:=hv_.symm
   subst hv_
   refine A8 _ _ ?_
   refine l7 hn ?_
   refine l5 h4 (fun hb19 h4=>?_) (fun hb19 h4=>?_)
   ·refine j6 hn ?_
    refine got hn ?_
    refine R7 _ _ ?_
    refine R6 _ _ ?_
    refine R3 _ _ ?_
    refine R2 _ _ ?_
    refine R1 _ _ ?_
    refine R0 _ _ ?_
    obtain rfl:=Option.some.inj h4
    obtain rfl:=Option.some.inj h
    exact ⟨[],_,fm⟩
   refine l9 hn ?_
   refine A7 _ _ ?_
   refine A6 _ _ ?_
   refine p9 hn ?_
   refine Or.inl (And.intro (aL4 hlt10 hrn2) ?_)
   refine A3 _ _ ?_
   exact jn ⟨(n7,k2+1),hd2,h4⟩ [] (by show n7 < n7+1; omega)
 rintro ⟨⟨⟩,rfl⟩
 refine A0 _ _ ?_
 refine j4.seqQ fun _ A10 _ _=>?_
 obtain ⟨o22,h21,h⟩:=j5 h
 refine jk (ι:={ s // o22=s }) hn (fun s=>[(2,.bool s.1)]) (fun s=>[]) [] [] (fun _ A11 _ _=>?_) ?_
 ·refine p9 hn ?_
  intro _
  refine l5 h21 (fun hb24 h21=>?_) (fun hb24 h21=>?_)
  ·refine j3 hb24 ?_
   intro _
   refine j3 hb24 ?_
   refine j3 hb24 ?_
   refine A11 _ _ ?_
   exact jn ⟨_,sj h21⟩ []
  refine d9 hb24 ?_
  refine d9 hb24 ?_
  refine d9 hb24 ?_
  refine A11 _ _ ?_
  exact jn ⟨_,sj h21⟩ []
 rintro ⟨v20,hv_⟩
 replace hv_:=hv_.symm
 subst hv_
 refine A10 _ _ ?_
 refine got hn ?_
 obtain rfl:=Option.some.inj h
 exact ⟨[],_,fm⟩

/- qcref1.Ups -/
set_option maxRecDepth 100000 in
set_option maxHeartbeats 8000000 in
theorem bX0 (N:Nat) (a0:Wd) (a1:Int) (r:(List Int)) (h:aP0 N a0 a1=some r):Spec Tryz.prog 77 [] [.agg (eWd a0),.int a1] (.own 0) [(0,.row 1 (List.map F7 r) 3)] [0]:=by
 refine Spec.of F3 Tryz.func77 rfl Tryz.ntmps77 (by kernel_rfl) rfl rfl rfl fun Γ hn=>?_
 unfold aP0 at h
 refine j6 hn ?_
 refine j6 hn ?_
 refine j4.seqQ fun _ A0 _ _=>?_
 refine j4.nilrow 5 205 1 3 rfl rfl rfl ?_
 obtain ⟨o7,h8,h⟩:=j5 h
 refine jk (ι:={ s // o7=s }) hn (fun s=>[]) (fun s=>[(205,.row 1 (List.map F7 s.1) 3)]) [(5,_)] [] (fun _ A1 _ _=>?_) ?_
 ·refine j4.blkQ fun _ _ E2 _ _=>?_
  refine lq (ι:={ q:(Nat×Int×(List Int)) // aC1 N a0 q.1 q.2.1 q.2.2=some o7 }) hn (fun q=>[(1,.int q.1.2.1)]) (fun q=>[(205,.row 1 (List.map F7 q.1.2.2) 3)]) (fun q=>q.1.1) [(2,_),(5,_)] [(2,_)] ⟨(N,a1,([]:List Int)),h8⟩ [] ?_
  rintro ⟨⟨n_,v2,v3⟩,h8⟩ _ A3 X3 _
  rcases n_ with _|n11
  ·rw [aC1.eq_1] at h8
   cases h8
  ·replace h8:=(aC1.eq_2 _ _ _ _ _).symm.trans h8
   refine j4.seqQ fun _ A4 X4 _=>?_
   refine j4.seqQ fun _ A5 _ _=>?_
   obtain ⟨o14,h13,h8⟩:=j5 h8
   refine jk (ι:={ s // o14=s }) hn (fun s=>[(22,.bool s.1)]) (fun s=>[]) [(1,_),(2,_),(5,_)] [(2,_),(205,_)] (fun _ A6 _ _=>?_) ?_
   ·refine p9 hn ?_
    refine l5 h13 (fun hb15 h13=>?_) (fun hb15 h13=>?_)
    ·refine j3 hb15 ?_
     refine j3 hb15 ?_
     refine j3 hb15 ?_
     refine u7 (fun _=>?_)
     refine j3 hb15 ?_
     refine j3 hb15 ?_
     refine l5 h13 (fun hb17 h13=>?_) (fun hb17 h13=>?_)
     ·refine j3 hb17 ?_
      refine u7 (fun _=>?_)
      refine j3 hb17 ?_
      refine j3 hb17 ?_
      refine j3 hb17 ?_
      refine u7 (fun _=>?_)
      refine j3 hb17 ?_
      refine j3 hb17 ?_
      refine A6 _ _ ?_
      exact jn ⟨_,sj h13⟩ []
     refine d9 hb17 ?_
     refine d9 hb17 ?_
     refine d9 hb17 ?_
     refine d9 hb17 ?_
     refine d9 hb17 ?_
     refine d9 hb17 ?_
     refine A6 _ _ ?_
     exact jn ⟨_,sj h13⟩ []
    refine d9 hb15 ?_
    refine d9 hb15 ?_
    refine d9 hb15 ?_
    refine d9 hb15 ?_
    refine d9 hb15 ?_
    refine A6 _ _ ?_
    exact jn ⟨_,sj h13⟩ []
   rintro ⟨v12,hv_⟩
   replace hv_:=hv_.symm
   subst hv_
   refine A5 _ _ ?_
   refine l7 hn ?_
   refine l5 h8 (fun hb20 h8=>?_) (fun hb20 h8=>?_)
   ·refine l9 hn ?_
    refine A4 _ _ ?_
    refine j4.blkQ fun _ A7 _ _ _=>?_
    refine j6 hn ?_
    refine Exists.intro (List.map F7 [v2]) (And.intro (by repeat (first|exact trivial|exact rfl|(refine And.intro ?_ ?_))) ?_)
    obtain ⟨hg21,h8⟩:=F6 h8
    refine aJ7 (l2:=[v2]) hg21 (H7 _) ?_
    refine p9 hn ?_
    obtain ⟨x22,hx23,h8⟩:=j5 h8
    refine W9 hx23 ?_
    refine A7 _ _ ?_
    refine A3 _ _ ?_
    exact jn ⟨(n11,x22.super,(v3++[v2])),h8⟩ [(205,26)] (by show n11 < n11+1; omega)
   refine H8 hn ?_
   refine X4 _ _ _ ?_
   refine X3 _ _ _ ?_
   refine E2 _ _ ?_
   refine A1 _ _ ?_
   exact jn ⟨_,sj h8⟩ []
 rintro ⟨v6,hv_⟩
 replace hv_:=hv_.symm
 subst hv_
 refine A0 _ _ ?_
 refine j6 hn ?_
 refine got hn ?_
 obtain rfl:=Option.some.inj h
 exact ⟨[(0,205)],_,fm⟩

/- qcref1.Slots -/
set_option maxRecDepth 100000 in
set_option maxHeartbeats 8000000 in
theorem aI3 (N:Nat) (a0:Wd) (a1:Int) (r:Int) (h:aB5 N a0 a1=some r):Spec Tryz.prog 42 [] [.agg (eWd a0),.int a1] (.int r) [] []:=by
 refine Spec.of F3 Tryz.func42 rfl Tryz.ntmps42 (by kernel_rfl) rfl rfl rfl fun Γ hn=>?_
 unfold aB5 at h
 refine j6 hn ?_
 refine j6 hn ?_
 refine j4.seqQ fun _ A0 _ _=>?_
 refine j6 hn ?_
 obtain ⟨r1,hr2,h⟩:=j5 h
 show l6 Tryz.prog _ _ _ _
 refine cA ((bX0 N a0 a1 r1 hr2).sw 0 10) ?_
 refine u7 (fun hl3=>?_)
 obtain ⟨o8,h9,h⟩:=j5 h
 refine jk (ι:={ s // o8=s }) hn (fun s=>[(5,.int s.1)]) (fun s=>[]) [] [] (fun _ A1 _ _=>?_) ?_
 ·refine j4.blkQ fun _ _ E2 _ _=>?_
  refine lq (ι:={ q:((List Int)×Nat×Int) // q.1=r1.drop q.2.1∧X8 N a0 r1 q.1 q.2.1 q.2.2=some o8 }) hn (fun q=>[(5,.int q.1.2.2),(12,.int (q.1.2.1:Int))]) (fun q=>[]) (fun q=>q.1.1.length) [(2,_),(10,_),(11,_)] [(2,_),(10,_)] ⟨(r1,0,(0:Int)),rfl,h9⟩ [] ?_
  rintro ⟨⟨rest_,k4,v5⟩,hd11,h9⟩ _ A3 X3 _
  replace hd11:rest_=r1.drop k4:=hd11
  rcases rest_ with _|⟨x13,rest10⟩
  ·have hlt15:=G6 hd11
   replace h9:=(X8.eq_1 _ _ _ _ _).symm.trans h9
   refine j6 hn ?_
   refine j4.seqQ fun _ _ X4 _=>?_
   refine l7 hn ?_
   refine d9 hlt15 ?_
   refine H8 hn ?_
   refine X4 _ _ _ ?_
   refine X3 _ _ _ ?_
   refine E2 _ _ ?_
   refine A1 _ _ ?_
   exact jn ⟨_,sj h9⟩ []
  ·obtain ⟨hx14,hd2,hlt15⟩:=z8 hd11
   replace h9:=(X8.eq_2 _ _ _ _ _ _ _).symm.trans h9
   refine j6 hn ?_
   refine j4.seqQ fun _ A5 _ _=>?_
   refine l7 hn ?_
   refine j3 hlt15 ?_
   refine l9 hn ?_
   refine A5 _ _ ?_
   refine j4.seqQ fun _ A6 _ _=>?_
   refine j4.blkQ fun _ A7 _ _ _=>?_
   refine j6 hn ?_
   obtain ⟨x16,hx17,h9⟩:=j5 h9
   refine aI8 hx17 ?_
   refine ldM (J2 hx17).2 ?_
   refine p9 hn ?_
   obtain ⟨x18,hx19,h9⟩:=j5 h9
   refine W9 hx19 ?_
   refine Or.inr ?_
   refine A7 _ _ ?_
   refine A6 _ _ ?_
   refine kp [(2,_),(5,_),(10,_),(11,_),(12,_)] [(2,_),(10,_)] ?_
   refine p9 hn ?_
   refine Or.inl (And.intro (U0 hx14 hl3) ?_)
   refine A3 _ _ ?_
   exact jn ⟨(rest10,k4+1,(wr (v5+x18.slots))),hd2,h9⟩ [] (by show rest10.length < rest10.length+1; omega)
 rintro ⟨v7,hv_⟩
 replace hv_:=hv_.symm
 subst hv_
 refine A0 _ _ ?_
 refine j6 hn ?_
 refine got hn ?_
 obtain rfl:=Option.some.inj h
 exact ⟨[],_,fm⟩

/- qcref1.Numbers -/
set_option maxRecDepth 100000 in
set_option maxHeartbeats 8000000 in
theorem bI6 (N:Nat) (a0:Wd) (a1:Int) (a2:Me) (a3:Ins) (r:Int) (h:aA3 N a0 a1 a2 a3=some r):Spec Tryz.prog 78 [] [.agg (eWd a0),.int a1,.agg (Z6 a2),.agg (aG9 a3)] (.int r) [] []:=by
 refine Spec.of F3 Tryz.func78 rfl Tryz.ntmps78 (by kernel_rfl) rfl rfl rfl fun Γ hn=>?_
 unfold aA3 at h
 refine j6 hn ?_
 refine j6 hn ?_
 refine j4.seqQ fun _ A0 _ R0=>?_
 refine j6 hn ?_
 obtain ⟨o4,h3,h⟩:=j5 h
 refine jk (ι:={ s // o4=C9.next s }) hn (fun s=>[(9,.int s.1.1),(10,.int s.1.2)]) (fun s=>[]) [(7,_)] [(7,_)] (fun _ A1 _ R1=>?_) ?_
 ·refine j4.blkQ fun _ A2 _ _ R2=>?_
  refine j4.seqQ fun _ A3 _ _=>?_
  refine j6 hn ?_
  obtain ⟨o7,h6,h3⟩:=j5 h3
  refine jk (ι:={ s // o7=s }) hn (fun s=>[(13,.bool s.1)]) (fun s=>[]) [(1,_),(4,_),(6,_),(7,_),(9,_),(10,_),(12,_)] [(4,_),(6,_),(7,_)] (fun _ A4 _ _=>?_) ?_
  ·refine l7 hn ?_
   refine l5 h6 (fun hb8 h6=>?_) (fun hb8 h6=>?_)
   ·refine l9 hn ?_
    refine A4 _ _ ?_
    exact jn ⟨_,sj h6⟩ []
   refine j6 hn ?_
   obtain ⟨o11,h10,h6⟩:=j5 h6
   refine jk (ι:={ s // o11=s }) hn (fun s=>[(13,.bool s.1)]) (fun s=>[]) [(1,_),(4,_),(6,_),(7,_),(9,_),(10,_),(12,_)] [(4,_),(6,_),(7,_)] (fun _ A5 _ _=>?_) ?_
   ·refine l7 hn ?_
    refine l5 h10 (fun hb12 h10=>?_) (fun hb12 h10=>?_)
    ·refine l9 hn ?_
     refine A5 _ _ ?_
     exact jn ⟨_,sj h10⟩ []
    refine j6 hn ?_
    obtain ⟨o15,h14,h10⟩:=j5 h10
    refine jk (ι:={ s // o15=s }) hn (fun s=>[(13,.bool s.1)]) (fun s=>[]) [(1,_),(4,_),(6,_),(7,_),(9,_),(10,_),(12,_)] [(4,_),(6,_),(7,_)] (fun _ A6 _ _=>?_) ?_
    ·refine l7 hn ?_
     refine l5 h14 (fun hb16 h14=>?_) (fun hb16 h14=>?_)
     ·refine l9 hn ?_
      refine A6 _ _ ?_
      exact jn ⟨_,sj h14⟩ []
     refine j6 hn ?_
     obtain ⟨o19,h18,h14⟩:=j5 h14
     refine jk (ι:={ s // o19=s }) hn (fun s=>[(13,.bool s.1)]) (fun s=>[]) [(1,_),(4,_),(6,_),(7,_),(9,_),(10,_),(12,_)] [(4,_),(6,_),(7,_)] (fun _ A7 _ _=>?_) ?_
     ·refine l7 hn ?_
      refine l5 h18 (fun hb20 h18=>?_) (fun hb20 h18=>?_)
      ·refine l9 hn ?_
       refine A7 _ _ ?_
       exact jn ⟨_,sj h18⟩ []
      refine kp [(1,_),(4,_),(6,_),(7,_),(9,_),(10,_),(12,_)] [(4,_),(6,_),(7,_)] ?_
      refine j6 hn ?_
      obtain ⟨o23,h22,h18⟩:=j5 h18
      refine jk (ι:={ s // o23=s }) hn (fun s=>[(13,.bool s.1)]) (fun s=>[]) [(1,_),(4,_),(6,_),(7,_),(9,_),(10,_),(12,_)] [(4,_),(6,_),(7,_)] (fun _ A8 _ _=>?_) ?_
      ·refine l7 hn ?_
       refine l5 h22 (fun hb24 h22=>?_) (fun hb24 h22=>?_)
       ·refine l9 hn ?_
        refine A8 _ _ ?_
        exact jn ⟨_,sj h22⟩ []
       refine j6 hn ?_
       obtain ⟨o27,h26,h22⟩:=j5 h22
       refine jk (ι:={ s // o27=s }) hn (fun s=>[(13,.bool s.1)]) (fun s=>[]) [(1,_),(4,_),(6,_),(7,_),(9,_),(10,_),(12,_)] [(4,_),(6,_),(7,_)] (fun _ A9 _ _=>?_) ?_
       ·refine l7 hn ?_
        refine l5 h26 (fun hb28 h26=>?_) (fun hb28 h26=>?_)
        ·refine l9 hn ?_
         refine A9 _ _ ?_
         exact jn ⟨_,sj h26⟩ []
        refine p9 hn ?_
        refine A9 _ _ ?_
        exact jn ⟨_,sj h26⟩ []
       rintro ⟨v25,hv_⟩
       replace hv_:=hv_.symm
       subst hv_
       refine A8 _ _ ?_
       exact jn ⟨_,sj h22⟩ []
      rintro ⟨v21,hv_⟩
      replace hv_:=hv_.symm
      subst hv_
      refine A7 _ _ ?_
      exact jn ⟨_,sj h18⟩ []
     rintro ⟨v17,hv_⟩
     replace hv_:=hv_.symm
     subst hv_
     refine A6 _ _ ?_
     exact jn ⟨_,sj h14⟩ []
    rintro ⟨v13,hv_⟩
    replace hv_:=hv_.symm
    subst hv_
    refine A5 _ _ ?_
    exact jn ⟨_,sj h10⟩ []
   rintro ⟨v9,hv_⟩
   replace hv_:=hv_.symm
   subst hv_
   refine A4 _ _ ?_
   exact jn ⟨_,sj h6⟩ []
  rintro ⟨v5,hv_⟩
  replace hv_:=hv_.symm
  subst hv_
  refine A3 _ _ ?_
  obtain ⟨o32,h31,h3⟩:=j5 h3
  refine jk (ι:={ s // o32=C9.next s }) hn (fun s=>[(9,.int s.1.1),(10,.int s.1.2)]) (fun s=>[]) [(7,_)] [(7,_)] (fun _ A10 _ R10=>?_) ?_
  ·refine l7 hn ?_
   refine l5 h31 (fun hb33 h31=>?_) (fun hb33 h31=>?_)
   ·refine l9 hn ?_
    refine A10 _ _ ?_
    exact jn ⟨_,sj h31⟩ []
   refine j6 hn ?_
   obtain ⟨o37,h36,h31⟩:=j5 h31
   refine jk (ι:={ s // o37=C9.next s }) hn (fun s=>[(9,.int s.1.1),(10,.int s.1.2)]) (fun s=>[]) [(7,_)] [(7,_)] (fun _ A11 _ R11=>?_) ?_
   ·refine l7 hn ?_
    refine l5 h36 (fun hb38 h36=>?_) (fun hb38 h36=>?_)
    ·refine p9 hn ?_
     refine Or.inr ?_
     refine A11 _ _ ?_
     exact jn ⟨_,sj h36⟩ []
    refine j4.seqQ fun _ A12 _ _=>?_
    refine j6 hn ?_
    obtain ⟨o41,h40,h36⟩:=j5 h36
    refine jk (ι:={ s // o41=s }) hn (fun s=>[(26,.bool s.1)]) (fun s=>[]) [(1,_),(4,_),(6,_),(7,_),(9,_),(12,_)] [(4,_),(6,_),(7,_)] (fun _ A13 _ _=>?_) ?_
    ·refine l7 hn ?_
     refine l5 h40 (fun hb42 h40=>?_) (fun hb42 h40=>?_)
     ·refine l9 hn ?_
      refine A13 _ _ ?_
      exact jn ⟨_,sj h40⟩ []
     refine p9 hn ?_
     refine A13 _ _ ?_
     exact jn ⟨_,sj h40⟩ []
    rintro ⟨v39,hv_⟩
    replace hv_:=hv_.symm
    subst hv_
    refine A12 _ _ ?_
    obtain ⟨o46,h45,h36⟩:=j5 h36
    refine jk (ι:={ s // o46=C9.next s }) hn (fun s=>[(9,.int s.1.1),(10,.int s.1.2)]) (fun s=>[]) [(7,_)] [(7,_)] (fun _ A14 _ R14=>?_) ?_
    ·refine l7 hn ?_
     refine l5 h45 (fun hb47 h45=>?_) (fun hb47 h45=>?_)
     ·refine p9 hn ?_
      refine Or.inr ?_
      refine A14 _ _ ?_
      exact jn ⟨_,sj h45⟩ []
     refine j4.seqQ fun _ A15 _ _=>?_
     refine j6 hn ?_
     obtain ⟨o50,h49,h45⟩:=j5 h45
     refine jk (ι:={ s // o50=s }) hn (fun s=>[(32,.bool s.1)]) (fun s=>[]) [(1,_),(4,_),(6,_),(7,_),(9,_),(12,_)] [(4,_),(6,_),(7,_)] (fun _ A16 _ _=>?_) ?_
     ·refine l7 hn ?_
      refine l5 h49 (fun hb51 h49=>?_) (fun hb51 h49=>?_)
      ·refine l9 hn ?_
       refine A16 _ _ ?_
       exact jn ⟨_,sj h49⟩ []
      refine p9 hn ?_
      refine A16 _ _ ?_
      exact jn ⟨_,sj h49⟩ []
     rintro ⟨v48,hv_⟩
     replace hv_:=hv_.symm
     subst hv_
     refine A15 _ _ ?_
     obtain ⟨o55,h54,h45⟩:=j5 h45
     refine jk (ι:={ s // o55=C9.next s }) hn (fun s=>[(9,.int s.1.1),(10,.int s.1.2)]) (fun s=>[]) [(7,_)] [(7,_)] (fun _ A17 _ R17=>?_) ?_
     ·refine l7 hn ?_
      refine l5 h54 (fun hb56 h54=>?_) (fun hb56 h54=>?_)
      ·refine p9 hn ?_
       obtain ⟨r57,hr58,h54⟩:=j5 h54
       show l6 Tryz.prog _ _ _ _
       refine cA (aI3 N a0 a1 r57 hr58) ?_
       refine Or.inr ?_
       refine A17 _ _ ?_
       exact jn ⟨_,sj h54⟩ []
      refine j6 hn ?_
      obtain ⟨o62,h61,h54⟩:=j5 h54
      refine jk (ι:={ s // o62=C9.next s }) hn (fun s=>[(9,.int s.1.1),(10,.int s.1.2)]) (fun s=>[]) [(7,_)] [(7,_)] (fun _ A18 _ R18=>?_) ?_
      ·refine l7 hn ?_
       refine l5 h61 (fun hb63 h61=>?_) (fun hb63 h61=>?_)
       ·refine p9 hn ?_
        refine A18 _ _ ?_
        exact jn ⟨_,sj h61⟩ []
       refine j6 hn ?_
       obtain ⟨o66,h65,h61⟩:=j5 h61
       refine jk (ι:={ s // o66=C9.next s }) hn (fun s=>[(10,.int s.1)]) (fun s=>[]) [(7,_),(9,_)] [(7,_)] (fun _ A19 _ R19=>?_) ?_
       ·refine l7 hn ?_
        refine l5 h65 (fun hb67 h65=>?_) (fun hb67 h65=>?_)
        ·refine j6 hn ?_
         refine u7 (fun _=>?_)
         refine Or.inr ?_
         refine j4.seqQ fun _ A20 _ _=>?_
         obtain ⟨o71,h70,h65⟩:=j5 h65
         refine jk (ι:={ s // o71=s }) hn (fun s=>[(54,.bool s.1)]) (fun s=>[]) [(7,_),(9,_),(10,_)] [(7,_)] (fun _ A21 _ _=>?_) ?_
         ·refine p9 hn ?_
          refine l5 h70 (fun hb72 h70=>?_) (fun hb72 h70=>?_)
          ·refine j3 hb72 ?_
           refine j3 hb72 ?_
           refine j3 hb72 ?_
           refine A21 _ _ ?_
           exact jn ⟨_,sj h70⟩ []
          refine d9 hb72 ?_
          refine d9 hb72 ?_
          refine d9 hb72 ?_
          refine A21 _ _ ?_
          exact jn ⟨_,sj h70⟩ []
         rintro ⟨v69,hv_⟩
         replace hv_:=hv_.symm
         subst hv_
         refine A20 _ _ ?_
         refine l7 hn ?_
         refine l5 h65 (fun hb73 h65=>?_) (fun hb73 h65=>?_)
         ·refine j6 hn ?_
          refine got hn ?_
          refine R19 _ _ ?_
          refine R18 _ _ ?_
          refine R17 _ _ ?_
          refine R14 _ _ ?_
          refine R11 _ _ ?_
          refine R10 _ _ ?_
          refine R2 _ _ ?_
          refine R1 _ _ ?_
          refine R0 _ _ ?_
          obtain rfl:=Option.some.inj h65
          obtain rfl:=Option.some.inj h61
          obtain rfl:=Option.some.inj h54
          obtain rfl:=Option.some.inj h45
          obtain rfl:=Option.some.inj h36
          obtain rfl:=Option.some.inj h31
          obtain rfl:=Option.some.inj h3
          obtain rfl:=Option.some.inj h
          exact ⟨[],_,fm⟩
         refine l9 hn ?_
         refine A19 _ _ ?_
         exact jn ⟨_,sj h65⟩ []
        refine j6 hn ?_
        obtain ⟨o76,h75,h65⟩:=j5 h65
        refine jk (ι:={ s // o76=C9.next s }) hn (fun s=>[(10,.int s.1)]) (fun s=>[]) [(7,_),(9,_)] [(7,_)] (fun _ A22 _ R22=>?_) ?_
        ·refine l7 hn ?_
         refine l5 h75 (fun hb77 h75=>?_) (fun hb77 h75=>?_)
         ·refine p9 hn ?_
          refine A22 _ _ ?_
          exact jn ⟨_,sj h75⟩ []
         refine j4.seqQ fun _ A23 _ _=>?_
         refine j6 hn ?_
         obtain ⟨o80,h79,h75⟩:=j5 h75
         refine jk (ι:={ s // o80=s }) hn (fun s=>[(57,.bool s.1)]) (fun s=>[]) [(6,_),(7,_),(9,_)] [(6,_),(7,_)] (fun _ A24 _ _=>?_) ?_
         ·refine l7 hn ?_
          refine l5 h79 (fun hb81 h79=>?_) (fun hb81 h79=>?_)
          ·refine l9 hn ?_
           refine A24 _ _ ?_
           exact jn ⟨_,sj h79⟩ []
          refine p9 hn ?_
          refine A24 _ _ ?_
          exact jn ⟨_,sj h79⟩ []
         rintro ⟨v78,hv_⟩
         replace hv_:=hv_.symm
         subst hv_
         refine A23 _ _ ?_
         refine l7 hn ?_
         refine l5 h75 (fun hb82 h75=>?_) (fun hb82 h75=>?_)
         ·refine p9 hn ?_
          refine u7 (fun _=>?_)
          refine Or.inr ?_
          refine A22 _ _ ?_
          exact jn ⟨_,sj h75⟩ []
         refine j6 hn ?_
         refine got hn ?_
         refine R22 _ _ ?_
         refine R19 _ _ ?_
         refine R18 _ _ ?_
         refine R17 _ _ ?_
         refine R14 _ _ ?_
         refine R11 _ _ ?_
         refine R10 _ _ ?_
         refine R2 _ _ ?_
         refine R1 _ _ ?_
         refine R0 _ _ ?_
         obtain rfl:=Option.some.inj h75
         obtain rfl:=Option.some.inj h65
         obtain rfl:=Option.some.inj h61
         obtain rfl:=Option.some.inj h54
         obtain rfl:=Option.some.inj h45
         obtain rfl:=Option.some.inj h36
         obtain rfl:=Option.some.inj h31
         obtain rfl:=Option.some.inj h3
         obtain rfl:=Option.some.inj h
         exact ⟨[],_,fm⟩
        rintro ⟨v74,rfl⟩
        refine A19 _ _ ?_
        exact jn ⟨_,sj h65⟩ []
       rintro ⟨v64,rfl⟩
       refine A18 _ _ ?_
       exact jn ⟨_,sj h61⟩ []
      rintro ⟨⟨v59,v60⟩,rfl⟩
      refine A17 _ _ ?_
      exact jn ⟨_,sj h54⟩ []
     rintro ⟨⟨v52,v53⟩,rfl⟩
     refine A14 _ _ ?_
     exact jn ⟨_,sj h45⟩ []
    rintro ⟨⟨v43,v44⟩,rfl⟩
    refine A11 _ _ ?_
    exact jn ⟨_,sj h36⟩ []
   rintro ⟨⟨v34,v35⟩,rfl⟩
   refine A10 _ _ ?_
   exact jn ⟨_,sj h31⟩ []
  rintro ⟨⟨v29,v30⟩,rfl⟩
  refine A2 _ _ ?_
  refine A1 _ _ ?_
  exact jn ⟨_,sj h3⟩ []
 rintro ⟨⟨v1,v2⟩,rfl⟩
 refine A0 _ _ ?_
 refine j4.seqQ fun _ A25 _ R25=>?_
 refine j4.seqQ fun _ A26 _ _=>?_
 obtain ⟨o86,h85,h⟩:=j5 h
 refine jk (ι:={ s // o86=s }) hn (fun s=>[(73,.bool s.1)]) (fun s=>[]) [(7,_)] [(7,_)] (fun _ A27 _ _=>?_) ?_
 ·refine p9 hn ?_
  refine l5 h85 (fun hb87 h85=>?_) (fun hb87 h85=>?_)
  ·refine j3 hb87 ?_
   refine j3 hb87 ?_
   refine j3 hb87 ?_
   refine j3 hb87 ?_
   refine A27 _ _ ?_
   exact jn ⟨_,sj h85⟩ []
  refine d9 hb87 ?_
  refine d9 hb87 ?_
  refine d9 hb87 ?_
  refine d9 hb87 ?_
  refine A27 _ _ ?_
  exact jn ⟨_,sj h85⟩ []
 rintro ⟨v84,hv_⟩
 replace hv_:=hv_.symm
 subst hv_
 refine A26 _ _ ?_
 refine l7 hn ?_
 refine l5 h (fun hb88 h=>?_) (fun hb88 h=>?_)
 ·refine j6 hn ?_
  refine got hn ?_
  refine R25 _ _ ?_
  obtain rfl:=Option.some.inj h
  exact ⟨[],_,fm⟩
 refine l9 hn ?_
 refine A25 _ _ ?_
 refine j4.seqQ fun _ A28 _ R28=>?_
 refine j4.seqQ fun _ A29 _ _=>?_
 obtain ⟨o91,h90,h⟩:=j5 h
 refine jk (ι:={ s // o91=s }) hn (fun s=>[(102,.bool s.1)]) (fun s=>[]) [] [] (fun _ A30 _ _=>?_) ?_
 ·refine p9 hn ?_
  refine l5 h90 (fun hb92 h90=>?_) (fun hb92 h90=>?_)
  ·refine j3 hb92 ?_
   refine j3 hb92 ?_
   obtain ⟨r93,hr94,h90⟩:=j5 h90
   show l6 Tryz.prog _ _ _ _
   refine cA (aQ7 N a3.name r93 hr94) ?_
   refine j3 hb92 ?_
   refine j3 hb92 ?_
   refine l5 h90 (fun hb95 h90=>?_) (fun hb95 h90=>?_)
   ·refine j3 hb95 ?_
    refine j3 hb95 ?_
    refine j3 hb95 ?_
    refine j3 hb95 ?_
    refine j3 hb95 ?_
    refine A30 _ _ ?_
    exact jn ⟨_,sj h90⟩ []
   refine d9 hb95 ?_
   refine d9 hb95 ?_
   refine d9 hb95 ?_
   refine l5 h90 (fun hb96 h90=>?_) (fun hb96 h90=>?_)
   ·refine j3 hb96 ?_
    refine j3 hb96 ?_
    refine d9 hb95 ?_
    refine j3 hb96 ?_
    refine d9 hb95 ?_
    refine l5 h90 (fun hb97 h90=>?_) (fun hb97 h90=>?_)
    ·refine j3 hb97 ?_
     refine j3 hb97 ?_
     refine j3 hb97 ?_
     refine A30 _ _ ?_
     exact jn ⟨_,sj h90⟩ []
    refine d9 hb97 ?_
    refine d9 hb97 ?_
    refine d9 hb97 ?_
    refine l5 h90 (fun hb98 h90=>?_) (fun hb98 h90=>?_)
    ·refine j3 hb98 ?_
     refine j3 hb98 ?_
     refine j3 hb98 ?_
     refine A30 _ _ ?_
     exact jn ⟨_,sj h90⟩ []
    refine d9 hb98 ?_
    refine d9 hb98 ?_
    refine d9 hb98 ?_
    refine A30 _ _ ?_
    exact jn ⟨_,sj h90⟩ []
   refine d9 hb96 ?_
   refine d9 hb96 ?_
   refine d9 hb95 ?_
   refine d9 hb96 ?_
   refine d9 hb95 ?_
   refine l5 h90 (fun hb99 h90=>?_) (fun hb99 h90=>?_)
   ·refine j3 hb99 ?_
    refine j3 hb99 ?_
    refine j3 hb99 ?_
    refine A30 _ _ ?_
    exact jn ⟨_,sj h90⟩ []
   refine d9 hb99 ?_
   refine d9 hb99 ?_
   refine d9 hb99 ?_
   refine A30 _ _ ?_
   exact jn ⟨_,sj h90⟩ []
  refine d9 hb92 ?_
  refine d9 hb92 ?_
  refine d9 hb92 ?_
  refine d9 hb92 ?_
  refine l5 h90 (fun hb100 h90=>?_) (fun hb100 h90=>?_)
  ·refine j3 hb100 ?_
   refine j3 hb100 ?_
   refine j3 hb100 ?_
   refine l5 h90 (fun hb101 h90=>?_) (fun hb101 h90=>?_)
   ·refine j3 hb101 ?_
    refine j3 hb101 ?_
    refine j3 hb101 ?_
    refine A30 _ _ ?_
    exact jn ⟨_,sj h90⟩ []
   refine d9 hb101 ?_
   refine d9 hb101 ?_
   refine d9 hb101 ?_
   refine l5 h90 (fun hb102 h90=>?_) (fun hb102 h90=>?_)
   ·refine j3 hb102 ?_
    refine j3 hb102 ?_
    refine j3 hb102 ?_
    refine A30 _ _ ?_
    exact jn ⟨_,sj h90⟩ []
   refine d9 hb102 ?_
   refine d9 hb102 ?_
   refine d9 hb102 ?_
   refine A30 _ _ ?_
   exact jn ⟨_,sj h90⟩ []
  refine d9 hb100 ?_
  refine d9 hb100 ?_
  refine d9 hb100 ?_
  refine l5 h90 (fun hb103 h90=>?_) (fun hb103 h90=>?_)
  ·refine j3 hb103 ?_
   refine j3 hb103 ?_
   refine j3 hb103 ?_
   refine A30 _ _ ?_
   exact jn ⟨_,sj h90⟩ []
  refine d9 hb103 ?_
  refine d9 hb103 ?_
  refine d9 hb103 ?_
  refine A30 _ _ ?_
  exact jn ⟨_,sj h90⟩ []
 rintro ⟨v89,hv_⟩
 replace hv_:=hv_.symm
 subst hv_
 refine A29 _ _ ?_
 refine l7 hn ?_
 refine l5 h (fun hb104 h=>?_) (fun hb104 h=>?_)
 ·refine j6 hn ?_
  refine got hn ?_
  refine R28 _ _ ?_
  obtain rfl:=Option.some.inj h
  exact ⟨[],_,fm⟩
 refine l9 hn ?_
 refine A28 _ _ ?_
 refine j6 hn ?_
 refine got hn ?_
 obtain rfl:=Option.some.inj h
 exact ⟨[],_,fm⟩

/- qcref1.Next -/
set_option maxRecDepth 100000 in
set_option maxHeartbeats 8000000 in
theorem bR7 (N:Nat) (a0:Ins) (a1:Int) (r:(Int×Int×(List Int))) (h:aL5 N a0 a1=some r):Spec Tryz.prog 109 [] [.agg (aG9 a0),.int a1] (.tup [.int r.1,.int r.2.1,.own 0]) [(0,.row 1 (List.map F7 r.2.2) 3)] [0]:=by
 refine Spec.of F3 Tryz.func109 rfl Tryz.ntmps109 (by kernel_rfl) rfl rfl rfl fun Γ hn=>?_
 unfold aL5 at h
 refine j6 hn ?_
 refine j4.seqQ fun _ A0 _ R0=>?_
 refine j6 hn ?_
 refine j4.blkQ fun _ A1 _ _ R1=>?_
 refine j4.seqQ fun _ A2 _ _=>?_
 refine j6 hn ?_
 obtain ⟨o3,h2,h⟩:=j5 h
 refine jk (ι:={ s // o3=s }) hn (fun s=>[(9,.bool s.1)]) (fun s=>[]) [(1,_),(2,_),(8,_)] [(2,_)] (fun _ A3 _ _=>?_) ?_
 ·refine l7 hn ?_
  refine l5 h2 (fun hb4 h2=>?_) (fun hb4 h2=>?_)
  ·refine l9 hn ?_
   refine A3 _ _ ?_
   exact jn ⟨_,sj h2⟩ []
  refine j6 hn ?_
  obtain ⟨o7,h6,h2⟩:=j5 h2
  refine jk (ι:={ s // o7=s }) hn (fun s=>[(9,.bool s.1)]) (fun s=>[]) [(1,_),(2,_),(8,_)] [(2,_)] (fun _ A4 _ _=>?_) ?_
  ·refine l7 hn ?_
   refine l5 h6 (fun hb8 h6=>?_) (fun hb8 h6=>?_)
   ·refine l9 hn ?_
    refine A4 _ _ ?_
    exact jn ⟨_,sj h6⟩ []
   refine p9 hn ?_
   refine A4 _ _ ?_
   exact jn ⟨_,sj h6⟩ []
  rintro ⟨v5,hv_⟩
  replace hv_:=hv_.symm
  subst hv_
  refine A3 _ _ ?_
  exact jn ⟨_,sj h2⟩ []
 rintro ⟨v1,hv_⟩
 replace hv_:=hv_.symm
 subst hv_
 refine A2 _ _ ?_
 refine l7 hn ?_
 refine l5 h (fun hb9 h=>?_) (fun hb9 h=>?_)
 ·refine j6 hn ?_
  refine Or.inr ?_
  refine Exists.intro (List.map F7 [(wr (a1+(1:Int)))]) (And.intro (by repeat (first|exact trivial|exact rfl|(refine And.intro ?_ ?_))) ?_)
  refine got hn ?_
  refine R1 _ _ ?_
  refine R0 _ _ ?_
  obtain rfl:=Option.some.inj h
  exact ⟨[(0,15)],_,fm⟩
 refine j6 hn ?_
 refine l7 hn ?_
 refine l5 h (fun hb10 h=>?_) (fun hb10 h=>?_)
 ·refine j6 hn ?_
  refine Or.inr ?_
  refine Exists.intro (List.map F7 [(wr (a1+(1:Int)))]) (And.intro (by repeat (first|exact trivial|exact rfl|(refine And.intro ?_ ?_))) ?_)
  refine got hn ?_
  refine R1 _ _ ?_
  refine R0 _ _ ?_
  obtain rfl:=Option.some.inj h
  exact ⟨[(0,20)],_,fm⟩
 refine j6 hn ?_
 refine l7 hn ?_
 refine l5 h (fun hb11 h=>?_) (fun hb11 h=>?_)
 ·refine j4.seqQ fun _ A5 _ _=>?_
  refine god hn (by kernel_rfl) ?_
  refine Or.inr ?_
  obtain ⟨hg12,h⟩:=F6 h
  refine aT0 hg12 ?_
  refine Or.inr ?_
  refine Exists.intro (List.map F7 [(wr (a1+(1:Int)))]) (And.intro (by repeat (first|exact trivial|exact rfl|(refine And.intro ?_ ?_))) ?_)
  refine A5 _ _ ?_
  refine got hn ?_
  refine R1 _ _ ?_
  refine R0 _ _ ?_
  obtain rfl:=Option.some.inj h
  exact ⟨[(0,31)],_,fm⟩
 refine j6 hn ?_
 refine l7 hn ?_
 refine l5 h (fun hb13 h=>?_) (fun hb13 h=>?_)
 ·refine j4.seqQ fun _ A6 _ _=>?_
  refine god hn (by kernel_rfl) ?_
  refine Exists.intro (List.map F7 [a0.a]) (And.intro (by repeat (first|exact trivial|exact rfl|(refine And.intro ?_ ?_))) ?_)
  refine A6 _ _ ?_
  refine got hn ?_
  refine R1 _ _ ?_
  refine R0 _ _ ?_
  obtain rfl:=Option.some.inj h
  exact ⟨[(0,36)],_,fm⟩
 refine j6 hn ?_
 refine l7 hn ?_
 refine l5 h (fun hb14 h=>?_) (fun hb14 h=>?_)
 ·refine j4.seqQ fun _ A7 _ _=>?_
  refine god hn (by kernel_rfl) ?_
  refine Or.inr ?_
  refine Exists.intro (List.map F7 [(wr (a1+(1:Int))),a0.a]) (And.intro (by repeat (first|exact trivial|exact rfl|(refine And.intro ?_ ?_))) ?_)
  refine A7 _ _ ?_
  refine got hn ?_
  refine R1 _ _ ?_
  refine R0 _ _ ?_
  obtain rfl:=Option.some.inj h
  exact ⟨[(0,43)],_,fm⟩
 refine j6 hn ?_
 refine l7 hn ?_
 refine l5 h (fun hb15 h=>?_) (fun hb15 h=>?_)
 ·refine j6 hn ?_
  refine j4.nilrow 6 206 1 3 rfl rfl rfl ?_
  refine got hn ?_
  refine R1 _ _ ?_
  refine R0 _ _ ?_
  obtain rfl:=Option.some.inj h
  exact ⟨[(0,206)],_,fm⟩
 refine l9 hn ?_
 refine A1 _ _ ?_
 refine A0 _ _ ?_
 refine j6 hn ?_
 refine Or.inr ?_
 refine Exists.intro (List.map F7 [(wr (a1+(1:Int)))]) (And.intro (by repeat (first|exact trivial|exact rfl|(refine And.intro ?_ ?_))) ?_)
 refine got hn ?_
 obtain rfl:=Option.some.inj h
 exact ⟨[(0,48)],_,fm⟩

/- qcref1.Heights -/
set_option maxRecDepth 100000 in
set_option maxHeartbeats 8000000 in
theorem bI2 (N:Nat) (a0:Me) (r:((List Int)×D8)) (h:aG7 N a0=some r):Spec Tryz.prog 79 [] [.agg (Z6 a0)] (.tup [.own 0,.agg (bH0 r.2)]) [(0,.row 1 (List.map F7 r.1) 3)] [0]:=by
 refine Spec.of F3 Tryz.func79 rfl Tryz.ntmps79 (by kernel_rfl) rfl rfl rfl fun Γ hn=>?_
 unfold aG7 at h
 refine j6 hn ?_
 refine j6 hn ?_
 refine u7 (fun _=>?_)
 obtain ⟨hg2,h⟩:=F6 h
 refine mkM (enc:=F7) (x:=(0:Int)) hg2 (by repeat (first|exact trivial|exact rfl|(refine And.intro ?_ ?_))) ?_
 refine j4.seqQ fun _ A0 _ _=>?_
 refine j6 hn ?_
 refine u7 (fun _=>?_)
 refine j4.rng 21 rfl (fun hrn4=>?_)
 obtain ⟨o8,h9,h⟩:=j5 h
 refine jk (ι:={ s // o8=s }) hn (fun s=>[]) (fun s=>[(19,.row 1 (List.map F7 s.1) 3)]) [(1,_),(3,_),(4,_)] [(1,_),(3,_)] (fun _ A1 _ _=>?_) ?_
 ·refine j4.blkQ fun _ _ E2 _ _=>?_
  refine lq (ι:={ q:(Nat×Nat×(List Int)) // q.1=(((List.replicate (a0.code.length:Int).toNat (0:Int)).length:Int) - (q.2.1:Int)).toNat∧O7 N q.1 q.2.1 q.2.2=some o8 }) hn (fun q=>[(22,.int (q.1.2.1:Int))]) (fun q=>[(19,.row 1 (List.map F7 q.1.2.2) 3)]) (fun q=>q.1.1) [(1,_),(3,_),(4,_),(21,_)] [(1,_),(3,_)] ⟨((((List.replicate (a0.code.length:Int).toNat (0:Int)).length:Int) - ((0:Nat):Int)).toNat,0,(List.replicate (a0.code.length:Int).toNat (0:Int))),rfl,h9⟩ [] ?_
  rintro ⟨⟨n_,k4,v5⟩,hd11,h9⟩ _ A3 X3 _
  replace hd11:n_=(((List.replicate (a0.code.length:Int).toNat (0:Int)).length:Int) - (k4:Int)).toNat:=hd11
  rcases n_ with _|n12
  ·have hlt15:=aH2 hd11
   replace h9:=(O7.eq_1 _ _ _).symm.trans h9
   refine j6 hn ?_
   refine j4.seqQ fun _ _ X4 _=>?_
   refine l7 hn ?_
   refine d9 hlt15 ?_
   refine H8 hn ?_
   refine X4 _ _ _ ?_
   refine X3 _ _ _ ?_
   refine E2 _ _ ?_
   refine A1 _ _ ?_
   exact jn ⟨_,sj h9⟩ []
  ·obtain ⟨hd2,hlt15⟩:=aE5 hd11
   replace h9:=(O7.eq_2 _ _ _ _).symm.trans h9
   refine j6 hn ?_
   refine j4.seqQ fun _ A5 _ _=>?_
   refine l7 hn ?_
   refine j3 hlt15 ?_
   refine l9 hn ?_
   refine A5 _ _ ?_
   refine j4.seqQ fun _ A6 _ _=>?_
   refine j4.blkQ fun _ A7 _ _ _=>?_
   refine j6 hn ?_
   refine p9 hn ?_
   obtain ⟨x16,hx17,h9⟩:=j5 h9
   refine aI8 hx17 ?_
   refine ldM (J2 hx17).2 ?_
   refine Exists.intro (List.map F7 (v5.set ((k4:Int).toNat) (-1:Int))) (And.intro (bC1 (J2 hx17).2 (by repeat (first|exact trivial|exact rfl|(refine And.intro ?_ ?_)))) ?_)
   refine A7 _ _ ?_
   refine A6 _ _ ?_
   refine p9 hn ?_
   refine Or.inl (And.intro (aL4 hlt15 hrn4) ?_)
   refine A3 _ _ ?_
   exact jn ⟨(n12,k4+1,(v5.set ((k4:Int).toNat) (-1:Int))),hd2,h9⟩ [] (by show n12 < n12+1; omega)
 rintro ⟨v7,hv_⟩
 replace hv_:=hv_.symm
 subst hv_
 refine A0 _ _ ?_
 refine j6 hn ?_
 refine Exists.intro (List.map F7 [(0:Int)]) (And.intro (by repeat (first|exact trivial|exact rfl|(refine And.intro ?_ ?_))) ?_)
 refine Exists.intro (List.map F7 [(0:Int)]) (And.intro (by repeat (first|exact trivial|exact rfl|(refine And.intro ?_ ?_))) ?_)
 refine j4.seqQ fun _ A8 _ R8=>?_
 refine j6 hn ?_
 obtain ⟨o28,h29,h⟩:=j5 h
 refine jk (ι:={ s // o28=C9.next s }) hn (fun s=>[]) (fun s=>[(19,.row 1 (List.map F7 s.1) 3)]) [(3,_),(4,_)] [(3,_)] (fun _ A9 _ R9=>?_) ?_
 ·refine j4.blkQ fun _ _ E10 _ R10=>?_
  refine lq (ι:={ q:(Nat×(List Int)×(List Int)×(List Int)×Int) // O5 N a0 q.1 q.2.1 q.2.2.1 q.2.2.2.1 q.2.2.2.2=some o28 }) hn (fun q=>[(8,.int q.1.2.2.2.2)]) (fun q=>[(19,.row 1 (List.map F7 q.1.2.1) 3),(29,.row 1 (List.map F7 q.1.2.2.1) 3),(30,.row 1 (List.map F7 q.1.2.2.2.1) 3)]) (fun q=>q.1.1) [(1,_),(3,_),(4,_),(6,_),(7,_)] [(1,_),(3,_)] ⟨(N,v7,[(0:Int)],[(0:Int)],(0:Int)),h29⟩ [] ?_
  rintro ⟨⟨n_,v19,v20,v21,v22⟩,h29⟩ _ A11 X11 R11
  rcases n_ with _|n32
  ·rw [O5.eq_1] at h29
   cases h29
  ·replace h29:=(O5.eq_2 _ _ _ _ _ _ _).symm.trans h29
   refine j4.seqQ fun _ A12 X12 _=>?_
   refine j6 hn ?_
   refine u7 (fun _=>?_)
   refine l7 hn ?_
   refine l5 h29 (fun hb34 h29=>?_) (fun hb34 h29=>?_)
   ·refine l9 hn ?_
    refine A12 _ _ ?_
    refine j4.seqQ fun _ A13 _ R13=>?_
    obtain ⟨o39,h38,h29⟩:=j5 h29
    refine jk (ι:={ s // o39=C9.next s }) hn (fun s=>[]) (fun s=>[(19,.row 1 (List.map F7 s.1.1) 3),(29,.row 1 (List.map F7 s.1.2.1) 3),(30,.row 1 (List.map F7 s.1.2.2) 3)]) [(1,_),(3,_),(4,_),(6,_),(7,_),(8,_)] [(1,_),(3,_)] (fun _ A14 _ R14=>?_) ?_
    ·refine j4.blkQ fun _ A15 E15 _ R15=>?_
     refine j4.seqQ fun _ A16 _ _=>?_
     refine god hn (by kernel_rfl) ?_
     obtain ⟨x40,hx41,h38⟩:=j5 h38
     refine aI8 hx41 ?_
     refine ldM (J2 hx41).2 ?_
     obtain ⟨x42,hx43,h38⟩:=j5 h38
     refine aI8 hx43 ?_
     refine ldM (J2 hx43).2 ?_
     refine A16 _ _ ?_
     refine j4.seqQ fun _ A17 _ R17=>?_
     refine j4.seqQ fun _ A18 _ _=>?_
     obtain ⟨o46,h45,h38⟩:=j5 h38
     refine jk (ι:={ s // o46=s }) hn (fun s=>[(53,.bool s.1)]) (fun s=>[]) [(1,_),(3,_),(4,_),(6,_),(7,_),(8,_),(9,_),(10,_)] [(1,_),(3,_),(19,_),(29,_),(30,_)] (fun _ A19 _ _=>?_) ?_
     ·refine kp [(1,_),(3,_),(4,_),(6,_),(7,_),(8,_),(9,_),(10,_)] [(1,_),(3,_),(19,_),(29,_),(30,_)] ?_
      refine p9 hn ?_
      refine u7 (fun _=>?_)
      refine l5 h45 (fun hb48 h45=>?_) (fun hb48 h45=>?_)
      ·refine j3 hb48 ?_
       refine j3 hb48 ?_
       refine A19 _ _ ?_
       exact jn ⟨_,sj h45⟩ []
      refine d9 hb48 ?_
      refine d9 hb48 ?_
      refine A19 _ _ ?_
      exact jn ⟨_,sj h45⟩ []
     rintro ⟨v44,hv_⟩
     replace hv_:=hv_.symm
     subst hv_
     refine A18 _ _ ?_
     refine l7 hn ?_
     refine l5 h38 (fun hb49 h38=>?_) (fun hb49 h38=>?_)
     ·refine j4.seqQ fun _ A20 _ _=>?_
      refine god hn (by kernel_rfl) ?_
      refine u7 (fun _=>?_)
      refine A20 _ _ ?_
      refine j4.nilrow 2 202 1 3 rfl rfl rfl ?_
      refine got hn ?_
      refine R17 _ _ ?_
      refine R15 _ _ ?_
      refine R14 _ _ ?_
      refine R13 _ _ ?_
      refine R11 _ _ ?_
      refine R10 _ _ ?_
      refine R9 _ _ ?_
      refine R8 _ _ ?_
      obtain rfl:=Option.some.inj h38
      obtain rfl:=Option.some.inj h29
      obtain rfl:=Option.some.inj h
      exact ⟨[(0,202)],_,fm⟩
     refine l9 hn ?_
     refine A17 _ _ ?_
     refine j4.seqQ fun _ A21 X21 R21=>?_
     refine j6 hn ?_
     obtain ⟨x51,hx52,h38⟩:=j5 h38
     refine aI8 hx52 ?_
     refine ldM (J2 hx52).2 ?_
     refine l7 hn ?_
     refine l5 h38 (fun hb53 h38=>?_) (fun hb53 h38=>?_)
     ·refine j4.seqQ fun _ A22 _ R22=>?_
      refine j6 hn ?_
      obtain ⟨x54,hx55,h38⟩:=j5 h38
      refine aI8 hx55 ?_
      refine ldM (J2 hx55).2 ?_
      refine l7 hn ?_
      refine l5 h38 (fun hb56 h38=>?_) (fun hb56 h38=>?_)
      ·refine kp [(3,_),(9,_)] [(3,_)] ?_
       refine j6 hn ?_
       refine j4.nilrow 2 202 1 3 rfl rfl rfl ?_
       refine got hn ?_
       refine R22 _ _ ?_
       refine R21 _ _ ?_
       refine R15 _ _ ?_
       refine R14 _ _ ?_
       refine R13 _ _ ?_
       refine R11 _ _ ?_
       refine R10 _ _ ?_
       refine R9 _ _ ?_
       refine R8 _ _ ?_
       obtain rfl:=Option.some.inj h38
       obtain rfl:=Option.some.inj h29
       obtain rfl:=Option.some.inj h
       exact ⟨[(0,202)],_,fm⟩
      refine l9 hn ?_
      refine A22 _ _ ?_
      refine H8 hn ?_
      refine X21 _ _ _ ?_
      refine E15 _ _ ?_
      refine A14 _ _ ?_
      exact jn ⟨_,sj h38⟩ []
     refine l9 hn ?_
     refine A21 _ _ ?_
     refine j6 hn ?_
     obtain ⟨x57,hx58,h38⟩:=j5 h38
     refine aI8 hx58 ?_
     refine ldM (J2 hx58).2 ?_
     refine Exists.intro (List.map F7 (v19.set x40.toNat x42)) (And.intro (bC1 (J2 hx58).2 (by repeat (first|exact trivial|exact rfl|(refine And.intro ?_ ?_)))) ?_)
     refine kp [(1,_),(3,_),(4,_),(6,_),(7,_),(8,_),(9,_),(10,_)] [(1,_),(3,_),(19,_),(29,_),(30,_)] ?_
     refine j6 hn ?_
     obtain ⟨x59,hx60,h38⟩:=j5 h38
     refine W9 hx60 ?_
     obtain ⟨r61,hr62,h38⟩:=j5 h38
     show l6 Tryz.prog _ _ _ _
     refine cA ((bR7 N x59 x40 r61 hr62).sw 0 82) ?_
     refine j4.seqQ fun _ A23 _ R23=>?_
     refine j4.seqQ fun _ A24 _ _=>?_
     obtain ⟨o65,h64,h38⟩:=j5 h38
     refine jk (ι:={ s // o65=s }) hn (fun s=>[(101,.bool s.1)]) (fun s=>[]) [(1,_),(3,_),(4,_),(6,_),(7,_),(8,_),(9,_),(10,_),(12,_),(13,_)] [(1,_),(3,_),(19,_),(29,_),(30,_),(82,_)] (fun _ A25 _ _=>?_) ?_
     ·refine kp [(1,_),(3,_),(4,_),(6,_),(7,_),(8,_),(9,_),(10,_),(11,_),(12,_),(13,_)] [(1,_),(3,_),(19,_),(29,_),(30,_),(82,_)] ?_
      refine p9 hn ?_
      refine l5 h64 (fun hb66 h64=>?_) (fun hb66 h64=>?_)
      ·refine j3 hb66 ?_
       refine j3 hb66 ?_
       refine j3 hb66 ?_
       refine j3 hb66 ?_
       refine j3 hb66 ?_
       refine j3 hb66 ?_
       refine j3 hb66 ?_
       refine j3 hb66 ?_
       refine j3 hb66 ?_
       refine A25 _ _ ?_
       exact jn ⟨_,sj h64⟩ []
      refine d9 hb66 ?_
      refine d9 hb66 ?_
      refine d9 hb66 ?_
      obtain ⟨x67,hx68,h64⟩:=j5 h64
      refine W9 hx68 ?_
      refine d9 hb66 ?_
      refine d9 hb66 ?_
      refine d9 hb66 ?_
      refine d9 hb66 ?_
      refine l5 h64 (fun hb69 h64=>?_) (fun hb69 h64=>?_)
      ·refine j3 hb69 ?_
       refine d9 hb66 ?_
       refine j3 hb69 ?_
       refine d9 hb66 ?_
       refine A25 _ _ ?_
       exact jn ⟨_,sj h64⟩ []
      refine d9 hb69 ?_
      refine d9 hb66 ?_
      refine d9 hb69 ?_
      refine d9 hb66 ?_
      refine A25 _ _ ?_
      exact jn ⟨_,sj h64⟩ []
     rintro ⟨v63,hv_⟩
     replace hv_:=hv_.symm
     subst hv_
     refine A24 _ _ ?_
     refine l7 hn ?_
     refine l5 h38 (fun hb70 h38=>?_) (fun hb70 h38=>?_)
     ·refine j6 hn ?_
      refine j4.nilrow 2 202 1 3 rfl rfl rfl ?_
      refine got hn ?_
      refine R23 _ _ ?_
      refine R15 _ _ ?_
      refine R14 _ _ ?_
      refine R13 _ _ ?_
      refine R11 _ _ ?_
      refine R10 _ _ ?_
      refine R9 _ _ ?_
      refine R8 _ _ ?_
      obtain rfl:=Option.some.inj h38
      obtain rfl:=Option.some.inj h29
      obtain rfl:=Option.some.inj h
      exact ⟨[(0,202)],_,fm⟩
     refine l9 hn ?_
     refine A23 _ _ ?_
     refine j4.seqQ fun _ A26 _ R26=>?_
     refine j6 hn ?_
     refine Or.inr ?_
     refine l7 hn ?_
     refine l5 h38 (fun hb71 h38=>?_) (fun hb71 h38=>?_)
     ·refine j6 hn ?_
      refine j4.nilrow 2 202 1 3 rfl rfl rfl ?_
      refine got hn ?_
      refine R26 _ _ ?_
      refine R15 _ _ ?_
      refine R14 _ _ ?_
      refine R13 _ _ ?_
      refine R11 _ _ ?_
      refine R10 _ _ ?_
      refine R9 _ _ ?_
      refine R8 _ _ ?_
      obtain rfl:=Option.some.inj h38
      obtain rfl:=Option.some.inj h29
      obtain rfl:=Option.some.inj h
      exact ⟨[(0,202)],_,fm⟩
     refine l9 hn ?_
     refine A26 _ _ ?_
     refine j6 hn ?_
     refine u7 (fun hl72=>?_)
     obtain ⟨o80,h81,h38⟩:=j5 h38
     refine jk (ι:={ s // o80=s }) hn (fun s=>[]) (fun s=>[(29,.row 1 (List.map F7 s.1.1) 3),(30,.row 1 (List.map F7 s.1.2) 3)]) [(1,_),(3,_),(4,_),(6,_),(7,_),(8,_)] [(1,_),(3,_),(19,_)] (fun _ A27 _ _=>?_) ?_
     ·refine j4.blkQ fun _ _ E28 _ _=>?_
      refine lq (ι:={ q:((List Int)×Nat×(List Int)×(List Int)) // q.1=r61.2.2.drop q.2.1∧O6 N x42 r61 q.1 q.2.1 q.2.2.1 q.2.2.2=some o80 }) hn (fun q=>[(112,.int (q.1.2.1:Int))]) (fun q=>[(29,.row 1 (List.map F7 q.1.2.2.1) 3),(30,.row 1 (List.map F7 q.1.2.2.2) 3)]) (fun q=>q.1.1.length) [(1,_),(3,_),(4,_),(6,_),(7,_),(8,_),(10,_),(12,_),(110,_),(111,_)] [(1,_),(3,_),(19,_),(82,_)] ⟨(r61.2.2,0,v20,v21),rfl,h81⟩ [] ?_
      rintro ⟨⟨rest_,k73,v74,v75⟩,hd83,h81⟩ _ A29 X29 _
      replace hd83:rest_=r61.2.2.drop k73:=hd83
      rcases rest_ with _|⟨x85,rest82⟩
      ·have hlt87:=G6 hd83
       replace h81:=(O6.eq_1 _ _ _ _ _ _).symm.trans h81
       refine j6 hn ?_
       refine j4.seqQ fun _ _ X30 _=>?_
       refine l7 hn ?_
       refine d9 hlt87 ?_
       refine H8 hn ?_
       refine X30 _ _ _ ?_
       refine X29 _ _ _ ?_
       refine E28 _ _ ?_
       refine A27 _ _ ?_
       exact jn ⟨_,sj h81⟩ []
      ·obtain ⟨hx86,hd2,hlt87⟩:=z8 hd83
       replace h81:=(O6.eq_2 _ _ _ _ _ _ _ _).symm.trans h81
       refine j6 hn ?_
       refine j4.seqQ fun _ A31 _ _=>?_
       refine l7 hn ?_
       refine j3 hlt87 ?_
       refine l9 hn ?_
       refine A31 _ _ ?_
       refine j4.seqQ fun _ A32 _ _=>?_
       refine j4.blkQ fun _ A33 _ _ _=>?_
       refine j6 hn ?_
       obtain ⟨x88,hx89,h81⟩:=j5 h81
       refine aI8 hx89 ?_
       refine ldM (J2 hx89).2 ?_
       refine p9 hn ?_
       refine Exists.intro (List.map F7 [x88]) (And.intro (by repeat (first|exact trivial|exact rfl|(refine And.intro ?_ ?_))) ?_)
       obtain ⟨hg90,h81⟩:=F6 h81
       refine aJ7 (l2:=[x88]) hg90 (H7 _) ?_
       refine Or.inr ?_
       refine Exists.intro (List.map F7 [(wr (x42+r61.2.1))]) (And.intro (by repeat (first|exact trivial|exact rfl|(refine And.intro ?_ ?_))) ?_)
       obtain ⟨hg91,h81⟩:=F6 h81
       refine aJ7 (l2:=[(wr (x42+r61.2.1))]) hg91 (H7 _) ?_
       refine A33 _ _ ?_
       refine A32 _ _ ?_
       refine kp [(1,_),(3,_),(4,_),(6,_),(7,_),(8,_),(10,_),(12,_),(110,_),(111,_),(112,_)] [(1,_),(3,_),(19,_),(82,_),(119,_),(125,_)] ?_
       refine p9 hn ?_
       refine Or.inl (And.intro (U0 hx86 hl72) ?_)
       refine A29 _ _ ?_
       exact jn ⟨(rest82,k73+1,(v74++[x88]),(v75++[(wr (x42+r61.2.1))])),hd2,h81⟩ [(29,119),(30,125)] (by show rest82.length < rest82.length+1; omega)
     rintro ⟨⟨v78,v79⟩,rfl⟩
     refine A15 _ _ ?_
     refine A14 _ _ ?_
     exact jn ⟨_,sj h38⟩ []
    rintro ⟨⟨v35,v36,v37⟩,rfl⟩
    refine A13 _ _ ?_
    refine p9 hn ?_
    refine Or.inr ?_
    refine A11 _ _ ?_
    exact jn ⟨(n32,v35,v36,v37,(wr (v22+(1:Int)))),h29⟩ [] (by show n32 < n32+1; omega)
   refine H8 hn ?_
   refine X12 _ _ _ ?_
   refine X11 _ _ _ ?_
   refine E10 _ _ ?_
   refine A9 _ _ ?_
   exact jn ⟨_,sj h29⟩ []
 rintro ⟨v27,rfl⟩
 refine A8 _ _ ?_
 refine j6 hn ?_
 refine got hn ?_
 obtain rfl:=Option.some.inj h
 exact ⟨[(0,19)],_,fm⟩

/- qcref1.Check -/
set_option maxRecDepth 100000 in
set_option maxHeartbeats 8000000 in
theorem bQ3 (N:Nat) (a0:Wd) (a1:Int) (a2:Me) (r:D8) (h:aK1 N a0 a1 a2=some r):Spec Tryz.prog 43 [] [.agg (eWd a0),.int a1,.agg (Z6 a2)] (.agg (bH0 r)) [] []:=by
 refine Spec.of F3 Tryz.func43 rfl Tryz.ntmps43 (by kernel_rfl) rfl rfl rfl fun Γ hn=>?_
 unfold aK1 at h
 refine j6 hn ?_
 refine j4.seqQ fun _ A0 _ R0=>?_
 refine j4.seqQ fun _ A1 _ _=>?_
 obtain ⟨o3,h2,h⟩:=j5 h
 refine jk (ι:={ s // o3=s }) hn (fun s=>[(20,.bool s.1)]) (fun s=>[]) [(1,_),(3,_),(5,_),(6,_)] [(3,_),(5,_),(6,_)] (fun _ A2 _ _=>?_) ?_
 ·refine p9 hn ?_
  refine l5 h2 (fun hb4 h2=>?_) (fun hb4 h2=>?_)
  ·refine j3 hb4 ?_
   refine j3 hb4 ?_
   refine j3 hb4 ?_
   refine j3 hb4 ?_
   refine j3 hb4 ?_
   refine A2 _ _ ?_
   exact jn ⟨_,sj h2⟩ []
  refine d9 hb4 ?_
  refine d9 hb4 ?_
  refine d9 hb4 ?_
  refine u7 (fun _=>?_)
  refine d9 hb4 ?_
  refine d9 hb4 ?_
  refine A2 _ _ ?_
  exact jn ⟨_,sj h2⟩ []
 rintro ⟨v1,hv_⟩
 replace hv_:=hv_.symm
 subst hv_
 refine A1 _ _ ?_
 refine l7 hn ?_
 refine l5 h (fun hb6 h=>?_) (fun hb6 h=>?_)
 ·refine j6 hn ?_
  refine got hn ?_
  refine R0 _ _ ?_
  obtain rfl:=Option.some.inj h
  exact ⟨[],_,fm⟩
 refine l9 hn ?_
 refine A0 _ _ ?_
 refine j4.seqQ fun _ A3 _ R3=>?_
 refine j6 hn ?_
 obtain ⟨r7,hr8,h⟩:=j5 h
 show l6 Tryz.prog _ _ _ _
 refine cA (aQ7 N a2.name r7 hr8) ?_
 refine l7 hn ?_
 refine l5 h (fun hb9 h=>?_) (fun hb9 h=>?_)
 ·refine j6 hn ?_
  refine got hn ?_
  refine R3 _ _ ?_
  obtain rfl:=Option.some.inj h
  exact ⟨[],_,fm⟩
 refine l9 hn ?_
 refine A3 _ _ ?_
 refine j4.seqQ fun _ A4 _ R4=>?_
 refine j4.seqQ fun _ A5 _ _=>?_
 obtain ⟨o12,h11,h⟩:=j5 h
 refine jk (ι:={ s // o12=s }) hn (fun s=>[(44,.bool s.1)]) (fun s=>[]) [(1,_),(3,_),(5,_),(6,_)] [(3,_),(5,_),(6,_)] (fun _ A6 _ _=>?_) ?_
 ·refine p9 hn ?_
  refine l5 h11 (fun hb13 h11=>?_) (fun hb13 h11=>?_)
  ·refine j3 hb13 ?_
   refine j3 hb13 ?_
   refine j3 hb13 ?_
   refine A6 _ _ ?_
   exact jn ⟨_,sj h11⟩ []
  refine d9 hb13 ?_
  refine d9 hb13 ?_
  refine d9 hb13 ?_
  refine l5 h11 (fun hb14 h11=>?_) (fun hb14 h11=>?_)
  ·refine j3 hb14 ?_
   refine j3 hb14 ?_
   refine j3 hb14 ?_
   refine A6 _ _ ?_
   exact jn ⟨_,sj h11⟩ []
  refine d9 hb14 ?_
  refine d9 hb14 ?_
  refine d9 hb14 ?_
  refine l5 h11 (fun hb15 h11=>?_) (fun hb15 h11=>?_)
  ·refine j3 hb15 ?_
   refine j3 hb15 ?_
   refine j3 hb15 ?_
   refine A6 _ _ ?_
   exact jn ⟨_,sj h11⟩ []
  refine d9 hb15 ?_
  refine d9 hb15 ?_
  refine d9 hb15 ?_
  refine A6 _ _ ?_
  exact jn ⟨_,sj h11⟩ []
 rintro ⟨v10,hv_⟩
 replace hv_:=hv_.symm
 subst hv_
 refine A5 _ _ ?_
 refine l7 hn ?_
 refine l5 h (fun hb16 h=>?_) (fun hb16 h=>?_)
 ·refine j6 hn ?_
  refine got hn ?_
  refine R4 _ _ ?_
  obtain rfl:=Option.some.inj h
  exact ⟨[],_,fm⟩
 refine l9 hn ?_
 refine A4 _ _ ?_
 refine j4.seqQ fun _ A7 _ R7=>?_
 refine j6 hn ?_
 refine l7 hn ?_
 refine l5 h (fun hb17 h=>?_) (fun hb17 h=>?_)
 ·refine j6 hn ?_
  refine got hn ?_
  refine R7 _ _ ?_
  obtain rfl:=Option.some.inj h
  exact ⟨[],_,fm⟩
 refine l9 hn ?_
 refine A7 _ _ ?_
 refine j4.seqQ fun _ A8 _ R8=>?_
 refine j4.seqQ fun _ A9 _ _=>?_
 obtain ⟨o20,h19,h⟩:=j5 h
 refine jk (ι:={ s // o20=s }) hn (fun s=>[(59,.bool s.1)]) (fun s=>[]) [(1,_),(3,_),(5,_),(6,_)] [(3,_),(5,_),(6,_)] (fun _ A10 _ _=>?_) ?_
 ·refine p9 hn ?_
  refine u7 (fun _=>?_)
  refine l5 h19 (fun hb22 h19=>?_) (fun hb22 h19=>?_)
  ·refine j3 hb22 ?_
   refine j3 hb22 ?_
   refine j3 hb22 ?_
   refine j3 hb22 ?_
   refine A10 _ _ ?_
   exact jn ⟨_,sj h19⟩ []
  refine d9 hb22 ?_
  refine d9 hb22 ?_
  refine u7 (fun _=>?_)
  refine d9 hb22 ?_
  refine d9 hb22 ?_
  refine A10 _ _ ?_
  exact jn ⟨_,sj h19⟩ []
 rintro ⟨v18,hv_⟩
 replace hv_:=hv_.symm
 subst hv_
 refine A9 _ _ ?_
 refine l7 hn ?_
 refine l5 h (fun hb24 h=>?_) (fun hb24 h=>?_)
 ·refine j6 hn ?_
  refine got hn ?_
  refine R8 _ _ ?_
  obtain rfl:=Option.some.inj h
  exact ⟨[],_,fm⟩
 refine l9 hn ?_
 refine A8 _ _ ?_
 refine j4.seqQ fun _ A11 _ R11=>?_
 refine j6 hn ?_
 refine u7 (fun hl25=>?_)
 obtain ⟨o27,h28,h⟩:=j5 h
 refine jk (ι:={ s // o27=C9.next s }) hn (fun s=>[]) (fun s=>[]) [(5,_),(6,_)] [(5,_),(6,_)] (fun _ A12 _ R12=>?_) ?_
 ·refine j4.blkQ fun _ _ E13 _ R13=>?_
  refine lq (ι:={ q:((List Ins)×Nat) // q.1=a2.code.drop q.2∧Y4 N a0 a1 a2 q.1 q.2=some o27 }) hn (fun q=>[(64,.int (q.1.2:Int))]) (fun q=>[]) (fun q=>q.1.1.length) [(1,_),(3,_),(5,_),(6,_),(62,_),(63,_)] [(3,_),(5,_),(6,_)] ⟨(a2.code,0),rfl,h28⟩ [] ?_
  rintro ⟨⟨rest_,k26⟩,hd30,h28⟩ _ A14 X14 R14
  replace hd30:rest_=a2.code.drop k26:=hd30
  rcases rest_ with _|⟨x32,rest29⟩
  ·have hlt34:=G6 hd30
   replace h28:=(Y4.eq_1 _ _ _ _ _).symm.trans h28
   refine j6 hn ?_
   refine j4.seqQ fun _ _ X15 _=>?_
   refine l7 hn ?_
   refine d9 hlt34 ?_
   refine H8 hn ?_
   refine X15 _ _ _ ?_
   refine X14 _ _ _ ?_
   refine E13 _ _ ?_
   refine A12 _ _ ?_
   exact jn ⟨_,sj h28⟩ []
  ·obtain ⟨hx33,hd2,hlt34⟩:=z8 hd30
   replace h28:=(Y4.eq_2 _ _ _ _ _ _ _).symm.trans h28
   refine j6 hn ?_
   refine j4.seqQ fun _ A16 _ _=>?_
   refine l7 hn ?_
   refine j3 hlt34 ?_
   refine l9 hn ?_
   refine A16 _ _ ?_
   refine j4.seqQ fun _ A17 _ R17=>?_
   refine j4.blkQ fun _ A18 _ _ R18=>?_
   refine j6 hn ?_
   refine U9 hx33 ?_
   refine j6 hn ?_
   obtain ⟨r35,hr36,h28⟩:=j5 h28
   show l6 Tryz.prog _ _ _ _
   refine cA (bI6 N a0 a1 a2 x32 r35 hr36) ?_
   refine kp [(1,_),(3,_),(5,_),(6,_),(7,_),(9,_),(62,_),(63,_),(64,_)] [(3,_),(5,_),(6,_)] ?_
   refine j6 hn ?_
   refine l7 hn ?_
   refine l5 h28 (fun hb37 h28=>?_) (fun hb37 h28=>?_)
   ·refine j6 hn ?_
    refine got hn ?_
    refine R18 _ _ ?_
    refine R17 _ _ ?_
    refine R14 _ _ ?_
    refine R13 _ _ ?_
    refine R12 _ _ ?_
    refine R11 _ _ ?_
    obtain rfl:=Option.some.inj h28
    obtain rfl:=Option.some.inj h
    exact ⟨[],_,fm⟩
   refine l9 hn ?_
   refine A18 _ _ ?_
   refine A17 _ _ ?_
   refine p9 hn ?_
   refine Or.inl (And.intro (U0 hx33 hl25) ?_)
   refine A14 _ _ ?_
   exact jn ⟨(rest29,k26+1),hd2,h28⟩ [] (by show rest29.length < rest29.length+1; omega)
 rintro ⟨⟨⟩,rfl⟩
 refine A11 _ _ ?_
 refine j6 hn ?_
 obtain ⟨r38,hr39,h⟩:=j5 h
 show l6 Tryz.prog _ _ _ _
 refine cA ((bI2 N a2 r38 hr39).sw 0 82) ?_
 refine j6 hn ?_
 refine got hn ?_
 obtain rfl:=Option.some.inj h
 exact ⟨[],_,fm⟩

/- qcref1.Wrong -/
set_option maxRecDepth 100000 in
set_option maxHeartbeats 8000000 in
theorem bN8 (N:Nat) (a0:V) (a1:Int) (r:Int) (h:aJ2 N a0 a1=some r):Spec Tryz.prog 44 [] [.agg (eV a0),.int a1] (.int r) [] []:=by
 refine Spec.of F3 Tryz.func44 rfl Tryz.ntmps44 (by kernel_rfl) rfl rfl rfl fun Γ hn=>?_
 unfold aJ2 at h
 refine j6 hn ?_
 refine j4.seqQ fun _ A0 _ R0=>?_
 refine j4.seqQ fun _ A1 _ _=>?_
 obtain ⟨o3,h2,h⟩:=j5 h
 refine jk (ι:={ s // o3=s }) hn (fun s=>[(12,.bool s.1)]) (fun s=>[]) [(1,_),(2,_)] [(2,_)] (fun _ A2 _ _=>?_) ?_
 ·refine p9 hn ?_
  refine l5 h2 (fun hb4 h2=>?_) (fun hb4 h2=>?_)
  ·refine j3 hb4 ?_
   refine j3 hb4 ?_
   refine j3 hb4 ?_
   refine A2 _ _ ?_
   exact jn ⟨_,sj h2⟩ []
  refine d9 hb4 ?_
  refine d9 hb4 ?_
  refine d9 hb4 ?_
  refine A2 _ _ ?_
  exact jn ⟨_,sj h2⟩ []
 rintro ⟨v1,hv_⟩
 replace hv_:=hv_.symm
 subst hv_
 refine A1 _ _ ?_
 refine l7 hn ?_
 refine l5 h (fun hb5 h=>?_) (fun hb5 h=>?_)
 ·refine j6 hn ?_
  refine got hn ?_
  refine R0 _ _ ?_
  obtain rfl:=Option.some.inj h
  exact ⟨[],_,fm⟩
 refine l9 hn ?_
 refine A0 _ _ ?_
 refine j4.seqQ fun _ A3 _ R3=>?_
 refine j4.seqQ fun _ A4 _ _=>?_
 obtain ⟨o8,h7,h⟩:=j5 h
 refine jk (ι:={ s // o8=s }) hn (fun s=>[(20,.bool s.1)]) (fun s=>[]) [(1,_),(2,_)] [(2,_)] (fun _ A5 _ _=>?_) ?_
 ·refine p9 hn ?_
  refine l5 h7 (fun hb9 h7=>?_) (fun hb9 h7=>?_)
  ·refine j3 hb9 ?_
   refine j3 hb9 ?_
   refine j3 hb9 ?_
   refine A5 _ _ ?_
   exact jn ⟨_,sj h7⟩ []
  refine d9 hb9 ?_
  refine d9 hb9 ?_
  refine d9 hb9 ?_
  refine A5 _ _ ?_
  exact jn ⟨_,sj h7⟩ []
 rintro ⟨v6,hv_⟩
 replace hv_:=hv_.symm
 subst hv_
 refine A4 _ _ ?_
 refine l7 hn ?_
 refine l5 h (fun hb10 h=>?_) (fun hb10 h=>?_)
 ·refine j6 hn ?_
  refine got hn ?_
  refine R3 _ _ ?_
  obtain rfl:=Option.some.inj h
  exact ⟨[],_,fm⟩
 refine l9 hn ?_
 refine A3 _ _ ?_
 refine j4.seqQ fun _ A6 _ R6=>?_
 refine j4.seqQ fun _ A7 _ _=>?_
 obtain ⟨o13,h12,h⟩:=j5 h
 refine jk (ι:={ s // o13=s }) hn (fun s=>[(33,.bool s.1)]) (fun s=>[]) [(1,_),(2,_)] [(2,_)] (fun _ A8 _ _=>?_) ?_
 ·refine p9 hn ?_
  refine l5 h12 (fun hb14 h12=>?_) (fun hb14 h12=>?_)
  ·refine j3 hb14 ?_
   refine j3 hb14 ?_
   refine j3 hb14 ?_
   refine l5 h12 (fun hb15 h12=>?_) (fun hb15 h12=>?_)
   ·refine j3 hb15 ?_
    refine j3 hb15 ?_
    refine j3 hb14 ?_
    refine j3 hb15 ?_
    refine j3 hb14 ?_
    refine A8 _ _ ?_
    exact jn ⟨_,sj h12⟩ []
   refine d9 hb15 ?_
   refine d9 hb15 ?_
   refine j3 hb14 ?_
   refine d9 hb15 ?_
   refine j3 hb14 ?_
   refine A8 _ _ ?_
   exact jn ⟨_,sj h12⟩ []
  refine d9 hb14 ?_
  refine d9 hb14 ?_
  refine d9 hb14 ?_
  refine d9 hb14 ?_
  refine d9 hb14 ?_
  refine A8 _ _ ?_
  exact jn ⟨_,sj h12⟩ []
 rintro ⟨v11,hv_⟩
 replace hv_:=hv_.symm
 subst hv_
 refine A7 _ _ ?_
 refine l7 hn ?_
 refine l5 h (fun hb16 h=>?_) (fun hb16 h=>?_)
 ·refine j6 hn ?_
  refine got hn ?_
  refine R6 _ _ ?_
  obtain rfl:=Option.some.inj h
  exact ⟨[],_,fm⟩
 refine l9 hn ?_
 refine A6 _ _ ?_
 refine j4.seqQ fun _ A9 _ R9=>?_
 refine j4.seqQ fun _ A10 _ _=>?_
 obtain ⟨o19,h18,h⟩:=j5 h
 refine jk (ι:={ s // o19=s }) hn (fun s=>[(47,.bool s.1)]) (fun s=>[]) [] [] (fun _ A11 _ _=>?_) ?_
 ·refine p9 hn ?_
  refine l5 h18 (fun hb20 h18=>?_) (fun hb20 h18=>?_)
  ·refine j3 hb20 ?_
   refine j3 hb20 ?_
   refine j3 hb20 ?_
   refine l5 h18 (fun hb21 h18=>?_) (fun hb21 h18=>?_)
   ·refine j3 hb21 ?_
    refine j3 hb21 ?_
    refine j3 hb21 ?_
    refine j3 hb20 ?_
    refine j3 hb21 ?_
    refine j3 hb20 ?_
    refine A11 _ _ ?_
    exact jn ⟨_,sj h18⟩ []
   refine d9 hb21 ?_
   refine d9 hb21 ?_
   refine d9 hb21 ?_
   refine j3 hb20 ?_
   refine d9 hb21 ?_
   refine j3 hb20 ?_
   refine A11 _ _ ?_
   exact jn ⟨_,sj h18⟩ []
  refine d9 hb20 ?_
  refine d9 hb20 ?_
  refine d9 hb20 ?_
  refine d9 hb20 ?_
  refine d9 hb20 ?_
  refine A11 _ _ ?_
  exact jn ⟨_,sj h18⟩ []
 rintro ⟨v17,hv_⟩
 replace hv_:=hv_.symm
 subst hv_
 refine A10 _ _ ?_
 refine l7 hn ?_
 refine l5 h (fun hb22 h=>?_) (fun hb22 h=>?_)
 ·refine j6 hn ?_
  refine got hn ?_
  refine R9 _ _ ?_
  obtain rfl:=Option.some.inj h
  exact ⟨[],_,fm⟩
 refine l9 hn ?_
 refine A9 _ _ ?_
 refine j6 hn ?_
 refine got hn ?_
 obtain rfl:=Option.some.inj h
 exact ⟨[],_,fm⟩

/- qcref1.Right -/
set_option maxRecDepth 100000 in
set_option maxHeartbeats 8000000 in
theorem aP3 (N:Nat) (a0:Wd) (r:Int) (h:aA9 N a0=some r):Spec Tryz.prog 21 [] [.agg (eWd a0)] (.int r) [] []:=by
 refine Spec.of F3 Tryz.func21 rfl Tryz.ntmps21 (by kernel_rfl) rfl rfl rfl fun Γ hn=>?_
 unfold aA9 at h
 refine j6 hn ?_
 refine j6 hn ?_
 obtain ⟨r1,hr2,h⟩:=j5 h
 show l6 Tryz.prog _ _ _ _
 refine cA (bY0 N  r1 hr2) ?_
 refine j4.seqQ fun _ A0 _ R0=>?_
 refine j4.seqQ fun _ A1 _ _=>?_
 obtain ⟨o5,h4,h⟩:=j5 h
 refine jk (ι:={ s // o5=s }) hn (fun s=>[(39,.bool s.1)]) (fun s=>[]) [(1,_),(3,_)] [(1,_),(3,_)] (fun _ A2 _ _=>?_) ?_
 ·refine p9 hn ?_
  refine u7 (fun _=>?_)
  refine l5 h4 (fun hb7 h4=>?_) (fun hb7 h4=>?_)
  ·refine j3 hb7 ?_
   refine j3 hb7 ?_
   refine j3 hb7 ?_
   refine j3 hb7 ?_
   refine A2 _ _ ?_
   exact jn ⟨_,sj h4⟩ []
  refine d9 hb7 ?_
  refine d9 hb7 ?_
  refine u7 (fun _=>?_)
  refine d9 hb7 ?_
  refine d9 hb7 ?_
  refine l5 h4 (fun hb9 h4=>?_) (fun hb9 h4=>?_)
  ·refine j3 hb9 ?_
   refine j3 hb9 ?_
   refine j3 hb9 ?_
   refine j3 hb9 ?_
   refine A2 _ _ ?_
   exact jn ⟨_,sj h4⟩ []
  refine d9 hb9 ?_
  refine d9 hb9 ?_
  refine u7 (fun _=>?_)
  refine d9 hb9 ?_
  refine d9 hb9 ?_
  refine A2 _ _ ?_
  exact jn ⟨_,sj h4⟩ []
 rintro ⟨v3,hv_⟩
 replace hv_:=hv_.symm
 subst hv_
 refine A1 _ _ ?_
 refine l7 hn ?_
 refine l5 h (fun hb11 h=>?_) (fun hb11 h=>?_)
 ·refine j6 hn ?_
  refine got hn ?_
  refine R0 _ _ ?_
  obtain rfl:=Option.some.inj h
  exact ⟨[],_,fm⟩
 refine l9 hn ?_
 refine A0 _ _ ?_
 refine j4.seqQ fun _ A3 _ R3=>?_
 refine j4.seqQ fun _ A4 _ _=>?_
 obtain ⟨o14,h13,h⟩:=j5 h
 refine jk (ι:={ s // o14=s }) hn (fun s=>[(47,.bool s.1)]) (fun s=>[]) [(1,_),(3,_)] [(1,_),(3,_)] (fun _ A5 _ _=>?_) ?_
 ·refine p9 hn ?_
  refine l5 h13 (fun hb15 h13=>?_) (fun hb15 h13=>?_)
  ·refine j3 hb15 ?_
   refine j3 hb15 ?_
   refine j3 hb15 ?_
   refine A5 _ _ ?_
   exact jn ⟨_,sj h13⟩ []
  refine d9 hb15 ?_
  refine d9 hb15 ?_
  refine d9 hb15 ?_
  refine A5 _ _ ?_
  exact jn ⟨_,sj h13⟩ []
 rintro ⟨v12,hv_⟩
 replace hv_:=hv_.symm
 subst hv_
 refine A4 _ _ ?_
 refine l7 hn ?_
 refine l5 h (fun hb16 h=>?_) (fun hb16 h=>?_)
 ·refine j6 hn ?_
  refine got hn ?_
  refine R3 _ _ ?_
  obtain rfl:=Option.some.inj h
  exact ⟨[],_,fm⟩
 refine l9 hn ?_
 refine A3 _ _ ?_
 refine j4.seqQ fun _ A6 _ R6=>?_
 refine j6 hn ?_
 refine u7 (fun hl17=>?_)
 obtain ⟨o19,h20,h⟩:=j5 h
 refine jk (ι:={ s // o19=C9.next s }) hn (fun s=>[]) (fun s=>[]) [(1,_),(3,_)] [(1,_),(3,_)] (fun _ A7 _ R7=>?_) ?_
 ·refine j4.blkQ fun _ _ E8 _ R8=>?_
  refine lq (ι:={ q:((List Cl)×Nat) // q.1=a0.classes.drop q.2∧X0 N a0 r1 q.1 q.2=some o19 }) hn (fun q=>[(51,.int (q.1.2:Int))]) (fun q=>[]) (fun q=>q.1.1.length) [(1,_),(3,_),(49,_),(50,_)] [(1,_),(3,_)] ⟨(a0.classes,0),rfl,h20⟩ [] ?_
  rintro ⟨⟨rest_,k18⟩,hd22,h20⟩ _ A9 X9 R9
  replace hd22:rest_=a0.classes.drop k18:=hd22
  rcases rest_ with _|⟨x24,rest21⟩
  ·have hlt26:=G6 hd22
   replace h20:=(X0.eq_1 _ _ _ _).symm.trans h20
   refine j6 hn ?_
   refine j4.seqQ fun _ _ X10 _=>?_
   refine l7 hn ?_
   refine d9 hlt26 ?_
   refine H8 hn ?_
   refine X10 _ _ _ ?_
   refine X9 _ _ _ ?_
   refine E8 _ _ ?_
   refine A7 _ _ ?_
   exact jn ⟨_,sj h20⟩ []
  ·obtain ⟨hx25,hd2,hlt26⟩:=z8 hd22
   replace h20:=(X0.eq_2 _ _ _ _ _ _).symm.trans h20
   refine j6 hn ?_
   refine j4.seqQ fun _ A11 _ _=>?_
   refine l7 hn ?_
   refine j3 hlt26 ?_
   refine l9 hn ?_
   refine A11 _ _ ?_
   refine j4.seqQ fun _ A12 _ R12=>?_
   refine j4.blkQ fun _ A13 _ _ R13=>?_
   refine j6 hn ?_
   refine U9 hx25 ?_
   refine j4.seqQ fun _ A14 _ R14=>?_
   refine j4.seqQ fun _ A15 _ _=>?_
   obtain ⟨o29,h28,h20⟩:=j5 h20
   refine jk (ι:={ s // o29=s }) hn (fun s=>[(74,.bool s.1)]) (fun s=>[]) [(1,_),(3,_),(4,_),(5,_),(49,_),(50,_),(51,_)] [(1,_),(3,_),(5,_)] (fun _ A16 _ _=>?_) ?_
   ·refine kp [(1,_),(3,_),(4,_),(5,_),(49,_),(50,_),(51,_)] [(1,_),(3,_),(5,_)] ?_
    refine god hn (by kernel_rfl) ?_
    obtain ⟨r30,hr31,h28⟩:=j5 h28
    show l6 Tryz.prog _ _ _ _
    refine cA (aQ7 N x24.name r30 hr31) ?_
    refine l5 h28 (fun hb32 h28=>?_) (fun hb32 h28=>?_)
    ·refine j3 hb32 ?_
     refine j3 hb32 ?_
     refine j3 hb32 ?_
     refine j3 hb32 ?_
     refine A16 _ _ ?_
     exact jn ⟨_,sj h28⟩ []
    refine d9 hb32 ?_
    refine d9 hb32 ?_
    refine l5 h28 (fun hb33 h28=>?_) (fun hb33 h28=>?_)
    ·refine j3 hb33 ?_
     refine j3 hb33 ?_
     refine j3 hb33 ?_
     refine j3 hb33 ?_
     refine j3 hb33 ?_
     obtain ⟨x34,hx35,h28⟩:=j5 h28
     refine W9 hx35 ?_
     refine j3 hb33 ?_
     refine j3 hb33 ?_
     refine j3 hb33 ?_
     refine d9 hb32 ?_
     refine j3 hb33 ?_
     refine d9 hb32 ?_
     refine A16 _ _ ?_
     exact jn ⟨_,sj h28⟩ []
    refine d9 hb33 ?_
    refine d9 hb33 ?_
    refine d9 hb33 ?_
    refine d9 hb33 ?_
    refine d9 hb33 ?_
    refine d9 hb33 ?_
    refine d9 hb33 ?_
    refine d9 hb33 ?_
    refine d9 hb32 ?_
    refine d9 hb33 ?_
    refine d9 hb32 ?_
    refine A16 _ _ ?_
    exact jn ⟨_,sj h28⟩ []
   rintro ⟨v27,hv_⟩
   replace hv_:=hv_.symm
   subst hv_
   refine A15 _ _ ?_
   refine l7 hn ?_
   refine l5 h20 (fun hb36 h20=>?_) (fun hb36 h20=>?_)
   ·refine j6 hn ?_
    refine got hn ?_
    refine R14 _ _ ?_
    refine R13 _ _ ?_
    refine R12 _ _ ?_
    refine R9 _ _ ?_
    refine R8 _ _ ?_
    refine R7 _ _ ?_
    refine R6 _ _ ?_
    obtain rfl:=Option.some.inj h20
    obtain rfl:=Option.some.inj h
    exact ⟨[],_,fm⟩
   refine l9 hn ?_
   refine A14 _ _ ?_
   refine j4.seqQ fun _ A17 _ R17=>?_
   refine j6 hn ?_
   obtain ⟨hg37,h20⟩:=F6 h20
   refine cX9 hg37 rfl rfl ?_
   refine u7 (fun hl38=>?_)
   obtain ⟨o40,h41,h20⟩:=j5 h20
   refine jk (ι:={ s // o40=C9.next s }) hn (fun s=>[]) (fun s=>[]) [(1,_),(3,_),(4,_),(5,_),(49,_),(50,_),(51,_)] [(1,_),(3,_),(5,_)] (fun _ A18 _ R18=>?_) ?_
   ·refine j4.blkQ fun _ _ E19 _ R19=>?_
    refine lq (ι:={ q:((List Cl)×Nat) // q.1=(a0.classes.take (k18:Int).toNat).drop q.2∧Y2 N x24 q.1 q.2=some o40 }) hn (fun q=>[(80,.int (q.1.2:Int))]) (fun q=>[]) (fun q=>q.1.1.length) [(1,_),(3,_),(4,_),(5,_),(49,_),(50,_),(51,_),(78,_),(79,_)] [(1,_),(3,_),(5,_)] ⟨((a0.classes.take (k18:Int).toNat),0),rfl,h41⟩ [] ?_
    rintro ⟨⟨rest_,k39⟩,hd43,h41⟩ _ A20 X20 R20
    replace hd43:rest_=(a0.classes.take (k18:Int).toNat).drop k39:=hd43
    rcases rest_ with _|⟨x45,rest42⟩
    ·have hlt47:=G6 hd43
     replace h41:=(Y2.eq_1 _ _ _).symm.trans h41
     refine j6 hn ?_
     refine j4.seqQ fun _ _ X21 _=>?_
     refine l7 hn ?_
     refine d9 hlt47 ?_
     refine H8 hn ?_
     refine X21 _ _ _ ?_
     refine X20 _ _ _ ?_
     refine E19 _ _ ?_
     refine A18 _ _ ?_
     exact jn ⟨_,sj h41⟩ []
    ·obtain ⟨hx46,hd2,hlt47⟩:=z8 hd43
     replace h41:=(Y2.eq_2 _ _ _ _ _).symm.trans h41
     refine j6 hn ?_
     refine j4.seqQ fun _ A22 _ _=>?_
     refine l7 hn ?_
     refine j3 hlt47 ?_
     refine l9 hn ?_
     refine A22 _ _ ?_
     refine j4.seqQ fun _ A23 _ R23=>?_
     refine j4.blkQ fun _ A24 _ _ R24=>?_
     refine j6 hn ?_
     refine U9 hx46 ?_
     refine j6 hn ?_
     refine l7 hn ?_
     refine l5 h41 (fun hb48 h41=>?_) (fun hb48 h41=>?_)
     ·refine kp [] [] ?_
      refine j6 hn ?_
      refine got hn ?_
      refine R24 _ _ ?_
      refine R23 _ _ ?_
      refine R20 _ _ ?_
      refine R19 _ _ ?_
      refine R18 _ _ ?_
      refine R17 _ _ ?_
      refine R13 _ _ ?_
      refine R12 _ _ ?_
      refine R9 _ _ ?_
      refine R8 _ _ ?_
      refine R7 _ _ ?_
      refine R6 _ _ ?_
      obtain rfl:=Option.some.inj h41
      obtain rfl:=Option.some.inj h20
      obtain rfl:=Option.some.inj h
      exact ⟨[],_,fm⟩
     refine l9 hn ?_
     refine A24 _ _ ?_
     refine A23 _ _ ?_
     refine kp [(1,_),(3,_),(4,_),(5,_),(49,_),(50,_),(51,_),(78,_),(79,_),(80,_)] [(1,_),(3,_),(5,_)] ?_
     refine p9 hn ?_
     refine Or.inl (And.intro (U0 hx46 hl38) ?_)
     refine A20 _ _ ?_
     exact jn ⟨(rest42,k39+1),hd2,h41⟩ [] (by show rest42.length < rest42.length+1; omega)
   rintro ⟨⟨⟩,rfl⟩
   refine A17 _ _ ?_
   refine j6 hn ?_
   refine j4.seqQ fun _ A25 _ R25=>?_
   refine j6 hn ?_
   obtain ⟨o51,h50,h20⟩:=j5 h20
   refine jk (ι:={ s // o51=C9.next s }) hn (fun s=>[(9,.int s.1)]) (fun s=>[]) [(1,_),(3,_),(5,_),(8,_),(49,_),(50,_),(51,_)] [(1,_),(3,_),(5,_)] (fun _ A26 _ R26=>?_) ?_
   ·refine l7 hn ?_
    refine l5 h50 (fun hb52 h50=>?_) (fun hb52 h50=>?_)
    ·refine j6 hn ?_
     refine j4.seqQ fun _ A27 _ _=>?_
     refine god hn (by kernel_rfl) ?_
     obtain ⟨x53,hx54,h50⟩:=j5 h50
     refine W9 hx54 ?_
     refine A27 _ _ ?_
     refine l7 hn ?_
     refine l5 h50 (fun hb55 h50=>?_) (fun hb55 h50=>?_)
     ·refine kp [] [] ?_
      refine j6 hn ?_
      refine got hn ?_
      refine R26 _ _ ?_
      refine R25 _ _ ?_
      refine R13 _ _ ?_
      refine R12 _ _ ?_
      refine R9 _ _ ?_
      refine R8 _ _ ?_
      refine R7 _ _ ?_
      refine R6 _ _ ?_
      obtain rfl:=Option.some.inj h50
      obtain rfl:=Option.some.inj h20
      obtain rfl:=Option.some.inj h
      exact ⟨[],_,fm⟩
     refine l9 hn ?_
     refine A26 _ _ ?_
     exact jn ⟨_,sj h50⟩ []
    refine j4.seqQ fun _ A28 _ _=>?_
    obtain ⟨o58,h57,h50⟩:=j5 h50
    refine jk (ι:={ s // o58=s }) hn (fun s=>[(119,.bool s.1)]) (fun s=>[]) [(1,_),(3,_),(5,_),(8,_),(9,_),(49,_),(50,_),(51,_)] [(1,_),(3,_),(5,_)] (fun _ A29 _ _=>?_) ?_
    ·refine p9 hn ?_
     refine l5 h57 (fun hb59 h57=>?_) (fun hb59 h57=>?_)
     ·refine j3 hb59 ?_
      refine j3 hb59 ?_
      refine j3 hb59 ?_
      refine j3 hb59 ?_
      refine A29 _ _ ?_
      exact jn ⟨_,sj h57⟩ []
     refine d9 hb59 ?_
     refine d9 hb59 ?_
     refine d9 hb59 ?_
     refine d9 hb59 ?_
     refine l5 h57 (fun hb60 h57=>?_) (fun hb60 h57=>?_)
     ·refine j3 hb60 ?_
      refine j3 hb60 ?_
      refine j3 hb60 ?_
      refine j3 hb60 ?_
      refine j3 hb60 ?_
      refine A29 _ _ ?_
      exact jn ⟨_,sj h57⟩ []
     refine d9 hb60 ?_
     refine d9 hb60 ?_
     refine d9 hb60 ?_
     refine l5 h57 (fun hb61 h57=>?_) (fun hb61 h57=>?_)
     ·refine j3 hb61 ?_
      refine j3 hb61 ?_
      refine d9 hb60 ?_
      refine j3 hb61 ?_
      refine d9 hb60 ?_
      refine A29 _ _ ?_
      exact jn ⟨_,sj h57⟩ []
     refine d9 hb61 ?_
     refine d9 hb61 ?_
     refine d9 hb60 ?_
     refine d9 hb61 ?_
     refine d9 hb60 ?_
     refine A29 _ _ ?_
     exact jn ⟨_,sj h57⟩ []
    rintro ⟨v56,hv_⟩
    replace hv_:=hv_.symm
    subst hv_
    refine A28 _ _ ?_
    refine l7 hn ?_
    refine l5 h50 (fun hb62 h50=>?_) (fun hb62 h50=>?_)
    ·refine j6 hn ?_
     refine got hn ?_
     refine R26 _ _ ?_
     refine R25 _ _ ?_
     refine R13 _ _ ?_
     refine R12 _ _ ?_
     refine R9 _ _ ?_
     refine R8 _ _ ?_
     refine R7 _ _ ?_
     refine R6 _ _ ?_
     obtain rfl:=Option.some.inj h50
     obtain rfl:=Option.some.inj h20
     obtain rfl:=Option.some.inj h
     exact ⟨[],_,fm⟩
    refine l9 hn ?_
    refine A26 _ _ ?_
    exact jn ⟨_,sj h50⟩ []
   rintro ⟨v49,rfl⟩
   refine A25 _ _ ?_
   refine j4.seqQ fun _ A30 _ _=>?_
   obtain ⟨o65,h64,h20⟩:=j5 h20
   refine jk (ι:={ s // o65=s }) hn (fun s=>[(129,.bool s.1)]) (fun s=>[]) [(1,_),(3,_),(49,_),(50,_),(51,_)] [(1,_),(3,_)] (fun _ A31 _ _=>?_) ?_
   ·refine p9 hn ?_
    refine l5 h64 (fun hb66 h64=>?_) (fun hb66 h64=>?_)
    ·refine j3 hb66 ?_
     refine j3 hb66 ?_
     refine j3 hb66 ?_
     refine j3 hb66 ?_
     refine A31 _ _ ?_
     exact jn ⟨_,sj h64⟩ []
    refine d9 hb66 ?_
    refine d9 hb66 ?_
    refine d9 hb66 ?_
    refine d9 hb66 ?_
    refine A31 _ _ ?_
    exact jn ⟨_,sj h64⟩ []
   rintro ⟨v63,hv_⟩
   replace hv_:=hv_.symm
   subst hv_
   refine A30 _ _ ?_
   refine l7 hn ?_
   refine l5 h20 (fun hb67 h20=>?_) (fun hb67 h20=>?_)
   ·refine j6 hn ?_
    refine got hn ?_
    refine R13 _ _ ?_
    refine R12 _ _ ?_
    refine R9 _ _ ?_
    refine R8 _ _ ?_
    refine R7 _ _ ?_
    refine R6 _ _ ?_
    obtain rfl:=Option.some.inj h20
    obtain rfl:=Option.some.inj h
    exact ⟨[],_,fm⟩
   refine l9 hn ?_
   refine A13 _ _ ?_
   refine A12 _ _ ?_
   refine p9 hn ?_
   refine Or.inl (And.intro (U0 hx25 hl17) ?_)
   refine A9 _ _ ?_
   exact jn ⟨(rest21,k18+1),hd2,h20⟩ [] (by show rest21.length < rest21.length+1; omega)
 rintro ⟨⟨⟩,rfl⟩
 refine A6 _ _ ?_
 refine j4.seqQ fun _ A32 _ R32=>?_
 refine j6 hn ?_
 refine u7 (fun hl68=>?_)
 obtain ⟨o70,h71,h⟩:=j5 h
 refine jk (ι:={ s // o70=C9.next s }) hn (fun s=>[]) (fun s=>[]) [(1,_)] [(1,_)] (fun _ A33 _ R33=>?_) ?_
 ·refine j4.blkQ fun _ _ E34 _ R34=>?_
  refine lq (ι:={ q:((List Cl)×Nat) // q.1=a0.classes.drop q.2∧V9 N a0 r1 q.1 q.2=some o70 }) hn (fun q=>[(134,.int (q.1.2:Int))]) (fun q=>[]) (fun q=>q.1.1.length) [(1,_),(3,_),(132,_),(133,_)] [(1,_),(3,_)] ⟨(a0.classes,0),rfl,h71⟩ [] ?_
  rintro ⟨⟨rest_,k69⟩,hd73,h71⟩ _ A35 X35 R35
  replace hd73:rest_=a0.classes.drop k69:=hd73
  rcases rest_ with _|⟨x75,rest72⟩
  ·have hlt77:=G6 hd73
   replace h71:=(V9.eq_1 _ _ _ _).symm.trans h71
   refine j6 hn ?_
   refine j4.seqQ fun _ _ X36 _=>?_
   refine l7 hn ?_
   refine d9 hlt77 ?_
   refine H8 hn ?_
   refine X36 _ _ _ ?_
   refine X35 _ _ _ ?_
   refine E34 _ _ ?_
   refine A33 _ _ ?_
   exact jn ⟨_,sj h71⟩ []
  ·obtain ⟨hx76,hd2,hlt77⟩:=z8 hd73
   replace h71:=(V9.eq_2 _ _ _ _ _ _).symm.trans h71
   refine j6 hn ?_
   refine j4.seqQ fun _ A37 _ _=>?_
   refine l7 hn ?_
   refine j3 hlt77 ?_
   refine l9 hn ?_
   refine A37 _ _ ?_
   refine j4.seqQ fun _ A38 _ R38=>?_
   refine j4.blkQ fun _ A39 _ _ R39=>?_
   refine j6 hn ?_
   refine U9 hx76 ?_
   refine j4.seqQ fun _ A40 _ R40=>?_
   refine j6 hn ?_
   obtain ⟨r78,hr79,h71⟩:=j5 h71
   show l6 Tryz.prog _ _ _ _
   refine cA (aI3 N a0 (k69:Int) r78 hr79) ?_
   refine l7 hn ?_
   refine l5 h71 (fun hb80 h71=>?_) (fun hb80 h71=>?_)
   ·refine j6 hn ?_
    refine got hn ?_
    refine R40 _ _ ?_
    refine R39 _ _ ?_
    refine R38 _ _ ?_
    refine R35 _ _ ?_
    refine R34 _ _ ?_
    refine R33 _ _ ?_
    refine R32 _ _ ?_
    obtain rfl:=Option.some.inj h71
    obtain rfl:=Option.some.inj h
    exact ⟨[],_,fm⟩
   refine l9 hn ?_
   refine A40 _ _ ?_
   refine j4.seqQ fun _ A41 _ R41=>?_
   refine j6 hn ?_
   refine u7 (fun _=>?_)
   refine l7 hn ?_
   refine l5 h71 (fun hb82 h71=>?_) (fun hb82 h71=>?_)
   ·refine kp [] [] ?_
    refine j6 hn ?_
    refine got hn ?_
    refine R41 _ _ ?_
    refine R39 _ _ ?_
    refine R38 _ _ ?_
    refine R35 _ _ ?_
    refine R34 _ _ ?_
    refine R33 _ _ ?_
    refine R32 _ _ ?_
    obtain rfl:=Option.some.inj h71
    obtain rfl:=Option.some.inj h
    exact ⟨[],_,fm⟩
   refine l9 hn ?_
   refine A41 _ _ ?_
   refine kp [(1,_),(3,_),(10,_),(11,_),(132,_),(133,_),(134,_)] [(1,_),(3,_),(11,_)] ?_
   refine j6 hn ?_
   refine u7 (fun hl83=>?_)
   obtain ⟨o85,h86,h71⟩:=j5 h71
   refine jk (ι:={ s // o85=C9.next s }) hn (fun s=>[]) (fun s=>[]) [(1,_),(3,_),(132,_),(133,_),(134,_)] [(1,_),(3,_)] (fun _ A42 _ R42=>?_) ?_
   ·refine j4.blkQ fun _ _ E43 _ R43=>?_
    refine lq (ι:={ q:((List Me)×Nat) // q.1=x75.methods.drop q.2∧Y5 N a0 r1 k69 x75 q.1 q.2=some o85 }) hn (fun q=>[(150,.int (q.1.2:Int))]) (fun q=>[]) (fun q=>q.1.1.length) [(1,_),(3,_),(10,_),(11,_),(132,_),(133,_),(134,_),(148,_),(149,_)] [(1,_),(3,_),(11,_)] ⟨(x75.methods,0),rfl,h86⟩ [] ?_
    rintro ⟨⟨rest_,k84⟩,hd88,h86⟩ _ A44 X44 R44
    replace hd88:rest_=x75.methods.drop k84:=hd88
    rcases rest_ with _|⟨x90,rest87⟩
    ·have hlt92:=G6 hd88
     replace h86:=(Y5.eq_1 _ _ _ _ _ _).symm.trans h86
     refine j6 hn ?_
     refine j4.seqQ fun _ _ X45 _=>?_
     refine l7 hn ?_
     refine d9 hlt92 ?_
     refine H8 hn ?_
     refine X45 _ _ _ ?_
     refine X44 _ _ _ ?_
     refine E43 _ _ ?_
     refine A42 _ _ ?_
     exact jn ⟨_,sj h86⟩ []
    ·obtain ⟨hx91,hd2,hlt92⟩:=z8 hd88
     replace h86:=(Y5.eq_2 _ _ _ _ _ _ _ _).symm.trans h86
     refine j6 hn ?_
     refine j4.seqQ fun _ A46 _ _=>?_
     refine l7 hn ?_
     refine j3 hlt92 ?_
     refine l9 hn ?_
     refine A46 _ _ ?_
     refine j4.seqQ fun _ A47 _ R47=>?_
     refine j4.blkQ fun _ A48 _ _ R48=>?_
     refine j6 hn ?_
     refine U9 hx91 ?_
     refine j4.seqQ fun _ A49 _ R49=>?_
     refine j4.seqQ fun _ A50 _ _=>?_
     obtain ⟨o95,h94,h86⟩:=j5 h86
     refine jk (ι:={ s // o95=s }) hn (fun s=>[(168,.bool s.1)]) (fun s=>[]) [(1,_),(3,_),(10,_),(11,_),(13,_),(132,_),(133,_),(134,_),(148,_),(149,_),(150,_)] [(1,_),(3,_),(11,_),(13,_)] (fun _ A51 _ _=>?_) ?_
     ·refine god hn (by kernel_rfl) ?_
      refine l5 h94 (fun hb96 h94=>?_) (fun hb96 h94=>?_)
      ·refine j3 hb96 ?_
       refine j3 hb96 ?_
       refine j3 hb96 ?_
       refine Or.inr ?_
       refine j3 hb96 ?_
       obtain ⟨x97,hx98,h94⟩:=j5 h94
       refine W9 hx98 ?_
       refine j3 hb96 ?_
       refine j3 hb96 ?_
       refine j3 hb96 ?_
       refine j3 hb96 ?_
       refine j3 hb96 ?_
       refine j3 hb96 ?_
       refine A51 _ _ ?_
       exact jn ⟨_,sj h94⟩ []
      refine d9 hb96 ?_
      refine d9 hb96 ?_
      refine d9 hb96 ?_
      refine d9 hb96 ?_
      refine d9 hb96 ?_
      refine d9 hb96 ?_
      refine d9 hb96 ?_
      refine d9 hb96 ?_
      refine d9 hb96 ?_
      refine d9 hb96 ?_
      refine A51 _ _ ?_
      exact jn ⟨_,sj h94⟩ []
     rintro ⟨v93,hv_⟩
     replace hv_:=hv_.symm
     subst hv_
     refine A50 _ _ ?_
     refine l7 hn ?_
     refine l5 h86 (fun hb99 h86=>?_) (fun hb99 h86=>?_)
     ·refine j6 hn ?_
      refine got hn ?_
      refine R49 _ _ ?_
      refine R48 _ _ ?_
      refine R47 _ _ ?_
      refine R44 _ _ ?_
      refine R43 _ _ ?_
      refine R42 _ _ ?_
      refine R39 _ _ ?_
      refine R38 _ _ ?_
      refine R35 _ _ ?_
      refine R34 _ _ ?_
      refine R33 _ _ ?_
      refine R32 _ _ ?_
      obtain rfl:=Option.some.inj h86
      obtain rfl:=Option.some.inj h71
      obtain rfl:=Option.some.inj h
      exact ⟨[],_,fm⟩
     refine l9 hn ?_
     refine A49 _ _ ?_
     refine j6 hn ?_
     refine j4.seqQ fun _ A52 _ _=>?_
     refine j6 hn ?_
     obtain ⟨x100,hx101,h86⟩:=j5 h86
     refine W9 hx101 ?_
     refine u7 (fun hl102=>?_)
     obtain ⟨o107,h108,h86⟩:=j5 h86
     refine jk (ι:={ s // o107=s }) hn (fun s=>[(14,.bool s.1)]) (fun s=>[]) [(1,_),(3,_),(10,_),(11,_),(13,_),(132,_),(133,_),(134,_),(148,_),(149,_),(150,_)] [(1,_),(3,_),(11,_),(13,_)] (fun _ A53 _ _=>?_) ?_
     ·refine j4.blkQ fun _ _ E54 _ _=>?_
      refine lq (ι:={ q:((List Me)×Nat×Bool) // q.1=x100.methods.drop q.2.1∧P9 N k69 x90 q.1 q.2.1 q.2.2=some o107 }) hn (fun q=>[(14,.bool q.1.2.2),(175,.int (q.1.2.1:Int))]) (fun q=>[]) (fun q=>q.1.1.length) [(1,_),(3,_),(10,_),(11,_),(13,_),(132,_),(133,_),(134,_),(148,_),(149,_),(150,_),(173,_),(174,_)] [(1,_),(3,_),(11,_),(13,_)] ⟨(x100.methods,0,false),rfl,h108⟩ [] ?_
      rintro ⟨⟨rest_,k103,v104⟩,hd110,h108⟩ _ A55 X55 _
      replace hd110:rest_=x100.methods.drop k103:=hd110
      rcases rest_ with _|⟨x112,rest109⟩
      ·have hlt114:=G6 hd110
       replace h108:=(P9.eq_1 _ _ _ _ _).symm.trans h108
       refine j6 hn ?_
       refine j4.seqQ fun _ _ X56 _=>?_
       refine l7 hn ?_
       refine d9 hlt114 ?_
       refine H8 hn ?_
       refine X56 _ _ _ ?_
       refine X55 _ _ _ ?_
       refine E54 _ _ ?_
       refine A53 _ _ ?_
       exact jn ⟨_,sj h108⟩ []
      ·obtain ⟨hx113,hd2,hlt114⟩:=z8 hd110
       replace h108:=(P9.eq_2 _ _ _ _ _ _ _).symm.trans h108
       refine j6 hn ?_
       refine j4.seqQ fun _ A57 _ _=>?_
       refine l7 hn ?_
       refine j3 hlt114 ?_
       refine l9 hn ?_
       refine A57 _ _ ?_
       refine j4.seqQ fun _ A58 _ _=>?_
       obtain ⟨o117,h116,h108⟩:=j5 h108
       refine jk (ι:={ s // o117=s }) hn (fun s=>[(14,.bool s.1)]) (fun s=>[]) [(1,_),(3,_),(10,_),(11,_),(13,_),(132,_),(133,_),(134,_),(148,_),(149,_),(150,_),(173,_),(174,_),(175,_)] [(1,_),(3,_),(11,_),(13,_)] (fun _ A59 _ _=>?_) ?_
       ·refine j4.blkQ fun _ A60 _ _ _=>?_
        refine j6 hn ?_
        refine U9 hx113 ?_
        obtain ⟨o120,h119,h116⟩:=j5 h116
        refine jk (ι:={ s // o120=s }) hn (fun s=>[(14,.bool s.1)]) (fun s=>[]) [(1,_),(3,_),(10,_),(11,_),(13,_),(132,_),(133,_),(134,_),(148,_),(149,_),(150,_),(173,_),(174,_),(175,_)] [(1,_),(3,_),(11,_),(13,_)] (fun _ A61 _ _=>?_) ?_
        ·refine kp [(1,_),(3,_),(10,_),(11,_),(13,_),(14,_),(16,_),(132,_),(133,_),(134,_),(148,_),(149,_),(150,_),(173,_),(174,_),(175,_)] [(1,_),(3,_),(11,_),(13,_),(16,_)] ?_
         refine p9 hn ?_
         refine l5 h119 (fun hb121 h119=>?_) (fun hb121 h119=>?_)
         ·refine j3 hb121 ?_
          refine j3 hb121 ?_
          refine j3 hb121 ?_
          refine j3 hb121 ?_
          refine j3 hb121 ?_
          refine j3 hb121 ?_
          refine j3 hb121 ?_
          refine j3 hb121 ?_
          refine j3 hb121 ?_
          refine j3 hb121 ?_
          refine j3 hb121 ?_
          refine j3 hb121 ?_
          refine A61 _ _ ?_
          exact jn ⟨_,sj h119⟩ []
         refine d9 hb121 ?_
         refine d9 hb121 ?_
         refine l5 h119 (fun hb122 h119=>?_) (fun hb122 h119=>?_)
         ·refine j3 hb122 ?_
          refine j3 hb122 ?_
          refine j3 hb122 ?_
          refine j3 hb122 ?_
          refine d9 hb121 ?_
          refine j3 hb122 ?_
          refine d9 hb121 ?_
          refine l5 h119 (fun hb123 h119=>?_) (fun hb123 h119=>?_)
          ·refine j3 hb123 ?_
           refine j3 hb123 ?_
           refine j3 hb123 ?_
           refine j3 hb123 ?_
           refine d9 hb121 ?_
           refine j3 hb123 ?_
           refine d9 hb121 ?_
           refine l5 h119 (fun hb124 h119=>?_) (fun hb124 h119=>?_)
           ·refine j3 hb124 ?_
            refine j3 hb124 ?_
            refine d9 hb121 ?_
            refine j3 hb124 ?_
            refine d9 hb121 ?_
            refine l5 h119 (fun hb125 h119=>?_) (fun hb125 h119=>?_)
            ·refine j3 hb125 ?_
             refine j3 hb125 ?_
             refine d9 hb121 ?_
             refine j3 hb125 ?_
             refine d9 hb121 ?_
             refine l5 h119 (fun hb126 h119=>?_) (fun hb126 h119=>?_)
             ·refine j3 hb126 ?_
              refine j3 hb126 ?_
              refine u7 (fun _=>?_)
              refine j3 hb126 ?_
              refine d9 hb121 ?_
              refine j3 hb126 ?_
              refine d9 hb121 ?_
              refine A61 _ _ ?_
              exact jn ⟨_,sj h119⟩ []
             refine d9 hb126 ?_
             refine d9 hb126 ?_
             refine d9 hb126 ?_
             refine d9 hb121 ?_
             refine d9 hb126 ?_
             refine d9 hb121 ?_
             refine A61 _ _ ?_
             exact jn ⟨_,sj h119⟩ []
            refine d9 hb125 ?_
            refine d9 hb125 ?_
            refine d9 hb121 ?_
            refine d9 hb125 ?_
            refine d9 hb121 ?_
            refine d9 hb121 ?_
            refine d9 hb121 ?_
            refine A61 _ _ ?_
            exact jn ⟨_,sj h119⟩ []
           refine d9 hb124 ?_
           refine d9 hb124 ?_
           refine d9 hb121 ?_
           refine d9 hb124 ?_
           refine d9 hb121 ?_
           refine d9 hb121 ?_
           refine d9 hb121 ?_
           refine d9 hb121 ?_
           refine d9 hb121 ?_
           refine A61 _ _ ?_
           exact jn ⟨_,sj h119⟩ []
          refine d9 hb123 ?_
          refine d9 hb123 ?_
          refine d9 hb123 ?_
          refine d9 hb123 ?_
          refine d9 hb121 ?_
          refine d9 hb123 ?_
          refine d9 hb121 ?_
          refine d9 hb121 ?_
          refine d9 hb121 ?_
          refine d9 hb121 ?_
          refine d9 hb121 ?_
          refine d9 hb121 ?_
          refine d9 hb121 ?_
          refine A61 _ _ ?_
          exact jn ⟨_,sj h119⟩ []
         refine d9 hb122 ?_
         refine d9 hb122 ?_
         refine d9 hb122 ?_
         refine d9 hb122 ?_
         refine d9 hb121 ?_
         refine d9 hb122 ?_
         refine d9 hb121 ?_
         refine d9 hb121 ?_
         refine d9 hb121 ?_
         refine d9 hb121 ?_
         refine d9 hb121 ?_
         refine d9 hb121 ?_
         refine d9 hb121 ?_
         refine d9 hb121 ?_
         refine d9 hb121 ?_
         refine A61 _ _ ?_
         exact jn ⟨_,sj h119⟩ []
        rintro ⟨v118,hv_⟩
        replace hv_:=hv_.symm
        subst hv_
        refine A60 _ _ ?_
        refine A59 _ _ ?_
        exact jn ⟨_,sj h116⟩ []
       rintro ⟨v115,hv_⟩
       replace hv_:=hv_.symm
       subst hv_
       refine A58 _ _ ?_
       refine p9 hn ?_
       refine Or.inl (And.intro (U0 hx113 hl102) ?_)
       refine A55 _ _ ?_
       exact jn ⟨(rest109,k103+1,v115),hd2,h108⟩ [] (by show rest109.length < rest109.length+1; omega)
     rintro ⟨v106,hv_⟩
     replace hv_:=hv_.symm
     subst hv_
     refine A52 _ _ ?_
     refine j6 hn ?_
     obtain ⟨r128,hr129,h86⟩:=j5 h86
     show l6 Tryz.prog _ _ _ _
     refine cA (bQ3 N a0 (k69:Int) x90 r128 hr129) ?_
     refine j4.seqQ fun _ A62 _ _=>?_
     obtain ⟨o132,h131,h86⟩:=j5 h86
     refine jk (ι:={ s // o132=s }) hn (fun s=>[(225,.bool s.1)]) (fun s=>[]) [(1,_),(3,_),(10,_),(11,_),(17,_),(132,_),(133,_),(134,_),(148,_),(149,_),(150,_)] [(1,_),(3,_),(11,_),(17,_)] (fun _ A63 _ _=>?_) ?_
     ·refine kp [(1,_),(3,_),(10,_),(11,_),(14,_),(17,_),(132,_),(133,_),(134,_),(148,_),(149,_),(150,_)] [(1,_),(3,_),(11,_),(17,_)] ?_
      refine p9 hn ?_
      refine l5 h131 (fun hb133 h131=>?_) (fun hb133 h131=>?_)
      ·refine j3 hb133 ?_
       refine j3 hb133 ?_
       refine j3 hb133 ?_
       refine A63 _ _ ?_
       exact jn ⟨_,sj h131⟩ []
      refine d9 hb133 ?_
      refine d9 hb133 ?_
      refine d9 hb133 ?_
      refine A63 _ _ ?_
      exact jn ⟨_,sj h131⟩ []
     rintro ⟨v130,hv_⟩
     replace hv_:=hv_.symm
     subst hv_
     refine A62 _ _ ?_
     refine l7 hn ?_
     refine l5 h86 (fun hb134 h86=>?_) (fun hb134 h86=>?_)
     ·refine j6 hn ?_
      refine got hn ?_
      refine R48 _ _ ?_
      refine R47 _ _ ?_
      refine R44 _ _ ?_
      refine R43 _ _ ?_
      refine R42 _ _ ?_
      refine R39 _ _ ?_
      refine R38 _ _ ?_
      refine R35 _ _ ?_
      refine R34 _ _ ?_
      refine R33 _ _ ?_
      refine R32 _ _ ?_
      obtain rfl:=Option.some.inj h86
      obtain rfl:=Option.some.inj h71
      obtain rfl:=Option.some.inj h
      exact ⟨[],_,fm⟩
     refine l9 hn ?_
     refine A48 _ _ ?_
     refine A47 _ _ ?_
     refine p9 hn ?_
     refine Or.inl (And.intro (U0 hx91 hl83) ?_)
     refine A44 _ _ ?_
     exact jn ⟨(rest87,k84+1),hd2,h86⟩ [] (by show rest87.length < rest87.length+1; omega)
   rintro ⟨⟨⟩,rfl⟩
   refine A39 _ _ ?_
   refine A38 _ _ ?_
   refine p9 hn ?_
   refine Or.inl (And.intro (U0 hx76 hl68) ?_)
   refine A35 _ _ ?_
   exact jn ⟨(rest72,k69+1),hd2,h71⟩ [] (by show rest72.length < rest72.length+1; omega)
 rintro ⟨⟨⟩,rfl⟩
 refine A32 _ _ ?_
 refine j4.seqQ fun _ A64 _ R64=>?_
 refine j6 hn ?_
 refine u7 (fun hl135=>?_)
 obtain ⟨o137,h138,h⟩:=j5 h
 refine jk (ι:={ s // o137=C9.next s }) hn (fun s=>[]) (fun s=>[]) [] [] (fun _ A65 _ R65=>?_) ?_
 ·refine j4.blkQ fun _ _ E66 _ R66=>?_
  refine lq (ι:={ q:((List Ob)×Nat) // q.1=a0.heap.drop q.2∧Y0 N a0 q.1 q.2=some o137 }) hn (fun q=>[(233,.int (q.1.2:Int))]) (fun q=>[]) (fun q=>q.1.1.length) [(1,_),(231,_),(232,_)] [(1,_)] ⟨(a0.heap,0),rfl,h138⟩ [] ?_
  rintro ⟨⟨rest_,k136⟩,hd140,h138⟩ _ A67 X67 R67
  replace hd140:rest_=a0.heap.drop k136:=hd140
  rcases rest_ with _|⟨x142,rest139⟩
  ·have hlt144:=G6 hd140
   replace h138:=(Y0.eq_1 _ _ _).symm.trans h138
   refine j6 hn ?_
   refine j4.seqQ fun _ _ X68 _=>?_
   refine l7 hn ?_
   refine d9 hlt144 ?_
   refine H8 hn ?_
   refine X68 _ _ _ ?_
   refine X67 _ _ _ ?_
   refine E66 _ _ ?_
   refine A65 _ _ ?_
   exact jn ⟨_,sj h138⟩ []
  ·obtain ⟨hx143,hd2,hlt144⟩:=z8 hd140
   replace h138:=(Y0.eq_2 _ _ _ _ _).symm.trans h138
   refine j6 hn ?_
   refine j4.seqQ fun _ A69 _ _=>?_
   refine l7 hn ?_
   refine j3 hlt144 ?_
   refine l9 hn ?_
   refine A69 _ _ ?_
   refine j4.seqQ fun _ A70 _ R70=>?_
   refine j4.blkQ fun _ A71 _ _ R71=>?_
   refine j6 hn ?_
   refine U9 hx143 ?_
   refine j4.seqQ fun _ A72 _ R72=>?_
   refine j4.seqQ fun _ A73 _ _=>?_
   obtain ⟨o147,h146,h138⟩:=j5 h138
   refine jk (ι:={ s // o147=s }) hn (fun s=>[(267,.bool s.1)]) (fun s=>[]) [(1,_),(19,_),(231,_),(232,_),(233,_)] [(1,_),(19,_)] (fun _ A74 _ _=>?_) ?_
   ·refine kp [(1,_),(19,_),(231,_),(232,_),(233,_)] [(1,_),(19,_)] ?_
    refine god hn (by kernel_rfl) ?_
    refine l5 h146 (fun hb148 h146=>?_) (fun hb148 h146=>?_)
    ·refine j3 hb148 ?_
     refine j3 hb148 ?_
     refine j3 hb148 ?_
     refine j3 hb148 ?_
     refine j3 hb148 ?_
     refine A74 _ _ ?_
     exact jn ⟨_,sj h146⟩ []
    refine d9 hb148 ?_
    refine d9 hb148 ?_
    refine d9 hb148 ?_
    refine l5 h146 (fun hb149 h146=>?_) (fun hb149 h146=>?_)
    ·refine j3 hb149 ?_
     refine j3 hb149 ?_
     refine d9 hb148 ?_
     refine j3 hb149 ?_
     refine d9 hb148 ?_
     refine l5 h146 (fun hb150 h146=>?_) (fun hb150 h146=>?_)
     ·refine j3 hb150 ?_
      refine j3 hb150 ?_
      refine j3 hb150 ?_
      refine j3 hb150 ?_
      refine j3 hb150 ?_
      refine j3 hb150 ?_
      refine A74 _ _ ?_
      exact jn ⟨_,sj h146⟩ []
     refine d9 hb150 ?_
     refine d9 hb150 ?_
     refine d9 hb150 ?_
     refine d9 hb150 ?_
     refine u7 (fun _=>?_)
     refine d9 hb150 ?_
     refine d9 hb150 ?_
     refine l5 h146 (fun hb152 h146=>?_) (fun hb152 h146=>?_)
     ·refine j3 hb152 ?_
      refine j3 hb152 ?_
      refine j3 hb152 ?_
      refine j3 hb152 ?_
      refine j3 hb152 ?_
      refine j3 hb152 ?_
      refine j3 hb152 ?_
      refine j3 hb152 ?_
      refine A74 _ _ ?_
      exact jn ⟨_,sj h146⟩ []
     refine d9 hb152 ?_
     refine d9 hb152 ?_
     refine u7 (fun _=>?_)
     refine d9 hb152 ?_
     refine d9 hb152 ?_
     refine d9 hb152 ?_
     refine d9 hb152 ?_
     obtain ⟨r154,hr155,h146⟩:=j5 h146
     show l6 Tryz.prog _ _ _ _
     refine cA (aI3 N a0 x142.cls r154 hr155) ?_
     refine d9 hb152 ?_
     refine d9 hb152 ?_
     refine A74 _ _ ?_
     exact jn ⟨_,sj h146⟩ []
    refine d9 hb149 ?_
    refine d9 hb149 ?_
    refine d9 hb148 ?_
    refine d9 hb149 ?_
    refine d9 hb148 ?_
    refine u7 (fun _=>?_)
    refine l5 h146 (fun hb157 h146=>?_) (fun hb157 h146=>?_)
    ·refine j3 hb157 ?_
     refine j3 hb157 ?_
     refine j3 hb157 ?_
     refine j3 hb157 ?_
     refine j3 hb157 ?_
     refine j3 hb157 ?_
     refine j3 hb157 ?_
     refine j3 hb157 ?_
     refine A74 _ _ ?_
     exact jn ⟨_,sj h146⟩ []
    refine d9 hb157 ?_
    refine d9 hb157 ?_
    refine u7 (fun _=>?_)
    refine d9 hb157 ?_
    refine d9 hb157 ?_
    refine d9 hb157 ?_
    refine d9 hb157 ?_
    obtain ⟨r159,hr160,h146⟩:=j5 h146
    show l6 Tryz.prog _ _ _ _
    refine cA (aI3 N a0 x142.cls r159 hr160) ?_
    refine d9 hb157 ?_
    refine d9 hb157 ?_
    refine A74 _ _ ?_
    exact jn ⟨_,sj h146⟩ []
   rintro ⟨v145,hv_⟩
   replace hv_:=hv_.symm
   subst hv_
   refine A73 _ _ ?_
   refine l7 hn ?_
   refine l5 h138 (fun hb161 h138=>?_) (fun hb161 h138=>?_)
   ·refine j6 hn ?_
    refine got hn ?_
    refine R72 _ _ ?_
    refine R71 _ _ ?_
    refine R70 _ _ ?_
    refine R67 _ _ ?_
    refine R66 _ _ ?_
    refine R65 _ _ ?_
    refine R64 _ _ ?_
    obtain rfl:=Option.some.inj h138
    obtain rfl:=Option.some.inj h
    exact ⟨[],_,fm⟩
   refine l9 hn ?_
   refine A72 _ _ ?_
   refine j6 hn ?_
   refine u7 (fun hl162=>?_)
   obtain ⟨o164,h165,h138⟩:=j5 h138
   refine jk (ι:={ s // o164=C9.next s }) hn (fun s=>[]) (fun s=>[]) [(1,_),(231,_),(232,_),(233,_)] [(1,_)] (fun _ A75 _ R75=>?_) ?_
   ·refine j4.blkQ fun _ _ E76 _ R76=>?_
    refine lq (ι:={ q:((List V)×Nat) // q.1=x142.slots.drop q.2∧Y7 N a0 q.1 q.2=some o164 }) hn (fun q=>[(271,.int (q.1.2:Int))]) (fun q=>[]) (fun q=>q.1.1.length) [(1,_),(231,_),(232,_),(233,_),(269,_),(270,_)] [(1,_)] ⟨(x142.slots,0),rfl,h165⟩ [] ?_
    rintro ⟨⟨rest_,k163⟩,hd167,h165⟩ _ A77 X77 R77
    replace hd167:rest_=x142.slots.drop k163:=hd167
    rcases rest_ with _|⟨x169,rest166⟩
    ·have hlt171:=G6 hd167
     replace h165:=(Y7.eq_1 _ _ _).symm.trans h165
     refine j6 hn ?_
     refine j4.seqQ fun _ _ X78 _=>?_
     refine l7 hn ?_
     refine d9 hlt171 ?_
     refine H8 hn ?_
     refine X78 _ _ _ ?_
     refine X77 _ _ _ ?_
     refine E76 _ _ ?_
     refine A75 _ _ ?_
     exact jn ⟨_,sj h165⟩ []
    ·obtain ⟨hx170,hd2,hlt171⟩:=z8 hd167
     replace h165:=(Y7.eq_2 _ _ _ _ _).symm.trans h165
     refine j6 hn ?_
     refine j4.seqQ fun _ A79 _ _=>?_
     refine l7 hn ?_
     refine j3 hlt171 ?_
     refine l9 hn ?_
     refine A79 _ _ ?_
     refine j4.seqQ fun _ A80 _ R80=>?_
     refine j4.blkQ fun _ A81 _ _ R81=>?_
     refine j6 hn ?_
     refine U9 hx170 ?_
     refine j6 hn ?_
     refine u7 (fun _=>?_)
     obtain ⟨r173,hr174,h165⟩:=j5 h165
     show l6 Tryz.prog _ _ _ _
     refine cA (bN8 N x169 (a0.heap.length:Int) r173 hr174) ?_
     refine kp [(1,_),(22,_),(231,_),(232,_),(233,_),(269,_),(270,_),(271,_)] [(1,_)] ?_
     refine j6 hn ?_
     refine l7 hn ?_
     refine l5 h165 (fun hb175 h165=>?_) (fun hb175 h165=>?_)
     ·refine j6 hn ?_
      refine got hn ?_
      refine R81 _ _ ?_
      refine R80 _ _ ?_
      refine R77 _ _ ?_
      refine R76 _ _ ?_
      refine R75 _ _ ?_
      refine R71 _ _ ?_
      refine R70 _ _ ?_
      refine R67 _ _ ?_
      refine R66 _ _ ?_
      refine R65 _ _ ?_
      refine R64 _ _ ?_
      obtain rfl:=Option.some.inj h165
      obtain rfl:=Option.some.inj h138
      obtain rfl:=Option.some.inj h
      exact ⟨[],_,fm⟩
     refine l9 hn ?_
     refine A81 _ _ ?_
     refine A80 _ _ ?_
     refine p9 hn ?_
     refine Or.inl (And.intro (U0 hx170 hl162) ?_)
     refine A77 _ _ ?_
     exact jn ⟨(rest166,k163+1),hd2,h165⟩ [] (by show rest166.length < rest166.length+1; omega)
   rintro ⟨⟨⟩,rfl⟩
   refine A71 _ _ ?_
   refine A70 _ _ ?_
   refine p9 hn ?_
   refine Or.inl (And.intro (U0 hx143 hl135) ?_)
   refine A67 _ _ ?_
   exact jn ⟨(rest139,k136+1),hd2,h138⟩ [] (by show rest139.length < rest139.length+1; omega)
 rintro ⟨⟨⟩,rfl⟩
 refine A64 _ _ ?_
 refine j6 hn ?_
 refine got hn ?_
 obtain rfl:=Option.some.inj h
 exact ⟨[],_,fm⟩

/- qcref1.Text$1 -/
set_option maxRecDepth 100000 in
set_option maxHeartbeats 8000000 in
theorem U8 (N:Nat) (a0:(List Int)) (b0:ByteArray) (r:ByteArray) (h:K7 N a0 b0=some r):Spec Tryz.prog 49 [(1016,.box [.str b0] 9),(2000,GL)] [.sl 1 (List.map F7 a0),.ptr 1016 0] (.tup []) [(1016,.box [.str r] 9),(2000,GL)] []:=by
 refine Spec.of F3 Tryz.func49 rfl Tryz.ntmps49 (by kernel_rfl) rfl rfl rfl fun Γ hn=>?_
 unfold K7 at h
 refine j4.snoc ?_
 refine j6 hn ?_
 refine u7 (fun hl1=>?_)
 obtain ⟨o6,h7,h⟩:=j5 h
 refine jk (ι:={ s // o6=s }) hn (fun s=>[]) (fun s=>[(1016,.box [.str s.1] 9)]) [(1,_)] [(2000,_)] (fun _ A0 _ _=>?_) ?_
 ·refine j4.blkQ fun _ _ E1 _ _=>?_
  refine lq (ι:={ q:((List Int)×Nat×ByteArray) // q.1=a0.drop q.2.1∧N9 N q.1 q.2.1 q.2.2=some o6 }) hn (fun q=>[(7,.int (q.1.2.1:Int))]) (fun q=>[(1016,.box [.str q.1.2.2] 9)]) (fun q=>q.1.1.length) [(1,_),(5,_),(6,_)] [(2000,_)] ⟨(a0,0,b0),rfl,h7⟩ [] ?_
  rintro ⟨⟨rest_,k2,v3⟩,hd9,h7⟩ _ A2 X2 _
  replace hd9:rest_=a0.drop k2:=hd9
  rcases rest_ with _|⟨x11,rest8⟩
  ·have hlt13:=G6 hd9
   replace h7:=(N9.eq_1 _ _ _).symm.trans h7
   refine j6 hn ?_
   refine j4.seqQ fun _ _ X3 _=>?_
   refine l7 hn ?_
   refine d9 hlt13 ?_
   refine H8 hn ?_
   refine X3 _ _ _ ?_
   refine X2 _ _ _ ?_
   refine E1 _ _ ?_
   refine A0 _ _ ?_
   exact jn ⟨_,sj h7⟩ []
  ·obtain ⟨hx12,hd2,hlt13⟩:=z8 hd9
   replace h7:=(N9.eq_2 _ _ _ _ _).symm.trans h7
   refine j6 hn ?_
   refine j4.seqQ fun _ A4 _ _=>?_
   refine l7 hn ?_
   refine j3 hlt13 ?_
   refine l9 hn ?_
   refine A4 _ _ ?_
   refine j4.seqQ fun _ A5 _ _=>?_
   refine j4.blkQ fun _ A6 _ _ _=>?_
   refine j6 hn ?_
   refine U9 hx12 ?_
   refine god hn (by kernel_rfl) ?_
   obtain ⟨r14,hr15,h7⟩:=j5 h7
   show l6 Tryz.prog _ _ _ _
   refine cA (aI5 N x11 r14 hr15) ?_
   obtain ⟨hg16,h7⟩:=F6 h7
   refine aT0 hg16 ?_
   obtain ⟨hg17,h7⟩:=F6 h7
   refine aT0 hg17 ?_
   refine A6 _ _ ?_
   refine A5 _ _ ?_
   refine p9 hn ?_
   refine Or.inl (And.intro (U0 hx12 hl1) ?_)
   refine A2 _ _ ?_
   exact jn ⟨(rest8,k2+1,((v3++r14)++(⟨#[32]⟩:ByteArray))),hd2,h7⟩ [] (by show rest8.length < rest8.length+1; omega)
 rintro ⟨v5,hv_⟩
 replace hv_:=hv_.symm
 subst hv_
 refine Y3.done ?_
 obtain rfl:=Option.some.inj h
 exact ⟨[],_,fm⟩

/- qcref1.Text -/
set_option maxRecDepth 100000 in
set_option maxHeartbeats 8000000 in
theorem bR4 (N:Nat) (a0:Wd) (r:ByteArray) (h:aM3 N a0=some r):Spec Tryz.prog 23 [(2000,GL)] [.agg (eWd a0)] (.str r) [(2000,GL)] []:=by
 refine Spec.of F3 Tryz.func23 rfl Tryz.ntmps23 (by kernel_rfl) rfl rfl rfl fun Γ hn=>?_
 unfold aM3 at h
 refine j6 hn ?_
 refine j6 hn ?_
 refine j6 hn ?_
 refine j6 hn ?_
 refine u7 (fun _=>?_)
 refine Exists.intro (List.map F7 [a0.epoch,(a0.classes.length:Int)]) (And.intro (by repeat (first|exact trivial|exact rfl|(refine And.intro ?_ ?_))) ?_)
 obtain ⟨r2,hr3,h⟩:=j5 h
 show l6 Tryz.prog _ _ _ _
 refine cF ((U8 N [a0.epoch,(a0.classes.length:Int)] (⟨#[]⟩:ByteArray) r2 hr3).sw 1016 3) ?_
 refine j4.seqQ fun _ A0 _ _=>?_
 refine j6 hn ?_
 refine u7 (fun hl4=>?_)
 obtain ⟨o9,h10,h⟩:=j5 h
 refine jk (ι:={ s // o9=s }) hn (fun s=>[]) (fun s=>[(3,.box [.str s.1] 9)]) [(1,_),(3,_),(4,_)] [(1,_),(2000,_)] (fun _ A1 _ _=>?_) ?_
 ·refine j4.blkQ fun _ _ E2 _ _=>?_
  refine lq (ι:={ q:((List Cl)×Nat×ByteArray) // q.1=a0.classes.drop q.2.1∧Q8 N q.1 q.2.1 q.2.2=some o9 }) hn (fun q=>[(27,.int (q.1.2.1:Int))]) (fun q=>[(3,.box [.str q.1.2.2] 9)]) (fun q=>q.1.1.length) [(1,_),(3,_),(4,_),(25,_),(26,_)] [(1,_),(2000,_)] ⟨(a0.classes,0,r2),rfl,h10⟩ [] ?_
  rintro ⟨⟨rest_,k5,v6⟩,hd12,h10⟩ _ A3 X3 _
  replace hd12:rest_=a0.classes.drop k5:=hd12
  rcases rest_ with _|⟨x14,rest11⟩
  ·have hlt16:=G6 hd12
   replace h10:=(Q8.eq_1 _ _ _).symm.trans h10
   refine j6 hn ?_
   refine j4.seqQ fun _ _ X4 _=>?_
   refine l7 hn ?_
   refine d9 hlt16 ?_
   refine H8 hn ?_
   refine X4 _ _ _ ?_
   refine X3 _ _ _ ?_
   refine E2 _ _ ?_
   refine A1 _ _ ?_
   exact jn ⟨_,sj h10⟩ []
  ·obtain ⟨hx15,hd2,hlt16⟩:=z8 hd12
   replace h10:=(Q8.eq_2 _ _ _ _ _).symm.trans h10
   refine j6 hn ?_
   refine j4.seqQ fun _ A5 _ _=>?_
   refine l7 hn ?_
   refine j3 hlt16 ?_
   refine l9 hn ?_
   refine A5 _ _ ?_
   refine j4.seqQ fun _ A6 _ _=>?_
   refine j4.blkQ fun _ A7 _ _ _=>?_
   refine j6 hn ?_
   refine U9 hx15 ?_
   refine j6 hn ?_
   obtain ⟨hg17,h10⟩:=F6 h10
   refine aT0 hg17 ?_
   obtain ⟨hg18,h10⟩:=F6 h10
   refine aT0 hg18 ?_
   refine j6 hn ?_
   refine u7 (fun _=>?_)
   refine Exists.intro (List.map F7 [x14.super,x14.slots,(x14.methods.length:Int)]) (And.intro (by repeat (first|exact trivial|exact rfl|(refine And.intro ?_ ?_))) ?_)
   obtain ⟨r20,hr21,h10⟩:=j5 h10
   show l6 Tryz.prog _ _ _ _
   refine cF ((U8 N [x14.super,x14.slots,(x14.methods.length:Int)] ((v6++x14.name)++(⟨#[32]⟩:ByteArray)) r20 hr21).sw 1016 3) ?_
   refine kp [(1,_),(3,_),(4,_),(6,_),(25,_),(26,_),(27,_)] [(1,_),(3,_),(6,_),(2000,_)] ?_
   refine j6 hn ?_
   refine u7 (fun hl22=>?_)
   obtain ⟨o27,h28,h10⟩:=j5 h10
   refine jk (ι:={ s // o27=s }) hn (fun s=>[]) (fun s=>[(3,.box [.str s.1] 9)]) [(1,_),(3,_),(4,_),(25,_),(26,_),(27,_)] [(1,_),(2000,_)] (fun _ A8 _ _=>?_) ?_
   ·refine j4.blkQ fun _ _ E9 _ _=>?_
    refine lq (ι:={ q:((List Me)×Nat×ByteArray) // q.1=x14.methods.drop q.2.1∧O4 N q.1 q.2.1 q.2.2=some o27 }) hn (fun q=>[(49,.int (q.1.2.1:Int))]) (fun q=>[(3,.box [.str q.1.2.2] 9)]) (fun q=>q.1.1.length) [(1,_),(3,_),(4,_),(25,_),(26,_),(27,_),(47,_),(48,_)] [(1,_),(2000,_)] ⟨(x14.methods,0,r20),rfl,h28⟩ [] ?_
    rintro ⟨⟨rest_,k23,v24⟩,hd30,h28⟩ _ A10 X10 _
    replace hd30:rest_=x14.methods.drop k23:=hd30
    rcases rest_ with _|⟨x32,rest29⟩
    ·have hlt34:=G6 hd30
     replace h28:=(O4.eq_1 _ _ _).symm.trans h28
     refine j6 hn ?_
     refine j4.seqQ fun _ _ X11 _=>?_
     refine l7 hn ?_
     refine d9 hlt34 ?_
     refine H8 hn ?_
     refine X11 _ _ _ ?_
     refine X10 _ _ _ ?_
     refine E9 _ _ ?_
     refine A8 _ _ ?_
     exact jn ⟨_,sj h28⟩ []
    ·obtain ⟨hx33,hd2,hlt34⟩:=z8 hd30
     replace h28:=(O4.eq_2 _ _ _ _ _).symm.trans h28
     refine j6 hn ?_
     refine j4.seqQ fun _ A12 _ _=>?_
     refine l7 hn ?_
     refine j3 hlt34 ?_
     refine l9 hn ?_
     refine A12 _ _ ?_
     refine j4.seqQ fun _ A13 _ _=>?_
     refine j4.blkQ fun _ A14 _ _ _=>?_
     refine j6 hn ?_
     refine U9 hx33 ?_
     refine j6 hn ?_
     obtain ⟨hg35,h28⟩:=F6 h28
     refine aT0 hg35 ?_
     obtain ⟨hg36,h28⟩:=F6 h28
     refine aT0 hg36 ?_
     refine kp [(1,_),(3,_),(4,_),(8,_),(25,_),(26,_),(27,_),(47,_),(48,_),(49,_)] [(1,_),(3,_),(8,_),(2000,_)] ?_
     refine j6 hn ?_
     refine u7 (fun _=>?_)
     refine Exists.intro (List.map F7 [x32.args,x32.temps,x32.prim,(x32.code.length:Int)]) (And.intro (by repeat (first|exact trivial|exact rfl|(refine And.intro ?_ ?_))) ?_)
     obtain ⟨r38,hr39,h28⟩:=j5 h28
     show l6 Tryz.prog _ _ _ _
     refine cF ((U8 N [x32.args,x32.temps,x32.prim,(x32.code.length:Int)] ((v24++x32.name)++(⟨#[32]⟩:ByteArray)) r38 hr39).sw 1016 3) ?_
     refine kp [(1,_),(3,_),(4,_),(8,_),(25,_),(26,_),(27,_),(47,_),(48,_),(49,_)] [(1,_),(3,_),(8,_),(2000,_)] ?_
     refine j6 hn ?_
     refine u7 (fun hl40=>?_)
     obtain ⟨o45,h46,h28⟩:=j5 h28
     refine jk (ι:={ s // o45=s }) hn (fun s=>[]) (fun s=>[(3,.box [.str s.1] 9)]) [(1,_),(3,_),(4,_),(25,_),(26,_),(27,_),(47,_),(48,_),(49,_)] [(1,_),(2000,_)] (fun _ A15 _ _=>?_) ?_
     ·refine j4.blkQ fun _ _ E16 _ _=>?_
      refine lq (ι:={ q:((List Ins)×Nat×ByteArray) // q.1=x32.code.drop q.2.1∧Q9 N q.1 q.2.1 q.2.2=some o45 }) hn (fun q=>[(73,.int (q.1.2.1:Int))]) (fun q=>[(3,.box [.str q.1.2.2] 9)]) (fun q=>q.1.1.length) [(1,_),(3,_),(4,_),(25,_),(26,_),(27,_),(47,_),(48,_),(49,_),(71,_),(72,_)] [(1,_),(2000,_)] ⟨(x32.code,0,r38),rfl,h46⟩ [] ?_
      rintro ⟨⟨rest_,k41,v42⟩,hd48,h46⟩ _ A17 X17 _
      replace hd48:rest_=x32.code.drop k41:=hd48
      rcases rest_ with _|⟨x50,rest47⟩
      ·have hlt52:=G6 hd48
       replace h46:=(Q9.eq_1 _ _ _).symm.trans h46
       refine j6 hn ?_
       refine j4.seqQ fun _ _ X18 _=>?_
       refine l7 hn ?_
       refine d9 hlt52 ?_
       refine H8 hn ?_
       refine X18 _ _ _ ?_
       refine X17 _ _ _ ?_
       refine E16 _ _ ?_
       refine A15 _ _ ?_
       exact jn ⟨_,sj h46⟩ []
      ·obtain ⟨hx51,hd2,hlt52⟩:=z8 hd48
       replace h46:=(Q9.eq_2 _ _ _ _ _).symm.trans h46
       refine j6 hn ?_
       refine j4.seqQ fun _ A19 _ _=>?_
       refine l7 hn ?_
       refine j3 hlt52 ?_
       refine l9 hn ?_
       refine A19 _ _ ?_
       refine j4.seqQ fun _ A20 _ _=>?_
       obtain ⟨o55,h54,h46⟩:=j5 h46
       refine jk (ι:={ s // o55=s }) hn (fun s=>[]) (fun s=>[(3,.box [.str s.1] 9)]) [(1,_),(3,_),(4,_),(25,_),(26,_),(27,_),(47,_),(48,_),(49,_),(71,_),(72,_),(73,_)] [(1,_),(2000,_)] (fun _ A21 _ _=>?_) ?_
       ·refine j4.blkQ fun _ A22 _ _ _=>?_
        refine j6 hn ?_
        refine U9 hx51 ?_
        refine j6 hn ?_
        refine Exists.intro (List.map F7 [x50.op,x50.a]) (And.intro (by repeat (first|exact trivial|exact rfl|(refine And.intro ?_ ?_))) ?_)
        obtain ⟨r56,hr57,h54⟩:=j5 h54
        show l6 Tryz.prog _ _ _ _
        refine cF ((U8 N [x50.op,x50.a] v42 r56 hr57).sw 1016 3) ?_
        refine kp [(1,_),(3,_),(4,_),(10,_),(25,_),(26,_),(27,_),(47,_),(48,_),(49,_),(71,_),(72,_),(73,_)] [(1,_),(3,_),(10,_),(2000,_)] ?_
        refine j6 hn ?_
        obtain ⟨o60,h59,h54⟩:=j5 h54
        refine jk (ι:={ s // o60=s }) hn (fun s=>[]) (fun s=>[(3,.box [.str s.1] 9)]) [(1,_),(3,_),(4,_),(25,_),(26,_),(27,_),(47,_),(48,_),(49,_),(71,_),(72,_),(73,_)] [(1,_),(2000,_)] (fun _ A23 _ _=>?_) ?_
        ·refine l7 hn ?_
         refine l5 h59 (fun hb61 h59=>?_) (fun hb61 h59=>?_)
         ·refine p9 hn ?_
          obtain ⟨hg62,h59⟩:=F6 h59
          refine aT0 hg62 ?_
          obtain ⟨hg63,h59⟩:=F6 h59
          refine aT0 hg63 ?_
          refine A23 _ _ ?_
          exact jn ⟨_,sj h59⟩ []
         refine l9 hn ?_
         refine A23 _ _ ?_
         exact jn ⟨_,sj h59⟩ []
        rintro ⟨v58,hv_⟩
        replace hv_:=hv_.symm
        subst hv_
        refine A22 _ _ ?_
        refine A21 _ _ ?_
        exact jn ⟨_,sj h54⟩ []
       rintro ⟨v53,hv_⟩
       replace hv_:=hv_.symm
       subst hv_
       refine A20 _ _ ?_
       refine p9 hn ?_
       refine Or.inl (And.intro (U0 hx51 hl40) ?_)
       refine A17 _ _ ?_
       exact jn ⟨(rest47,k41+1,v53),hd2,h46⟩ [] (by show rest47.length < rest47.length+1; omega)
     rintro ⟨v44,hv_⟩
     replace hv_:=hv_.symm
     subst hv_
     refine A14 _ _ ?_
     refine A13 _ _ ?_
     refine p9 hn ?_
     refine Or.inl (And.intro (U0 hx33 hl22) ?_)
     refine A10 _ _ ?_
     exact jn ⟨(rest29,k23+1,v44),hd2,h28⟩ [] (by show rest29.length < rest29.length+1; omega)
   rintro ⟨v26,hv_⟩
   replace hv_:=hv_.symm
   subst hv_
   refine A7 _ _ ?_
   refine A6 _ _ ?_
   refine p9 hn ?_
   refine Or.inl (And.intro (U0 hx15 hl4) ?_)
   refine A3 _ _ ?_
   exact jn ⟨(rest11,k5+1,v26),hd2,h10⟩ [] (by show rest11.length < rest11.length+1; omega)
 rintro ⟨v8,hv_⟩
 replace hv_:=hv_.symm
 subst hv_
 refine A0 _ _ ?_
 refine j6 hn ?_
 refine u7 (fun _=>?_)
 refine Exists.intro (List.map F7 [(a0.heap.length:Int)]) (And.intro (by repeat (first|exact trivial|exact rfl|(refine And.intro ?_ ?_))) ?_)
 obtain ⟨r65,hr66,h⟩:=j5 h
 show l6 Tryz.prog _ _ _ _
 refine cF ((U8 N [(a0.heap.length:Int)] v8 r65 hr66).sw 1016 3) ?_
 refine j4.seqQ fun _ A24 _ _=>?_
 refine j6 hn ?_
 refine u7 (fun hl67=>?_)
 obtain ⟨o72,h73,h⟩:=j5 h
 refine jk (ι:={ s // o72=s }) hn (fun s=>[]) (fun s=>[(3,.box [.str s.1] 9)]) [(3,_)] [(2000,_)] (fun _ A25 _ _=>?_) ?_
 ·refine j4.blkQ fun _ _ E26 _ _=>?_
  refine lq (ι:={ q:((List Ob)×Nat×ByteArray) // q.1=a0.heap.drop q.2.1∧V4 N q.1 q.2.1 q.2.2=some o72 }) hn (fun q=>[(104,.int (q.1.2.1:Int))]) (fun q=>[(3,.box [.str q.1.2.2] 9)]) (fun q=>q.1.1.length) [(3,_),(4,_),(102,_),(103,_)] [(2000,_)] ⟨(a0.heap,0,r65),rfl,h73⟩ [] ?_
  rintro ⟨⟨rest_,k68,v69⟩,hd75,h73⟩ _ A27 X27 _
  replace hd75:rest_=a0.heap.drop k68:=hd75
  rcases rest_ with _|⟨x77,rest74⟩
  ·have hlt79:=G6 hd75
   replace h73:=(V4.eq_1 _ _ _).symm.trans h73
   refine j6 hn ?_
   refine j4.seqQ fun _ _ X28 _=>?_
   refine l7 hn ?_
   refine d9 hlt79 ?_
   refine H8 hn ?_
   refine X28 _ _ _ ?_
   refine X27 _ _ _ ?_
   refine E26 _ _ ?_
   refine A25 _ _ ?_
   exact jn ⟨_,sj h73⟩ []
  ·obtain ⟨hx78,hd2,hlt79⟩:=z8 hd75
   replace h73:=(V4.eq_2 _ _ _ _ _).symm.trans h73
   refine j6 hn ?_
   refine j4.seqQ fun _ A29 _ _=>?_
   refine l7 hn ?_
   refine j3 hlt79 ?_
   refine l9 hn ?_
   refine A29 _ _ ?_
   refine j4.seqQ fun _ A30 _ _=>?_
   refine j4.blkQ fun _ A31 _ _ _=>?_
   refine j6 hn ?_
   refine U9 hx78 ?_
   refine j6 hn ?_
   refine u7 (fun _=>?_)
   refine Exists.intro (List.map F7 [x77.cls,(x77.slots.length:Int)]) (And.intro (by repeat (first|exact trivial|exact rfl|(refine And.intro ?_ ?_))) ?_)
   obtain ⟨r81,hr82,h73⟩:=j5 h73
   show l6 Tryz.prog _ _ _ _
   refine cF ((U8 N [x77.cls,(x77.slots.length:Int)] v69 r81 hr82).sw 1016 3) ?_
   refine kp [(3,_),(4,_),(12,_),(102,_),(103,_),(104,_)] [(3,_),(12,_),(2000,_)] ?_
   refine j6 hn ?_
   refine u7 (fun hl83=>?_)
   obtain ⟨o88,h89,h73⟩:=j5 h73
   refine jk (ι:={ s // o88=s }) hn (fun s=>[]) (fun s=>[(3,.box [.str s.1] 9)]) [(3,_),(4,_),(102,_),(103,_),(104,_)] [(2000,_)] (fun _ A32 _ _=>?_) ?_
   ·refine j4.blkQ fun _ _ E33 _ _=>?_
    refine lq (ι:={ q:((List V)×Nat×ByteArray) // q.1=x77.slots.drop q.2.1∧V5 N q.1 q.2.1 q.2.2=some o88 }) hn (fun q=>[(119,.int (q.1.2.1:Int))]) (fun q=>[(3,.box [.str q.1.2.2] 9)]) (fun q=>q.1.1.length) [(3,_),(4,_),(102,_),(103,_),(104,_),(117,_),(118,_)] [(2000,_)] ⟨(x77.slots,0,r81),rfl,h89⟩ [] ?_
    rintro ⟨⟨rest_,k84,v85⟩,hd91,h89⟩ _ A34 X34 _
    replace hd91:rest_=x77.slots.drop k84:=hd91
    rcases rest_ with _|⟨x93,rest90⟩
    ·have hlt95:=G6 hd91
     replace h89:=(V5.eq_1 _ _ _).symm.trans h89
     refine j6 hn ?_
     refine j4.seqQ fun _ _ X35 _=>?_
     refine l7 hn ?_
     refine d9 hlt95 ?_
     refine H8 hn ?_
     refine X35 _ _ _ ?_
     refine X34 _ _ _ ?_
     refine E33 _ _ ?_
     refine A32 _ _ ?_
     exact jn ⟨_,sj h89⟩ []
    ·obtain ⟨hx94,hd2,hlt95⟩:=z8 hd91
     replace h89:=(V5.eq_2 _ _ _ _ _).symm.trans h89
     refine j6 hn ?_
     refine j4.seqQ fun _ A36 _ _=>?_
     refine l7 hn ?_
     refine j3 hlt95 ?_
     refine l9 hn ?_
     refine A36 _ _ ?_
     refine j4.seqQ fun _ A37 _ _=>?_
     refine j4.blkQ fun _ A38 _ _ _=>?_
     refine j6 hn ?_
     refine U9 hx94 ?_
     refine p9 hn ?_
     refine Exists.intro (List.map F7 [x93.k,x93.n]) (And.intro (by repeat (first|exact trivial|exact rfl|(refine And.intro ?_ ?_))) ?_)
     obtain ⟨r96,hr97,h89⟩:=j5 h89
     show l6 Tryz.prog _ _ _ _
     refine cF ((U8 N [x93.k,x93.n] v85 r96 hr97).sw 1016 3) ?_
     refine A38 _ _ ?_
     refine A37 _ _ ?_
     refine kp [(3,_),(4,_),(102,_),(103,_),(104,_),(117,_),(118,_),(119,_)] [(3,_),(2000,_)] ?_
     refine p9 hn ?_
     refine Or.inl (And.intro (U0 hx94 hl83) ?_)
     refine A34 _ _ ?_
     exact jn ⟨(rest90,k84+1,r96),hd2,h89⟩ [] (by show rest90.length < rest90.length+1; omega)
   rintro ⟨v87,hv_⟩
   replace hv_:=hv_.symm
   subst hv_
   refine A31 _ _ ?_
   refine A30 _ _ ?_
   refine p9 hn ?_
   refine Or.inl (And.intro (U0 hx78 hl67) ?_)
   refine A27 _ _ ?_
   exact jn ⟨(rest74,k68+1,v87),hd2,h73⟩ [] (by show rest74.length < rest74.length+1; omega)
 rintro ⟨v71,hv_⟩
 replace hv_:=hv_.symm
 subst hv_
 refine A24 _ _ ?_
 refine j6 hn ?_
 refine got hn ?_
 obtain rfl:=Option.some.inj h
 exact ⟨[],_,fm⟩

/- qcref1.Words -/
set_option maxRecDepth 100000 in
set_option maxHeartbeats 8000000 in
theorem bO2 (N:Nat) (a0:ByteArray) (r:((List ByteArray)×Bool)) (h:aD9 N a0=some r):Spec Tryz.prog 52 [] [.str a0] (.tup [.own 0,.bool r.2]) [(0,.row 1 (List.map aT3 r.1) 9)] [0]:=by
 refine Spec.of F3 Tryz.func52 rfl Tryz.ntmps52 (by kernel_rfl) rfl rfl rfl fun Γ hn=>?_
 unfold aD9 at h
 refine j6 hn ?_
 refine j6 hn ?_
 refine j6 hn ?_
 refine j4.seqQ fun _ A0 _ R0=>?_
 refine j6 hn ?_
 intro _
 refine j4.nilrow 4 204 1 9 rfl rfl rfl ?_
 refine j4.rng 8 rfl (fun hrn2=>?_)
 obtain ⟨o9,h10,h⟩:=j5 h
 refine jk (ι:={ s // o9=C9.next s }) hn (fun s=>[(5,.str s.1.2)]) (fun s=>[(204,.row 1 (List.map aT3 s.1.1) 9)]) [(4,_)] [] (fun _ A1 _ R1=>?_) ?_
 ·refine j4.blkQ fun _ _ E2 _ R2=>?_
  refine lq (ι:={ q:(Nat×Nat×(List ByteArray)×ByteArray) // q.1=((a0.size:Int) - (q.2.1:Int)).toNat∧L8 N a0 q.1 q.2.1 q.2.2.1 q.2.2.2=some o9 }) hn (fun q=>[(5,.str q.1.2.2.2),(9,.int (q.1.2.1:Int))]) (fun q=>[(204,.row 1 (List.map aT3 q.1.2.2.1) 9)]) (fun q=>q.1.1) [(0,_),(4,_),(8,_)] [] ⟨(((a0.size:Int) - ((0:Nat):Int)).toNat,0,([]:List ByteArray),(⟨#[]⟩:ByteArray)),rfl,h10⟩ [] ?_
  rintro ⟨⟨n_,k2,v3,v4⟩,hd12,h10⟩ _ A3 X3 R3
  replace hd12:n_=((a0.size:Int) - (k2:Int)).toNat:=hd12
  rcases n_ with _|n13
  ·have hlt16:=aH2 hd12
   replace h10:=(L8.eq_1 _ _ _ _ _).symm.trans h10
   refine j6 hn ?_
   refine j4.seqQ fun _ _ X4 _=>?_
   refine l7 hn ?_
   refine d9 hlt16 ?_
   refine H8 hn ?_
   refine X4 _ _ _ ?_
   refine X3 _ _ _ ?_
   refine E2 _ _ ?_
   refine A1 _ _ ?_
   exact jn ⟨_,sj h10⟩ []
  ·obtain ⟨hd2,hlt16⟩:=aE5 hd12
   replace h10:=(L8.eq_2 _ _ _ _ _ _).symm.trans h10
   refine j6 hn ?_
   refine j4.seqQ fun _ A5 _ _=>?_
   refine l7 hn ?_
   refine j3 hlt16 ?_
   refine l9 hn ?_
   refine A5 _ _ ?_
   refine j4.seqQ fun _ A6 _ R6=>?_
   obtain ⟨o20,h19,h10⟩:=j5 h10
   refine jk (ι:={ s // o20=C9.next s }) hn (fun s=>[(5,.str s.1.2)]) (fun s=>[(204,.row 1 (List.map aT3 s.1.1) 9)]) [(0,_),(4,_),(8,_),(9,_)] [] (fun _ A7 _ R7=>?_) ?_
   ·refine j4.blkQ fun _ A8 E8 _ R8=>?_
    refine j6 hn ?_
    refine j4.seqQ fun _ A9 X9 _=>?_
    refine j6 hn ?_
    obtain ⟨u21,hx22,h19⟩:=j5 h19
    refine byM hx22 ?_
    refine And.intro rfl ?_
    refine l7 hn ?_
    refine l5 h19 (fun hb23 h19=>?_) (fun hb23 h19=>?_)
    ·refine j6 hn ?_
     refine Or.inl (And.intro (aL4 hlt16 hrn2) ?_)
     obtain ⟨hg24,h19⟩:=F6 h19
     refine cZ6 hg24 rfl ?_
     obtain ⟨hg25,h19⟩:=F6 h19
     refine aT0 hg25 ?_
     refine H8 hn ?_
     refine X9 _ _ _ ?_
     refine E8 _ _ ?_
     refine A7 _ _ ?_
     exact jn ⟨_,sj h19⟩ []
    refine l9 hn ?_
    refine A9 _ _ ?_
    refine j4.seqQ fun _ A10 _ R10=>?_
    refine j6 hn ?_
    refine l7 hn ?_
    refine l5 h19 (fun hb26 h19=>?_) (fun hb26 h19=>?_)
    ·refine j6 hn ?_
     refine j4.nilrow 2 202 1 9 rfl rfl rfl ?_
     refine got hn ?_
     refine R10 _ _ ?_
     refine R8 _ _ ?_
     refine R7 _ _ ?_
     refine R6 _ _ ?_
     refine R3 _ _ ?_
     refine R2 _ _ ?_
     refine R1 _ _ ?_
     refine R0 _ _ ?_
     obtain rfl:=Option.some.inj h19
     obtain rfl:=Option.some.inj h10
     obtain rfl:=Option.some.inj h
     exact ⟨[(0,202)],_,fm⟩
    refine l9 hn ?_
    refine A10 _ _ ?_
    refine j6 hn ?_
    refine Exists.intro (List.map aT3 [v4]) (And.intro (by repeat (first|exact trivial|exact rfl|(refine And.intro ?_ ?_))) ?_)
    obtain ⟨hg27,h19⟩:=F6 h19
    refine aJ7 (l2:=[v4]) hg27 (H7 _) ?_
    refine kp [(0,_),(4,_),(8,_),(9,_)] [(28,_)] ?_
    refine p9 hn ?_
    refine A8 _ _ ?_
    refine A7 _ _ ?_
    exact jn ⟨_,sj h19⟩ [(204,28)]
   rintro ⟨⟨v17,v18⟩,rfl⟩
   refine A6 _ _ ?_
   refine p9 hn ?_
   refine Or.inl (And.intro (aL4 hlt16 hrn2) ?_)
   refine A3 _ _ ?_
   exact jn ⟨(n13,k2+1,v17,v18),hd2,h10⟩ [] (by show n13 < n13+1; omega)
 rintro ⟨⟨v7,v8⟩,rfl⟩
 refine A0 _ _ ?_
 refine j6 hn ?_
 refine got hn ?_
 obtain rfl:=Option.some.inj h
 exact ⟨[(0,204)],_,fm⟩

/- (*qcref1.Rd).W -/
set_option maxRecDepth 100000 in
set_option maxHeartbeats 8000000 in
theorem aK7 (N:Nat) (a0:H9) (r:(ByteArray×H9)) (h:N8 N a0=some r):Spec Tryz.prog 55 [(1000,.box (aI2 a0) 113)] [.ptr 1000 0] (.str r.1) [(1000,.box (aI2 r.2) 113)] []:=by
 refine Spec.of F3 Tryz.func55 rfl Tryz.ntmps55 (by kernel_rfl) rfl rfl rfl fun Γ hn=>?_
 unfold N8 at h
 refine j6 hn ?_
 refine j4.seqQ fun _ A0 _ R0=>?_
 refine j6 hn ?_
 refine u7 (fun _=>?_)
 refine l7 hn ?_
 refine l5 h (fun hb2 h=>?_) (fun hb2 h=>?_)
 ·refine j6 hn ?_
  refine j6 hn ?_
  refine got hn ?_
  refine R0 _ _ ?_
  obtain rfl:=Option.some.inj h
  exact ⟨[],_,fm⟩
 refine l9 hn ?_
 refine A0 _ _ ?_
 refine j6 hn ?_
 obtain ⟨x3,hx4,h⟩:=j5 h
 refine W9 hx4 ?_
 refine j6 hn ?_
 obtain ⟨hg5,h⟩:=F6 h
 refine cX7 hg5 rfl rfl ?_
 refine kp [(0,_),(3,_)] [(1000,_)] ?_
 refine j6 hn ?_
 refine got hn ?_
 obtain rfl:=Option.some.inj h
 exact ⟨[],_,fm⟩

/- (*qcref1.Rd).N -/
set_option maxRecDepth 100000 in
set_option maxHeartbeats 8000000 in
theorem K8 (N:Nat) (a0:H9) (r:(Int×H9)) (h:w9 N a0=some r):Spec Tryz.prog 53 [(1000,.box (aI2 a0) 113),(2000,GL)] [.ptr 1000 0] (.int r.1) [(1000,.box (aI2 r.2) 113),(2000,GL)] []:=by
 refine Spec.of F3 Tryz.func53 rfl Tryz.ntmps53 (by kernel_rfl) rfl rfl rfl fun Γ hn=>?_
 unfold w9 at h
 refine j6 hn ?_
 refine j6 hn ?_
 obtain ⟨r1,hr2,h⟩:=j5 h
 show l6 Tryz.prog _ _ _ _
 refine cA (aK7 N a0 r1 hr2) ?_
 refine j6 hn ?_
 obtain ⟨r3,hr4,h⟩:=j5 h
 show l6 Tryz.prog _ _ _ _
 refine cA (strconv_Atoi_ok N r1.1 r3 hr4) ?_
 refine j4.seqQ fun _ A0 _ _=>?_
 refine j4.seqQ fun _ A1 _ _=>?_
 obtain ⟨o7,h6,h⟩:=j5 h
 refine jk (ι:={ s // o7=s }) hn (fun s=>[(20,.bool s.1)]) (fun s=>[]) [(0,_),(4,_)] [(1000,_),(2000,_)] (fun _ A2 _ _=>?_) ?_
 ·refine p9 hn ?_
  refine And.intro rfl ?_
  refine l5 h6 (fun hb8 h6=>?_) (fun hb8 h6=>?_)
  ·refine j3 hb8 ?_
   refine j3 hb8 ?_
   refine j3 hb8 ?_
   refine j3 hb8 ?_
   refine A2 _ _ ?_
   exact jn ⟨_,sj h6⟩ []
  refine d9 hb8 ?_
  obtain ⟨r9,hr10,h6⟩:=j5 h6
  show l6 Tryz.prog _ _ _ _
  refine cA (aI5 N r3.1 r9 hr10) ?_
  refine d9 hb8 ?_
  refine d9 hb8 ?_
  refine d9 hb8 ?_
  refine A2 _ _ ?_
  exact jn ⟨_,sj h6⟩ []
 rintro ⟨v5,hv_⟩
 replace hv_:=hv_.symm
 subst hv_
 refine A1 _ _ ?_
 obtain ⟨o13,h12,h⟩:=j5 h
 refine jk (ι:={ s // o13=s }) hn (fun s=>[]) (fun s=>[(1000,.box (aI2 s.1) 113)]) [(0,_),(4,_)] [(2000,_)] (fun _ A3 _ _=>?_) ?_
 ·refine l7 hn ?_
  refine l5 h12 (fun hb14 h12=>?_) (fun hb14 h12=>?_)
  ·refine p9 hn ?_
   refine A3 _ _ ?_
   exact jn ⟨_,sj h12⟩ []
  refine l9 hn ?_
  refine A3 _ _ ?_
  exact jn ⟨_,sj h12⟩ []
 rintro ⟨v11,hv_⟩
 replace hv_:=hv_.symm
 subst hv_
 refine A0 _ _ ?_
 refine j6 hn ?_
 refine got hn ?_
 obtain rfl:=Option.some.inj h
 exact ⟨[],_,fm⟩

/- (*qcref1.Rd).K -/
set_option maxRecDepth 100000 in
set_option maxHeartbeats 8000000 in
theorem aG6 (N:Nat) (a0:H9) (a1:Int) (r:(Int×H9)) (h:I1 N a0 a1=some r):Spec Tryz.prog 54 [(1000,.box (aI2 a0) 113),(2000,GL)] [.ptr 1000 0,.int a1] (.int r.1) [(1000,.box (aI2 r.2) 113),(2000,GL)] []:=by
 refine Spec.of F3 Tryz.func54 rfl Tryz.ntmps54 (by kernel_rfl) rfl rfl rfl fun Γ hn=>?_
 unfold I1 at h
 refine j6 hn ?_
 refine j6 hn ?_
 obtain ⟨r1,hr2,h⟩:=j5 h
 show l6 Tryz.prog _ _ _ _
 refine cA (K8 N a0 r1 hr2) ?_
 refine j4.seqQ fun _ A0 _ R0=>?_
 refine j4.seqQ fun _ A1 _ _=>?_
 obtain ⟨o5,h4,h⟩:=j5 h
 refine jk (ι:={ s // o5=s }) hn (fun s=>[(21,.bool s.1)]) (fun s=>[]) [(0,_),(5,_)] [(1000,_),(2000,_)] (fun _ A2 _ _=>?_) ?_
 ·refine p9 hn ?_
  refine l5 h4 (fun hb6 h4=>?_) (fun hb6 h4=>?_)
  ·refine j3 hb6 ?_
   refine j3 hb6 ?_
   refine j3 hb6 ?_
   refine A2 _ _ ?_
   exact jn ⟨_,sj h4⟩ []
  refine d9 hb6 ?_
  refine d9 hb6 ?_
  refine d9 hb6 ?_
  refine l5 h4 (fun hb7 h4=>?_) (fun hb7 h4=>?_)
  ·refine j3 hb7 ?_
   refine j3 hb7 ?_
   refine j3 hb7 ?_
   refine j3 hb7 ?_
   refine j3 hb7 ?_
   refine A2 _ _ ?_
   exact jn ⟨_,sj h4⟩ []
  refine d9 hb7 ?_
  refine d9 hb7 ?_
  refine d9 hb7 ?_
  refine d9 hb7 ?_
  refine d9 hb7 ?_
  refine A2 _ _ ?_
  exact jn ⟨_,sj h4⟩ []
 rintro ⟨v3,hv_⟩
 replace hv_:=hv_.symm
 subst hv_
 refine A1 _ _ ?_
 refine l7 hn ?_
 refine l5 h (fun hb8 h=>?_) (fun hb8 h=>?_)
 ·refine j6 hn ?_
  refine j6 hn ?_
  refine got hn ?_
  refine R0 _ _ ?_
  obtain rfl:=Option.some.inj h
  exact ⟨[],_,fm⟩
 refine l9 hn ?_
 refine A0 _ _ ?_
 refine j6 hn ?_
 refine got hn ?_
 obtain rfl:=Option.some.inj h
 exact ⟨[],_,fm⟩

/- qcref1.Parse -/
set_option maxRecDepth 100000 in
set_option maxHeartbeats 8000000 in
theorem bO6 (N:Nat) (a0:(List Int)) (r:(Wd×Int)) (h:aI9 N a0=some r):Spec Tryz.prog 25 [(2000,GL)] [.sl 1 (List.map (eIk .u8) a0)] (.tup [.agg (eWd r.1),.int r.2]) [(2000,GL)] []:=by
 refine Spec.of F3 Tryz.func25 rfl Tryz.ntmps25 (by kernel_rfl) rfl rfl rfl fun Γ hn=>?_
 unfold aI9 at h
 refine j6 hn ?_
 refine j6 hn ?_
 refine Exists.intro a0 (And.intro rfl ?_)
 obtain ⟨r1,hr2,h⟩:=j5 h
 show l6 Tryz.prog _ _ _ _
 refine cA ((bO2 N (strOfNums a0) r1 hr2).sw 0 16) ?_
 refine j4.seqQ fun _ A0 _ R0=>?_
 refine j6 hn ?_
 refine l7 hn ?_
 refine l5 h (fun hb3 h=>?_) (fun hb3 h=>?_)
 ·refine j6 hn ?_
  refine got hn ?_
  refine R0 _ _ ?_
  obtain rfl:=Option.some.inj h
  exact ⟨[],_,fm⟩
 refine l9 hn ?_
 refine A0 _ _ ?_
 refine j6 hn ?_
 refine j4.fzAll 16 rfl ?_
 refine kp [(2,_),(6,_)] [(2,_),(24,_),(2000,_)] ?_
 refine j6 hn ?_
 obtain ⟨r4,hr5,h⟩:=j5 h
 show l6 Tryz.prog _ _ _ _
 refine cA ((K8 N (⟨r1.1,true⟩:H9) r4 hr5).sw 1000 24) ?_
 refine j4.seqQ fun _ A1 _ _=>?_
 refine j6 hn ?_
 obtain ⟨r6,hr7,h⟩:=j5 h
 show l6 Tryz.prog _ _ _ _
 refine cA ((aG6 N r4.2 (12:Int) r6 hr7).sw 1000 24) ?_
 refine j4.nilrowB 7 0 501 4 81 rfl rfl rfl rfl rfl rfl ?_
 refine j4.rng 29 rfl (fun hrn8=>?_)
 obtain ⟨o15,h16,h⟩:=j5 h
 refine jk (ι:={ s // o15=s }) hn (fun s=>[]) (fun s=>[(24,.box (aI2 s.1.1) 113),(501,.row 4 (List.map eCl s.1.2) 81)]) [(2,_),(6,_),(7,_)] [(2,_),(7,_),(2000,_)] (fun _ A2 _ _=>?_) ?_
 ·refine j4.blkQ fun _ _ E3 _ _=>?_
  refine lq (ι:={ q:(Nat×Nat×H9×(List Cl)) // q.1=(r6.1 - (q.2.1:Int)).toNat∧L9 N q.1 q.2.1 q.2.2.1 q.2.2.2=some o15 }) hn (fun q=>[(30,.int (q.1.2.1:Int))]) (fun q=>[(24,.box (aI2 q.1.2.2.1) 113),(501,.row 4 (List.map eCl q.1.2.2.2) 81)]) (fun q=>q.1.1) [(2,_),(6,_),(7,_),(29,_)] [(2,_),(7,_),(2000,_)] ⟨((r6.1 - ((0:Nat):Int)).toNat,0,r6.2,([]:List Cl)),rfl,h16⟩ [] ?_
  rintro ⟨⟨n_,k8,v9,v10⟩,hd18,h16⟩ _ A4 X4 _
  replace hd18:n_=(r6.1 - (k8:Int)).toNat:=hd18
  rcases n_ with _|n19
  ·have hlt22:=aH2 hd18
   replace h16:=(L9.eq_1 _ _ _ _).symm.trans h16
   refine j6 hn ?_
   refine j4.seqQ fun _ _ X5 _=>?_
   refine l7 hn ?_
   refine d9 hlt22 ?_
   refine H8 hn ?_
   refine X5 _ _ _ ?_
   refine X4 _ _ _ ?_
   refine E3 _ _ ?_
   refine A2 _ _ ?_
   exact jn ⟨_,sj h16⟩ []
  ·obtain ⟨hd2,hlt22⟩:=aE5 hd18
   replace h16:=(L9.eq_2 _ _ _ _ _).symm.trans h16
   refine j6 hn ?_
   refine j4.seqQ fun _ A6 _ _=>?_
   refine l7 hn ?_
   refine j3 hlt22 ?_
   refine l9 hn ?_
   refine A6 _ _ ?_
   refine j4.seqQ fun _ A7 _ _=>?_
   refine j4.blkQ fun _ A8 _ _ _=>?_
   refine j6 hn ?_
   obtain ⟨r23,hr24,h16⟩:=j5 h16
   show l6 Tryz.prog _ _ _ _
   refine cA ((aK7 N v9 r23 hr24).sw 1000 24) ?_
   obtain ⟨r25,hr26,h16⟩:=j5 h16
   show l6 Tryz.prog _ _ _ _
   refine cA ((K8 N r23.2 r25 hr26).sw 1000 24) ?_
   obtain ⟨r27,hr28,h16⟩:=j5 h16
   show l6 Tryz.prog _ _ _ _
   refine cA ((K8 N r25.2 r27 hr28).sw 1000 24) ?_
   refine j4.seqQ fun _ A9 _ _=>?_
   refine j6 hn ?_
   obtain ⟨r29,hr30,h16⟩:=j5 h16
   show l6 Tryz.prog _ _ _ _
   refine cA ((aG6 N r27.2 (8:Int) r29 hr30).sw 1000 24) ?_
   refine j4.nilrowB 8 3 502 5 27 rfl rfl rfl rfl rfl rfl ?_
   refine j4.rng 40 rfl (fun hrn31=>?_)
   obtain ⟨o38,h39,h16⟩:=j5 h16
   refine jk (ι:={ s // o38=s }) hn (fun s=>[]) (fun s=>[(24,.box (aI2 s.1.1) 113),(502,.row 5 (List.map Z6 s.1.2) 27)]) [(2,_),(6,_),(7,_),(8,_),(29,_),(30,_)] [(2,_),(7,_),(8,_),(501,_),(2000,_)] (fun _ A10 _ _=>?_) ?_
   ·refine j4.blkQ fun _ _ E11 _ _=>?_
    refine lq (ι:={ q:(Nat×Nat×H9×(List Me)) // q.1=(r29.1 - (q.2.1:Int)).toNat∧M5 N q.1 q.2.1 q.2.2.1 q.2.2.2=some o38 }) hn (fun q=>[(41,.int (q.1.2.1:Int))]) (fun q=>[(24,.box (aI2 q.1.2.2.1) 113),(502,.row 5 (List.map Z6 q.1.2.2.2) 27)]) (fun q=>q.1.1) [(2,_),(6,_),(7,_),(8,_),(29,_),(30,_),(40,_)] [(2,_),(7,_),(8,_),(501,_),(2000,_)] ⟨((r29.1 - ((0:Nat):Int)).toNat,0,r29.2,([]:List Me)),rfl,h39⟩ [] ?_
    rintro ⟨⟨n_,k31,v32,v33⟩,hd41,h39⟩ _ A12 X12 _
    replace hd41:n_=(r29.1 - (k31:Int)).toNat:=hd41
    rcases n_ with _|n42
    ·have hlt45:=aH2 hd41
     replace h39:=(M5.eq_1 _ _ _ _).symm.trans h39
     refine j6 hn ?_
     refine j4.seqQ fun _ _ X13 _=>?_
     refine l7 hn ?_
     refine d9 hlt45 ?_
     refine H8 hn ?_
     refine X13 _ _ _ ?_
     refine X12 _ _ _ ?_
     refine E11 _ _ ?_
     refine A10 _ _ ?_
     exact jn ⟨_,sj h39⟩ []
    ·obtain ⟨hd2,hlt45⟩:=aE5 hd41
     replace h39:=(M5.eq_2 _ _ _ _ _).symm.trans h39
     refine j6 hn ?_
     refine j4.seqQ fun _ A14 _ _=>?_
     refine l7 hn ?_
     refine j3 hlt45 ?_
     refine l9 hn ?_
     refine A14 _ _ ?_
     refine j4.seqQ fun _ A15 _ _=>?_
     refine j4.blkQ fun _ A16 _ _ _=>?_
     refine j6 hn ?_
     obtain ⟨r46,hr47,h39⟩:=j5 h39
     show l6 Tryz.prog _ _ _ _
     refine cA ((aK7 N v32 r46 hr47).sw 1000 24) ?_
     obtain ⟨r48,hr49,h39⟩:=j5 h39
     show l6 Tryz.prog _ _ _ _
     refine cA ((K8 N r46.2 r48 hr49).sw 1000 24) ?_
     obtain ⟨r50,hr51,h39⟩:=j5 h39
     show l6 Tryz.prog _ _ _ _
     refine cA ((K8 N r48.2 r50 hr51).sw 1000 24) ?_
     obtain ⟨r52,hr53,h39⟩:=j5 h39
     show l6 Tryz.prog _ _ _ _
     refine cA ((K8 N r50.2 r52 hr53).sw 1000 24) ?_
     refine j4.seqQ fun _ A17 _ _=>?_
     refine kp [(2,_),(6,_),(7,_),(8,_),(9,_),(29,_),(30,_),(40,_),(41,_)] [(2,_),(7,_),(8,_),(9,_),(24,_),(501,_),(502,_),(2000,_)] ?_
     refine j6 hn ?_
     obtain ⟨r54,hr55,h39⟩:=j5 h39
     show l6 Tryz.prog _ _ _ _
     refine cA ((aG6 N r52.2 (60:Int) r54 hr55).sw 1000 24) ?_
     refine j4.nilrowB 9 4 503 5 55 rfl rfl rfl rfl rfl rfl ?_
     refine j4.rng 53 rfl (fun hrn56=>?_)
     obtain ⟨o63,h64,h39⟩:=j5 h39
     refine jk (ι:={ s // o63=s }) hn (fun s=>[]) (fun s=>[(24,.box (aI2 s.1.1) 113),(503,.row 5 (List.map aG9 s.1.2) 55)]) [(2,_),(6,_),(7,_),(8,_),(9,_),(29,_),(30,_),(40,_),(41,_)] [(2,_),(7,_),(8,_),(9,_),(501,_),(502,_),(2000,_)] (fun _ A18 _ _=>?_) ?_
     ·refine j4.blkQ fun _ _ E19 _ _=>?_
      refine lq (ι:={ q:(Nat×Nat×H9×(List Ins)) // q.1=(r54.1 - (q.2.1:Int)).toNat∧K9 N q.1 q.2.1 q.2.2.1 q.2.2.2=some o63 }) hn (fun q=>[(54,.int (q.1.2.1:Int))]) (fun q=>[(24,.box (aI2 q.1.2.2.1) 113),(503,.row 5 (List.map aG9 q.1.2.2.2) 55)]) (fun q=>q.1.1) [(2,_),(6,_),(7,_),(8,_),(9,_),(29,_),(30,_),(40,_),(41,_),(53,_)] [(2,_),(7,_),(8,_),(9,_),(501,_),(502,_),(2000,_)] ⟨((r54.1 - ((0:Nat):Int)).toNat,0,r54.2,([]:List Ins)),rfl,h64⟩ [] ?_
      rintro ⟨⟨n_,k56,v57,v58⟩,hd66,h64⟩ _ A20 X20 _
      replace hd66:n_=(r54.1 - (k56:Int)).toNat:=hd66
      rcases n_ with _|n67
      ·have hlt70:=aH2 hd66
       replace h64:=(K9.eq_1 _ _ _ _).symm.trans h64
       refine j6 hn ?_
       refine j4.seqQ fun _ _ X21 _=>?_
       refine l7 hn ?_
       refine d9 hlt70 ?_
       refine H8 hn ?_
       refine X21 _ _ _ ?_
       refine X20 _ _ _ ?_
       refine E19 _ _ ?_
       refine A18 _ _ ?_
       exact jn ⟨_,sj h64⟩ []
      ·obtain ⟨hd2,hlt70⟩:=aE5 hd66
       replace h64:=(K9.eq_2 _ _ _ _ _).symm.trans h64
       refine j6 hn ?_
       refine j4.seqQ fun _ A22 _ _=>?_
       refine l7 hn ?_
       refine j3 hlt70 ?_
       refine l9 hn ?_
       refine A22 _ _ ?_
       refine j4.seqQ fun _ A23 _ _=>?_
       refine j4.blkQ fun _ A24 _ _ _=>?_
       refine j6 hn ?_
       obtain ⟨r71,hr72,h64⟩:=j5 h64
       show l6 Tryz.prog _ _ _ _
       refine cA ((K8 N v57 r71 hr72).sw 1000 24) ?_
       obtain ⟨r73,hr74,h64⟩:=j5 h64
       show l6 Tryz.prog _ _ _ _
       refine cA ((K8 N r71.2 r73 hr74).sw 1000 24) ?_
       refine j4.seqQ fun _ A25 _ _=>?_
       refine kp [(2,_),(6,_),(7,_),(8,_),(9,_),(10,_),(29,_),(30,_),(40,_),(41,_),(53,_),(54,_)] [(2,_),(7,_),(8,_),(9,_),(10,_),(24,_),(501,_),(502,_),(503,_),(2000,_)] ?_
       refine j6 hn ?_
       obtain ⟨o78,h77,h64⟩:=j5 h64
       refine jk (ι:={ s // o78=s }) hn (fun s=>[]) (fun s=>[(10,.box [.int r71.1,.int r73.1,.int (0:Int),.int (0:Int),.str s.1.2] 55),(24,.box (aI2 s.1.1) 113)]) [(2,_),(6,_),(7,_),(8,_),(9,_),(10,_),(29,_),(30,_),(40,_),(41,_),(53,_),(54,_)] [(2,_),(7,_),(8,_),(9,_),(501,_),(502,_),(503,_),(2000,_)] (fun _ A26 _ _=>?_) ?_
       ·refine l7 hn ?_
        refine l5 h77 (fun hb79 h77=>?_) (fun hb79 h77=>?_)
        ·refine p9 hn ?_
         obtain ⟨r80,hr81,h77⟩:=j5 h77
         show l6 Tryz.prog _ _ _ _
         refine cA ((aK7 N r73.2 r80 hr81).sw 1000 24) ?_
         refine A26 _ _ ?_
         exact jn ⟨_,sj h77⟩ []
        refine l9 hn ?_
        refine A26 _ _ ?_
        exact jn ⟨_,sj h77⟩ []
       rintro ⟨⟨v75,v76⟩,rfl⟩
       refine A25 _ _ ?_
       refine p9 hn ?_
       refine Exists.intro (List.map aG9 [(⟨r71.1,r73.1,(0:Int),(0:Int),v76⟩:Ins)]) (And.intro (by repeat (first|exact trivial|exact rfl|(refine And.intro ?_ ?_))) ?_)
       obtain ⟨hg82,h64⟩:=F6 h64
       refine aJ7 (l2:=[(⟨r71.1,r73.1,(0:Int),(0:Int),v76⟩:Ins)]) hg82 (H7 _) ?_
       refine A24 _ _ ?_
       refine A23 _ _ ?_
       refine kp [(2,_),(6,_),(7,_),(8,_),(9,_),(29,_),(30,_),(40,_),(41,_),(53,_),(54,_)] [(2,_),(7,_),(8,_),(9,_),(24,_),(71,_),(501,_),(502,_),(2000,_)] ?_
       refine p9 hn ?_
       refine Or.inl (And.intro (aL4 hlt70 hrn56) ?_)
       refine A20 _ _ ?_
       exact jn ⟨(n67,k56+1,v75,(v58++[(⟨r71.1,r73.1,(0:Int),(0:Int),v76⟩:Ins)])),hd2,h64⟩ [(503,71)] (by show n67 < n67+1; omega)
     rintro ⟨⟨v61,v62⟩,rfl⟩
     refine A17 _ _ ?_
     refine p9 hn ?_
     refine Exists.intro (List.map Z6 [(⟨r46.1,r48.1,r50.1,r52.1,v62⟩:Me)]) (And.intro (by repeat (first|exact trivial|exact rfl|(refine And.intro ?_ ?_))) ?_)
     obtain ⟨hg83,h39⟩:=F6 h39
     refine aJ7 (l2:=[(⟨r46.1,r48.1,r50.1,r52.1,v62⟩:Me)]) hg83 (H7 _) ?_
     refine A16 _ _ ?_
     refine A15 _ _ ?_
     refine p9 hn ?_
     refine Or.inl (And.intro (aL4 hlt45 hrn31) ?_)
     refine A12 _ _ ?_
     exact jn ⟨(n42,k31+1,v61,(v33++[(⟨r46.1,r48.1,r50.1,r52.1,v62⟩:Me)])),hd2,h39⟩ [(502,78)] (by show n42 < n42+1; omega)
   rintro ⟨⟨v36,v37⟩,rfl⟩
   refine A9 _ _ ?_
   refine p9 hn ?_
   refine Or.inr ?_
   refine Exists.intro (List.map eCl [(⟨r23.1,r25.1,r27.1,v37⟩:Cl)]) (And.intro (by repeat (first|exact trivial|exact rfl|(refine And.intro ?_ ?_))) ?_)
   obtain ⟨hg84,h16⟩:=F6 h16
   refine aJ7 (l2:=[(⟨r23.1,r25.1,r27.1,v37⟩:Cl)]) hg84 (H7 _) ?_
   refine A8 _ _ ?_
   refine A7 _ _ ?_
   refine p9 hn ?_
   refine Or.inl (And.intro (aL4 hlt22 hrn8) ?_)
   refine A4 _ _ ?_
   exact jn ⟨(n19,k8+1,v36,(v10++[(⟨r23.1,r25.1,r27.1,v37⟩:Cl)])),hd2,h16⟩ [(501,85)] (by show n19 < n19+1; omega)
 rintro ⟨⟨v13,v14⟩,rfl⟩
 refine A1 _ _ ?_
 refine j4.seqQ fun _ A27 _ _=>?_
 refine j6 hn ?_
 obtain ⟨r85,hr86,h⟩:=j5 h
 show l6 Tryz.prog _ _ _ _
 refine cA ((aG6 N v13 (60:Int) r85 hr86).sw 1000 24) ?_
 refine j4.nilrowB 7 1 504 2 92 rfl rfl rfl rfl rfl rfl ?_
 refine j4.rng 89 rfl (fun hrn87=>?_)
 obtain ⟨o94,h95,h⟩:=j5 h
 refine jk (ι:={ s // o94=s }) hn (fun s=>[]) (fun s=>[(24,.box (aI2 s.1.1) 113),(504,.row 2 (List.map eOb s.1.2) 92)]) [(2,_),(6,_),(7,_)] [(2,_),(7,_),(501,_),(2000,_)] (fun _ A28 _ _=>?_) ?_
 ·refine j4.blkQ fun _ _ E29 _ _=>?_
  refine lq (ι:={ q:(Nat×Nat×H9×(List Ob)) // q.1=(r85.1 - (q.2.1:Int)).toNat∧M3 N q.1 q.2.1 q.2.2.1 q.2.2.2=some o94 }) hn (fun q=>[(90,.int (q.1.2.1:Int))]) (fun q=>[(24,.box (aI2 q.1.2.2.1) 113),(504,.row 2 (List.map eOb q.1.2.2.2) 92)]) (fun q=>q.1.1) [(2,_),(6,_),(7,_),(89,_)] [(2,_),(7,_),(501,_),(2000,_)] ⟨((r85.1 - ((0:Nat):Int)).toNat,0,r85.2,([]:List Ob)),rfl,h95⟩ [] ?_
  rintro ⟨⟨n_,k87,v88,v89⟩,hd97,h95⟩ _ A30 X30 _
  replace hd97:n_=(r85.1 - (k87:Int)).toNat:=hd97
  rcases n_ with _|n98
  ·have hlt101:=aH2 hd97
   replace h95:=(M3.eq_1 _ _ _ _).symm.trans h95
   refine j6 hn ?_
   refine j4.seqQ fun _ _ X31 _=>?_
   refine l7 hn ?_
   refine d9 hlt101 ?_
   refine H8 hn ?_
   refine X31 _ _ _ ?_
   refine X30 _ _ _ ?_
   refine E29 _ _ ?_
   refine A28 _ _ ?_
   exact jn ⟨_,sj h95⟩ []
  ·obtain ⟨hd2,hlt101⟩:=aE5 hd97
   replace h95:=(M3.eq_2 _ _ _ _ _).symm.trans h95
   refine j6 hn ?_
   refine j4.seqQ fun _ A32 _ _=>?_
   refine l7 hn ?_
   refine j3 hlt101 ?_
   refine l9 hn ?_
   refine A32 _ _ ?_
   refine j4.seqQ fun _ A33 _ _=>?_
   refine j4.blkQ fun _ A34 _ _ _=>?_
   refine j6 hn ?_
   obtain ⟨r102,hr103,h95⟩:=j5 h95
   show l6 Tryz.prog _ _ _ _
   refine cA ((K8 N v88 r102 hr103).sw 1000 24) ?_
   refine j4.seqQ fun _ A35 _ _=>?_
   refine j6 hn ?_
   obtain ⟨r104,hr105,h95⟩:=j5 h95
   show l6 Tryz.prog _ _ _ _
   refine cA ((aG6 N r102.2 (6:Int) r104 hr105).sw 1000 24) ?_
   refine j4.nilrowB 11 1 505 2 29 rfl rfl rfl rfl rfl rfl ?_
   refine j4.rng 96 rfl (fun hrn106=>?_)
   obtain ⟨o113,h114,h95⟩:=j5 h95
   refine jk (ι:={ s // o113=s }) hn (fun s=>[]) (fun s=>[(24,.box (aI2 s.1.1) 113),(505,.row 2 (List.map eV s.1.2) 29)]) [(2,_),(6,_),(7,_),(11,_),(89,_),(90,_)] [(2,_),(7,_),(11,_),(501,_),(504,_),(2000,_)] (fun _ A36 _ _=>?_) ?_
   ·refine j4.blkQ fun _ _ E37 _ _=>?_
    refine lq (ι:={ q:(Nat×Nat×H9×(List V)) // q.1=(r104.1 - (q.2.1:Int)).toNat∧M0 N q.1 q.2.1 q.2.2.1 q.2.2.2=some o113 }) hn (fun q=>[(97,.int (q.1.2.1:Int))]) (fun q=>[(24,.box (aI2 q.1.2.2.1) 113),(505,.row 2 (List.map eV q.1.2.2.2) 29)]) (fun q=>q.1.1) [(2,_),(6,_),(7,_),(11,_),(89,_),(90,_),(96,_)] [(2,_),(7,_),(11,_),(501,_),(504,_),(2000,_)] ⟨((r104.1 - ((0:Nat):Int)).toNat,0,r104.2,([]:List V)),rfl,h114⟩ [] ?_
    rintro ⟨⟨n_,k106,v107,v108⟩,hd116,h114⟩ _ A38 X38 _
    replace hd116:n_=(r104.1 - (k106:Int)).toNat:=hd116
    rcases n_ with _|n117
    ·have hlt120:=aH2 hd116
     replace h114:=(M0.eq_1 _ _ _ _).symm.trans h114
     refine j6 hn ?_
     refine j4.seqQ fun _ _ X39 _=>?_
     refine l7 hn ?_
     refine d9 hlt120 ?_
     refine H8 hn ?_
     refine X39 _ _ _ ?_
     refine X38 _ _ _ ?_
     refine E37 _ _ ?_
     refine A36 _ _ ?_
     exact jn ⟨_,sj h114⟩ []
    ·obtain ⟨hd2,hlt120⟩:=aE5 hd116
     replace h114:=(M0.eq_2 _ _ _ _ _).symm.trans h114
     refine j6 hn ?_
     refine j4.seqQ fun _ A40 _ _=>?_
     refine l7 hn ?_
     refine j3 hlt120 ?_
     refine l9 hn ?_
     refine A40 _ _ ?_
     refine j4.seqQ fun _ A41 _ _=>?_
     refine j4.blkQ fun _ A42 _ _ _=>?_
     refine god hn (by kernel_rfl) ?_
     obtain ⟨r121,hr122,h114⟩:=j5 h114
     show l6 Tryz.prog _ _ _ _
     refine cA ((K8 N v107 r121 hr122).sw 1000 24) ?_
     obtain ⟨r123,hr124,h114⟩:=j5 h114
     show l6 Tryz.prog _ _ _ _
     refine cA ((K8 N r121.2 r123 hr124).sw 1000 24) ?_
     refine Exists.intro (List.map eV [(⟨r121.1,r123.1⟩:V)]) (And.intro (by repeat (first|exact trivial|exact rfl|(refine And.intro ?_ ?_))) ?_)
     obtain ⟨hg125,h114⟩:=F6 h114
     refine aJ7 (l2:=[(⟨r121.1,r123.1⟩:V)]) hg125 (H7 _) ?_
     refine A42 _ _ ?_
     refine A41 _ _ ?_
     refine kp [(2,_),(6,_),(7,_),(11,_),(89,_),(90,_),(96,_),(97,_)] [(2,_),(7,_),(11,_),(24,_),(107,_),(501,_),(504,_),(2000,_)] ?_
     refine p9 hn ?_
     refine Or.inl (And.intro (aL4 hlt120 hrn106) ?_)
     refine A38 _ _ ?_
     exact jn ⟨(n117,k106+1,r123.2,(v108++[(⟨r121.1,r123.1⟩:V)])),hd2,h114⟩ [(505,107)] (by show n117 < n117+1; omega)
   rintro ⟨⟨v111,v112⟩,rfl⟩
   refine A35 _ _ ?_
   refine p9 hn ?_
   refine Or.inr ?_
   refine Exists.intro (List.map eOb [(⟨r102.1,v112⟩:Ob)]) (And.intro (by repeat (first|exact trivial|exact rfl|(refine And.intro ?_ ?_))) ?_)
   obtain ⟨hg126,h95⟩:=F6 h95
   refine aJ7 (l2:=[(⟨r102.1,v112⟩:Ob)]) hg126 (H7 _) ?_
   refine A34 _ _ ?_
   refine A33 _ _ ?_
   refine p9 hn ?_
   refine Or.inl (And.intro (aL4 hlt101 hrn87) ?_)
   refine A30 _ _ ?_
   exact jn ⟨(n98,k87+1,v111,(v89++[(⟨r102.1,v112⟩:Ob)])),hd2,h95⟩ [(504,114)] (by show n98 < n98+1; omega)
 rintro ⟨⟨v92,v93⟩,rfl⟩
 refine A27 _ _ ?_
 refine j4.seqQ fun _ A43 _ R43=>?_
 refine j4.seqQ fun _ A44 _ _=>?_
 obtain ⟨o129,h128,h⟩:=j5 h
 refine jk (ι:={ s // o129=s }) hn (fun s=>[(129,.bool s.1)]) (fun s=>[]) [(2,_),(7,_)] [(2,_),(7,_),(501,_),(504,_),(2000,_)] (fun _ A45 _ _=>?_) ?_
 ·refine p9 hn ?_
  refine l5 h128 (fun hb130 h128=>?_) (fun hb130 h128=>?_)
  ·refine j3 hb130 ?_
   refine j3 hb130 ?_
   refine j3 hb130 ?_
   refine j3 hb130 ?_
   refine j3 hb130 ?_
   refine j3 hb130 ?_
   refine A45 _ _ ?_
   exact jn ⟨_,sj h128⟩ []
  refine d9 hb130 ?_
  refine d9 hb130 ?_
  refine d9 hb130 ?_
  refine d9 hb130 ?_
  refine u7 (fun _=>?_)
  refine d9 hb130 ?_
  refine d9 hb130 ?_
  refine A45 _ _ ?_
  exact jn ⟨_,sj h128⟩ []
 rintro ⟨v127,hv_⟩
 replace hv_:=hv_.symm
 subst hv_
 refine A44 _ _ ?_
 refine l7 hn ?_
 refine l5 h (fun hb132 h=>?_) (fun hb132 h=>?_)
 ·refine j6 hn ?_
  refine got hn ?_
  refine R43 _ _ ?_
  obtain rfl:=Option.some.inj h
  exact ⟨[],_,fm⟩
 refine l9 hn ?_
 refine A43 _ _ ?_
 refine j4.seqQ fun _ A46 _ R46=>?_
 refine j6 hn ?_
 obtain ⟨r133,hr134,h⟩:=j5 h
 show l6 Tryz.prog _ _ _ _
 refine cL (aP3 N (⟨v14,v93,r4.1⟩:Wd) r133 hr134) ?_
 refine j6 hn ?_
 refine l7 hn ?_
 refine l5 h (fun hb135 h=>?_) (fun hb135 h=>?_)
 ·refine j6 hn ?_
  refine got hn ?_
  refine R46 _ _ ?_
  obtain rfl:=Option.some.inj h
  exact ⟨[],_,fm⟩
 refine l9 hn ?_
 refine A46 _ _ ?_
 refine j6 hn ?_
 refine j4.fzAll 501 rfl ?_
 refine j4.fzAll 504 rfl ?_
 refine got hn ?_
 obtain rfl:=Option.some.inj h
 exact ⟨[],_,fm⟩

/- qcref1.SameCode -/
set_option maxRecDepth 100000 in
set_option maxHeartbeats 8000000 in
theorem bF4 (N:Nat) (a0:(List Ins)) (a1:(List Ins)) (r:Bool) (h:aF3 N a0 a1=some r):Spec Tryz.prog 56 [] [.sl 5 (List.map aG9 a0),.sl 5 (List.map aG9 a1)] (.bool r) [] []:=by
 refine Spec.of F3 Tryz.func56 rfl Tryz.ntmps56 (by kernel_rfl) rfl rfl rfl fun Γ hn=>?_
 unfold aF3 at h
 refine j6 hn ?_
 refine j4.seqQ fun _ A0 _ R0=>?_
 refine j6 hn ?_
 refine u7 (fun _=>?_)
 refine u7 (fun _=>?_)
 refine l7 hn ?_
 refine l5 h (fun hb3 h=>?_) (fun hb3 h=>?_)
 ·refine j6 hn ?_
  refine got hn ?_
  refine R0 _ _ ?_
  obtain rfl:=Option.some.inj h
  exact ⟨[],_,fm⟩
 refine l9 hn ?_
 refine A0 _ _ ?_
 refine j4.seqQ fun _ A1 _ R1=>?_
 refine j6 hn ?_
 refine u7 (fun hl4=>?_)
 obtain ⟨o6,h7,h⟩:=j5 h
 refine jk (ι:={ s // o6=C9.next s }) hn (fun s=>[]) (fun s=>[]) [] [] (fun _ A2 _ R2=>?_) ?_
 ·refine j4.blkQ fun _ _ E3 _ R3=>?_
  refine lq (ι:={ q:((List Ins)×Nat) // q.1=a0.drop q.2∧Q5 N a1 q.1 q.2=some o6 }) hn (fun q=>[(13,.int (q.1.2:Int))]) (fun q=>[]) (fun q=>q.1.1.length) [(0,_),(1,_),(12,_)] [] ⟨(a0,0),rfl,h7⟩ [] ?_
  rintro ⟨⟨rest_,k5⟩,hd9,h7⟩ _ A4 X4 R4
  replace hd9:rest_=a0.drop k5:=hd9
  rcases rest_ with _|⟨x11,rest8⟩
  ·have hlt13:=G6 hd9
   replace h7:=(Q5.eq_1 _ _ _).symm.trans h7
   refine j6 hn ?_
   refine j4.seqQ fun _ _ X5 _=>?_
   refine l7 hn ?_
   refine d9 hlt13 ?_
   refine H8 hn ?_
   refine X5 _ _ _ ?_
   refine X4 _ _ _ ?_
   refine E3 _ _ ?_
   refine A2 _ _ ?_
   exact jn ⟨_,sj h7⟩ []
  ·obtain ⟨hx12,hd2,hlt13⟩:=z8 hd9
   replace h7:=(Q5.eq_2 _ _ _ _ _).symm.trans h7
   refine j6 hn ?_
   refine j4.seqQ fun _ A6 _ _=>?_
   refine l7 hn ?_
   refine j3 hlt13 ?_
   refine l9 hn ?_
   refine A6 _ _ ?_
   refine j4.seqQ fun _ A7 _ R7=>?_
   refine j4.blkQ fun _ A8 _ _ R8=>?_
   refine j6 hn ?_
   refine j4.seqQ fun _ A9 _ _=>?_
   refine god hn (by kernel_rfl) ?_
   refine U9 hx12 ?_
   obtain ⟨x14,hx15,h7⟩:=j5 h7
   refine W9 hx15 ?_
   refine A9 _ _ ?_
   refine l7 hn ?_
   refine l5 h7 (fun hb16 h7=>?_) (fun hb16 h7=>?_)
   ·refine j6 hn ?_
    refine got hn ?_
    refine R8 _ _ ?_
    refine R7 _ _ ?_
    refine R4 _ _ ?_
    refine R3 _ _ ?_
    refine R2 _ _ ?_
    refine R1 _ _ ?_
    obtain rfl:=Option.some.inj h7
    obtain rfl:=Option.some.inj h
    exact ⟨[],_,fm⟩
   refine l9 hn ?_
   refine A8 _ _ ?_
   refine A7 _ _ ?_
   refine p9 hn ?_
   refine Or.inl (And.intro (U0 hx12 hl4) ?_)
   refine A4 _ _ ?_
   exact jn ⟨(rest8,k5+1),hd2,h7⟩ [] (by show rest8.length < rest8.length+1; omega)
 rintro ⟨⟨⟩,rfl⟩
 refine A1 _ _ ?_
 refine j6 hn ?_
 refine got hn ?_
 obtain rfl:=Option.some.inj h
 exact ⟨[],_,fm⟩

/- qcref1.SameWorld -/
set_option maxRecDepth 100000 in
set_option maxHeartbeats 8000000 in
theorem bD0 (N:Nat) (a0:Wd) (a1:Wd) (r:Bool) (h:aE3 N a0 a1=some r):Spec Tryz.prog 26 [] [.agg (eWd a0),.agg (eWd a1)] (.bool r) [] []:=by
 refine Spec.of F3 Tryz.func26 rfl Tryz.ntmps26 (by kernel_rfl) rfl rfl rfl fun Γ hn=>?_
 unfold aE3 at h
 refine j6 hn ?_
 refine j4.seqQ fun _ A0 _ R0=>?_
 refine j4.seqQ fun _ A1 _ _=>?_
 obtain ⟨o3,h2,h⟩:=j5 h
 refine jk (ι:={ s // o3=s }) hn (fun s=>[(36,.bool s.1)]) (fun s=>[]) [(2,_),(3,_)] [(2,_),(3,_)] (fun _ A2 _ _=>?_) ?_
 ·refine p9 hn ?_
  refine l5 h2 (fun hb4 h2=>?_) (fun hb4 h2=>?_)
  ·refine j3 hb4 ?_
   refine j3 hb4 ?_
   refine j3 hb4 ?_
   refine j3 hb4 ?_
   refine j3 hb4 ?_
   refine j3 hb4 ?_
   refine j3 hb4 ?_
   refine A2 _ _ ?_
   exact jn ⟨_,sj h2⟩ []
  refine d9 hb4 ?_
  refine d9 hb4 ?_
  refine u7 (fun _=>?_)
  refine d9 hb4 ?_
  refine d9 hb4 ?_
  refine d9 hb4 ?_
  refine u7 (fun _=>?_)
  refine d9 hb4 ?_
  refine d9 hb4 ?_
  refine l5 h2 (fun hb7 h2=>?_) (fun hb7 h2=>?_)
  ·refine j3 hb7 ?_
   refine j3 hb7 ?_
   refine j3 hb7 ?_
   refine j3 hb7 ?_
   refine j3 hb7 ?_
   refine j3 hb7 ?_
   refine j3 hb7 ?_
   refine A2 _ _ ?_
   exact jn ⟨_,sj h2⟩ []
  refine d9 hb7 ?_
  refine d9 hb7 ?_
  refine u7 (fun _=>?_)
  refine d9 hb7 ?_
  refine d9 hb7 ?_
  refine d9 hb7 ?_
  refine u7 (fun _=>?_)
  refine d9 hb7 ?_
  refine d9 hb7 ?_
  refine A2 _ _ ?_
  exact jn ⟨_,sj h2⟩ []
 rintro ⟨v1,hv_⟩
 replace hv_:=hv_.symm
 subst hv_
 refine A1 _ _ ?_
 refine l7 hn ?_
 refine l5 h (fun hb10 h=>?_) (fun hb10 h=>?_)
 ·refine j6 hn ?_
  refine got hn ?_
  refine R0 _ _ ?_
  obtain rfl:=Option.some.inj h
  exact ⟨[],_,fm⟩
 refine l9 hn ?_
 refine A0 _ _ ?_
 refine j4.seqQ fun _ A3 _ R3=>?_
 refine j6 hn ?_
 refine u7 (fun hl11=>?_)
 obtain ⟨o13,h14,h⟩:=j5 h
 refine jk (ι:={ s // o13=C9.next s }) hn (fun s=>[]) (fun s=>[]) [(2,_),(3,_)] [(2,_),(3,_)] (fun _ A4 _ R4=>?_) ?_
 ·refine j4.blkQ fun _ _ E5 _ R5=>?_
  refine lq (ι:={ q:((List Cl)×Nat) // q.1=a0.classes.drop q.2∧P7 N a1 q.1 q.2=some o13 }) hn (fun q=>[(40,.int (q.1.2:Int))]) (fun q=>[]) (fun q=>q.1.1.length) [(2,_),(3,_),(38,_),(39,_)] [(2,_),(3,_)] ⟨(a0.classes,0),rfl,h14⟩ [] ?_
  rintro ⟨⟨rest_,k12⟩,hd16,h14⟩ _ A6 X6 R6
  replace hd16:rest_=a0.classes.drop k12:=hd16
  rcases rest_ with _|⟨x18,rest15⟩
  ·have hlt20:=G6 hd16
   replace h14:=(P7.eq_1 _ _ _).symm.trans h14
   refine j6 hn ?_
   refine j4.seqQ fun _ _ X7 _=>?_
   refine l7 hn ?_
   refine d9 hlt20 ?_
   refine H8 hn ?_
   refine X7 _ _ _ ?_
   refine X6 _ _ _ ?_
   refine E5 _ _ ?_
   refine A4 _ _ ?_
   exact jn ⟨_,sj h14⟩ []
  ·obtain ⟨hx19,hd2,hlt20⟩:=z8 hd16
   replace h14:=(P7.eq_2 _ _ _ _ _).symm.trans h14
   refine j6 hn ?_
   refine j4.seqQ fun _ A8 _ _=>?_
   refine l7 hn ?_
   refine j3 hlt20 ?_
   refine l9 hn ?_
   refine A8 _ _ ?_
   refine j4.seqQ fun _ A9 _ R9=>?_
   refine j4.blkQ fun _ A10 _ _ R10=>?_
   refine j6 hn ?_
   refine U9 hx19 ?_
   refine j6 hn ?_
   obtain ⟨x21,hx22,h14⟩:=j5 h14
   refine W9 hx22 ?_
   refine j4.seqQ fun _ A11 _ R11=>?_
   refine j4.seqQ fun _ A12 _ _=>?_
   obtain ⟨o25,h24,h14⟩:=j5 h14
   refine jk (ι:={ s // o25=s }) hn (fun s=>[(77,.bool s.1)]) (fun s=>[]) [(2,_),(3,_),(6,_),(7,_),(38,_),(39,_),(40,_)] [(2,_),(3,_),(6,_),(7,_)] (fun _ A13 _ _=>?_) ?_
   ·refine kp [(2,_),(3,_),(6,_),(7,_),(38,_),(39,_),(40,_)] [(2,_),(3,_),(6,_),(7,_)] ?_
    refine p9 hn ?_
    refine l5 h24 (fun hb26 h24=>?_) (fun hb26 h24=>?_)
    ·refine j3 hb26 ?_
     refine j3 hb26 ?_
     refine j3 hb26 ?_
     refine j3 hb26 ?_
     refine j3 hb26 ?_
     refine A13 _ _ ?_
     exact jn ⟨_,sj h24⟩ []
    refine d9 hb26 ?_
    refine d9 hb26 ?_
    refine d9 hb26 ?_
    refine d9 hb26 ?_
    refine d9 hb26 ?_
    refine l5 h24 (fun hb27 h24=>?_) (fun hb27 h24=>?_)
    ·refine j3 hb27 ?_
     refine j3 hb27 ?_
     refine j3 hb27 ?_
     refine j3 hb27 ?_
     refine j3 hb27 ?_
     refine A13 _ _ ?_
     exact jn ⟨_,sj h24⟩ []
    refine d9 hb27 ?_
    refine d9 hb27 ?_
    refine d9 hb27 ?_
    refine d9 hb27 ?_
    refine d9 hb27 ?_
    refine l5 h24 (fun hb28 h24=>?_) (fun hb28 h24=>?_)
    ·refine j3 hb28 ?_
     refine j3 hb28 ?_
     refine j3 hb28 ?_
     refine j3 hb28 ?_
     refine j3 hb28 ?_
     refine j3 hb28 ?_
     refine j3 hb28 ?_
     refine A13 _ _ ?_
     exact jn ⟨_,sj h24⟩ []
    refine d9 hb28 ?_
    refine d9 hb28 ?_
    refine u7 (fun _=>?_)
    refine d9 hb28 ?_
    refine d9 hb28 ?_
    refine d9 hb28 ?_
    refine u7 (fun _=>?_)
    refine d9 hb28 ?_
    refine d9 hb28 ?_
    refine A13 _ _ ?_
    exact jn ⟨_,sj h24⟩ []
   rintro ⟨v23,hv_⟩
   replace hv_:=hv_.symm
   subst hv_
   refine A12 _ _ ?_
   refine l7 hn ?_
   refine l5 h14 (fun hb31 h14=>?_) (fun hb31 h14=>?_)
   ·refine j6 hn ?_
    refine got hn ?_
    refine R11 _ _ ?_
    refine R10 _ _ ?_
    refine R9 _ _ ?_
    refine R6 _ _ ?_
    refine R5 _ _ ?_
    refine R4 _ _ ?_
    refine R3 _ _ ?_
    obtain rfl:=Option.some.inj h14
    obtain rfl:=Option.some.inj h
    exact ⟨[],_,fm⟩
   refine l9 hn ?_
   refine A11 _ _ ?_
   refine j6 hn ?_
   refine u7 (fun hl32=>?_)
   obtain ⟨o34,h35,h14⟩:=j5 h14
   refine jk (ι:={ s // o34=C9.next s }) hn (fun s=>[]) (fun s=>[]) [(2,_),(3,_),(38,_),(39,_),(40,_)] [(2,_),(3,_)] (fun _ A14 _ R14=>?_) ?_
   ·refine j4.blkQ fun _ _ E15 _ R15=>?_
    refine lq (ι:={ q:((List Me)×Nat) // q.1=x18.methods.drop q.2∧O9 N x21 q.1 q.2=some o34 }) hn (fun q=>[(81,.int (q.1.2:Int))]) (fun q=>[]) (fun q=>q.1.1.length) [(2,_),(3,_),(7,_),(38,_),(39,_),(40,_),(79,_),(80,_)] [(2,_),(3,_),(7,_)] ⟨(x18.methods,0),rfl,h35⟩ [] ?_
    rintro ⟨⟨rest_,k33⟩,hd37,h35⟩ _ A16 X16 R16
    replace hd37:rest_=x18.methods.drop k33:=hd37
    rcases rest_ with _|⟨x39,rest36⟩
    ·have hlt41:=G6 hd37
     replace h35:=(O9.eq_1 _ _ _).symm.trans h35
     refine j6 hn ?_
     refine j4.seqQ fun _ _ X17 _=>?_
     refine l7 hn ?_
     refine d9 hlt41 ?_
     refine H8 hn ?_
     refine X17 _ _ _ ?_
     refine X16 _ _ _ ?_
     refine E15 _ _ ?_
     refine A14 _ _ ?_
     exact jn ⟨_,sj h35⟩ []
    ·obtain ⟨hx40,hd2,hlt41⟩:=z8 hd37
     replace h35:=(O9.eq_2 _ _ _ _ _).symm.trans h35
     refine j6 hn ?_
     refine j4.seqQ fun _ A18 _ _=>?_
     refine l7 hn ?_
     refine j3 hlt41 ?_
     refine l9 hn ?_
     refine A18 _ _ ?_
     refine j4.seqQ fun _ A19 _ R19=>?_
     refine j4.blkQ fun _ A20 _ _ R20=>?_
     refine j6 hn ?_
     refine U9 hx40 ?_
     refine j6 hn ?_
     obtain ⟨x42,hx43,h35⟩:=j5 h35
     refine W9 hx43 ?_
     refine j4.seqQ fun _ A21 _ _=>?_
     obtain ⟨o46,h45,h35⟩:=j5 h35
     refine jk (ι:={ s // o46=s }) hn (fun s=>[(124,.bool s.1)]) (fun s=>[]) [(2,_),(3,_),(7,_),(38,_),(39,_),(40,_),(79,_),(80,_),(81,_)] [(2,_),(3,_),(7,_)] (fun _ A22 _ _=>?_) ?_
     ·refine kp [(2,_),(3,_),(7,_),(9,_),(10,_),(38,_),(39,_),(40,_),(79,_),(80,_),(81,_)] [(2,_),(3,_),(7,_),(9,_),(10,_)] ?_
      refine p9 hn ?_
      refine l5 h45 (fun hb47 h45=>?_) (fun hb47 h45=>?_)
      ·refine j3 hb47 ?_
       refine j3 hb47 ?_
       refine j3 hb47 ?_
       refine j3 hb47 ?_
       refine j3 hb47 ?_
       refine A22 _ _ ?_
       exact jn ⟨_,sj h45⟩ []
      refine d9 hb47 ?_
      refine d9 hb47 ?_
      refine d9 hb47 ?_
      refine d9 hb47 ?_
      refine d9 hb47 ?_
      refine l5 h45 (fun hb48 h45=>?_) (fun hb48 h45=>?_)
      ·refine j3 hb48 ?_
       refine j3 hb48 ?_
       refine j3 hb48 ?_
       refine j3 hb48 ?_
       refine j3 hb48 ?_
       refine A22 _ _ ?_
       exact jn ⟨_,sj h45⟩ []
      refine d9 hb48 ?_
      refine d9 hb48 ?_
      refine d9 hb48 ?_
      refine d9 hb48 ?_
      refine d9 hb48 ?_
      refine l5 h45 (fun hb49 h45=>?_) (fun hb49 h45=>?_)
      ·refine j3 hb49 ?_
       refine j3 hb49 ?_
       refine j3 hb49 ?_
       refine j3 hb49 ?_
       refine j3 hb49 ?_
       refine A22 _ _ ?_
       exact jn ⟨_,sj h45⟩ []
      refine d9 hb49 ?_
      refine d9 hb49 ?_
      refine d9 hb49 ?_
      refine d9 hb49 ?_
      refine d9 hb49 ?_
      refine l5 h45 (fun hb50 h45=>?_) (fun hb50 h45=>?_)
      ·refine j3 hb50 ?_
       refine j3 hb50 ?_
       refine j3 hb50 ?_
       refine j3 hb50 ?_
       refine j3 hb50 ?_
       refine j3 hb50 ?_
       refine A22 _ _ ?_
       exact jn ⟨_,sj h45⟩ []
      refine d9 hb50 ?_
      refine d9 hb50 ?_
      refine d9 hb50 ?_
      refine d9 hb50 ?_
      obtain ⟨r51,hr52,h45⟩:=j5 h45
      show l6 Tryz.prog _ _ _ _
      refine cA (bF4 N x39.code x42.code r51 hr52) ?_
      refine d9 hb50 ?_
      refine d9 hb50 ?_
      refine A22 _ _ ?_
      exact jn ⟨_,sj h45⟩ []
     rintro ⟨v44,hv_⟩
     replace hv_:=hv_.symm
     subst hv_
     refine A21 _ _ ?_
     refine l7 hn ?_
     refine l5 h35 (fun hb53 h35=>?_) (fun hb53 h35=>?_)
     ·refine j6 hn ?_
      refine got hn ?_
      refine R20 _ _ ?_
      refine R19 _ _ ?_
      refine R16 _ _ ?_
      refine R15 _ _ ?_
      refine R14 _ _ ?_
      refine R10 _ _ ?_
      refine R9 _ _ ?_
      refine R6 _ _ ?_
      refine R5 _ _ ?_
      refine R4 _ _ ?_
      refine R3 _ _ ?_
      obtain rfl:=Option.some.inj h35
      obtain rfl:=Option.some.inj h14
      obtain rfl:=Option.some.inj h
      exact ⟨[],_,fm⟩
     refine l9 hn ?_
     refine A20 _ _ ?_
     refine A19 _ _ ?_
     refine p9 hn ?_
     refine Or.inl (And.intro (U0 hx40 hl32) ?_)
     refine A16 _ _ ?_
     exact jn ⟨(rest36,k33+1),hd2,h35⟩ [] (by show rest36.length < rest36.length+1; omega)
   rintro ⟨⟨⟩,rfl⟩
   refine A10 _ _ ?_
   refine A9 _ _ ?_
   refine p9 hn ?_
   refine Or.inl (And.intro (U0 hx19 hl11) ?_)
   refine A6 _ _ ?_
   exact jn ⟨(rest15,k12+1),hd2,h14⟩ [] (by show rest15.length < rest15.length+1; omega)
 rintro ⟨⟨⟩,rfl⟩
 refine A3 _ _ ?_
 refine j4.seqQ fun _ A23 _ R23=>?_
 refine j6 hn ?_
 refine u7 (fun hl54=>?_)
 obtain ⟨o56,h57,h⟩:=j5 h
 refine jk (ι:={ s // o56=C9.next s }) hn (fun s=>[]) (fun s=>[]) [] [] (fun _ A24 _ R24=>?_) ?_
 ·refine j4.blkQ fun _ _ E25 _ R25=>?_
  refine lq (ι:={ q:((List Ob)×Nat) // q.1=a0.heap.drop q.2∧P6 N a1 q.1 q.2=some o56 }) hn (fun q=>[(130,.int (q.1.2:Int))]) (fun q=>[]) (fun q=>q.1.1.length) [(3,_),(128,_),(129,_)] [(3,_)] ⟨(a0.heap,0),rfl,h57⟩ [] ?_
  rintro ⟨⟨rest_,k55⟩,hd59,h57⟩ _ A26 X26 R26
  replace hd59:rest_=a0.heap.drop k55:=hd59
  rcases rest_ with _|⟨x61,rest58⟩
  ·have hlt63:=G6 hd59
   replace h57:=(P6.eq_1 _ _ _).symm.trans h57
   refine j6 hn ?_
   refine j4.seqQ fun _ _ X27 _=>?_
   refine l7 hn ?_
   refine d9 hlt63 ?_
   refine H8 hn ?_
   refine X27 _ _ _ ?_
   refine X26 _ _ _ ?_
   refine E25 _ _ ?_
   refine A24 _ _ ?_
   exact jn ⟨_,sj h57⟩ []
  ·obtain ⟨hx62,hd2,hlt63⟩:=z8 hd59
   replace h57:=(P6.eq_2 _ _ _ _ _).symm.trans h57
   refine j6 hn ?_
   refine j4.seqQ fun _ A28 _ _=>?_
   refine l7 hn ?_
   refine j3 hlt63 ?_
   refine l9 hn ?_
   refine A28 _ _ ?_
   refine j4.seqQ fun _ A29 _ R29=>?_
   refine j4.blkQ fun _ A30 _ _ R30=>?_
   refine j6 hn ?_
   refine U9 hx62 ?_
   refine j4.seqQ fun _ A31 _ R31=>?_
   refine j4.seqQ fun _ A32 _ _=>?_
   obtain ⟨o66,h65,h57⟩:=j5 h57
   refine jk (ι:={ s // o66=s }) hn (fun s=>[(156,.bool s.1)]) (fun s=>[]) [(3,_),(11,_),(12,_),(128,_),(129,_),(130,_)] [(3,_),(12,_)] (fun _ A33 _ _=>?_) ?_
   ·refine kp [(3,_),(11,_),(12,_),(128,_),(129,_),(130,_)] [(3,_),(12,_)] ?_
    refine god hn (by kernel_rfl) ?_
    obtain ⟨x67,hx68,h65⟩:=j5 h65
    refine W9 hx68 ?_
    refine l5 h65 (fun hb69 h65=>?_) (fun hb69 h65=>?_)
    ·refine j3 hb69 ?_
     refine j3 hb69 ?_
     refine j3 hb69 ?_
     refine j3 hb69 ?_
     refine j3 hb69 ?_
     refine j3 hb69 ?_
     refine j3 hb69 ?_
     refine j3 hb69 ?_
     refine j3 hb69 ?_
     refine j3 hb69 ?_
     refine j3 hb69 ?_
     refine A33 _ _ ?_
     exact jn ⟨_,sj h65⟩ []
    refine d9 hb69 ?_
    refine d9 hb69 ?_
    refine u7 (fun _=>?_)
    refine d9 hb69 ?_
    refine d9 hb69 ?_
    refine d9 hb69 ?_
    refine d9 hb69 ?_
    obtain ⟨x71,hx72,h65⟩:=j5 h65
    refine W9 hx72 ?_
    refine d9 hb69 ?_
    refine d9 hb69 ?_
    refine d9 hb69 ?_
    refine u7 (fun _=>?_)
    refine d9 hb69 ?_
    refine d9 hb69 ?_
    refine A33 _ _ ?_
    exact jn ⟨_,sj h65⟩ []
   rintro ⟨v64,hv_⟩
   replace hv_:=hv_.symm
   subst hv_
   refine A32 _ _ ?_
   refine l7 hn ?_
   refine l5 h57 (fun hb74 h57=>?_) (fun hb74 h57=>?_)
   ·refine j6 hn ?_
    refine got hn ?_
    refine R31 _ _ ?_
    refine R30 _ _ ?_
    refine R29 _ _ ?_
    refine R26 _ _ ?_
    refine R25 _ _ ?_
    refine R24 _ _ ?_
    refine R23 _ _ ?_
    obtain rfl:=Option.some.inj h57
    obtain rfl:=Option.some.inj h
    exact ⟨[],_,fm⟩
   refine l9 hn ?_
   refine A31 _ _ ?_
   refine j6 hn ?_
   refine u7 (fun hl75=>?_)
   obtain ⟨o77,h78,h57⟩:=j5 h57
   refine jk (ι:={ s // o77=C9.next s }) hn (fun s=>[]) (fun s=>[]) [(3,_),(128,_),(129,_),(130,_)] [(3,_)] (fun _ A34 _ R34=>?_) ?_
   ·refine j4.blkQ fun _ _ E35 _ R35=>?_
    refine lq (ι:={ q:((List V)×Nat) // q.1=x61.slots.drop q.2∧P5 N a1 k55 q.1 q.2=some o77 }) hn (fun q=>[(160,.int (q.1.2:Int))]) (fun q=>[]) (fun q=>q.1.1.length) [(3,_),(11,_),(12,_),(128,_),(129,_),(130,_),(159,_)] [(3,_),(12,_)] ⟨(x61.slots,0),rfl,h78⟩ [] ?_
    rintro ⟨⟨rest_,k76⟩,hd80,h78⟩ _ A36 X36 R36
    replace hd80:rest_=x61.slots.drop k76:=hd80
    rcases rest_ with _|⟨x82,rest79⟩
    ·have hlt84:=G6 hd80
     replace h78:=(P5.eq_1 _ _ _ _).symm.trans h78
     refine j6 hn ?_
     refine j4.seqQ fun _ _ X37 _=>?_
     refine l7 hn ?_
     refine d9 hlt84 ?_
     refine H8 hn ?_
     refine X37 _ _ _ ?_
     refine X36 _ _ _ ?_
     refine E35 _ _ ?_
     refine A34 _ _ ?_
     exact jn ⟨_,sj h78⟩ []
    ·obtain ⟨hx83,hd2,hlt84⟩:=z8 hd80
     replace h78:=(P5.eq_2 _ _ _ _ _ _).symm.trans h78
     refine j6 hn ?_
     refine j4.seqQ fun _ A38 _ _=>?_
     refine l7 hn ?_
     refine j3 hlt84 ?_
     refine l9 hn ?_
     refine A38 _ _ ?_
     refine j4.seqQ fun _ A39 _ R39=>?_
     refine j4.blkQ fun _ A40 _ _ R40=>?_
     refine j6 hn ?_
     refine j4.seqQ fun _ A41 _ _=>?_
     refine god hn (by kernel_rfl) ?_
     refine U9 hx83 ?_
     obtain ⟨x85,hx86,h78⟩:=j5 h78
     refine W9 hx86 ?_
     obtain ⟨x87,hx88,h78⟩:=j5 h78
     refine W9 hx88 ?_
     refine A41 _ _ ?_
     refine l7 hn ?_
     refine l5 h78 (fun hb89 h78=>?_) (fun hb89 h78=>?_)
     ·refine kp [] [] ?_
      refine j6 hn ?_
      refine got hn ?_
      refine R40 _ _ ?_
      refine R39 _ _ ?_
      refine R36 _ _ ?_
      refine R35 _ _ ?_
      refine R34 _ _ ?_
      refine R30 _ _ ?_
      refine R29 _ _ ?_
      refine R26 _ _ ?_
      refine R25 _ _ ?_
      refine R24 _ _ ?_
      refine R23 _ _ ?_
      obtain rfl:=Option.some.inj h78
      obtain rfl:=Option.some.inj h57
      obtain rfl:=Option.some.inj h
      exact ⟨[],_,fm⟩
     refine l9 hn ?_
     refine A40 _ _ ?_
     refine A39 _ _ ?_
     refine kp [(3,_),(11,_),(12,_),(128,_),(129,_),(130,_),(159,_),(160,_)] [(3,_),(12,_)] ?_
     refine p9 hn ?_
     refine Or.inl (And.intro (U0 hx83 hl75) ?_)
     refine A36 _ _ ?_
     exact jn ⟨(rest79,k76+1),hd2,h78⟩ [] (by show rest79.length < rest79.length+1; omega)
   rintro ⟨⟨⟩,rfl⟩
   refine A30 _ _ ?_
   refine A29 _ _ ?_
   refine p9 hn ?_
   refine Or.inl (And.intro (U0 hx62 hl54) ?_)
   refine A26 _ _ ?_
   exact jn ⟨(rest58,k55+1),hd2,h57⟩ [] (by show rest58.length < rest58.length+1; omega)
 rintro ⟨⟨⟩,rfl⟩
 refine A23 _ _ ?_
 refine j6 hn ?_
 refine got hn ?_
 obtain rfl:=Option.some.inj h
 exact ⟨[],_,fm⟩
end Go.Proofs.YtibjcppjfkamhaaGreatDoor
