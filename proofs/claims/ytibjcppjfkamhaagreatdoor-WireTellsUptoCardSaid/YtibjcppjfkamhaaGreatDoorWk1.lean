/- Walks after the mirrors. Printed by mir.py. -/
import Derived.Test.YtibjcppjfkamhaaGreatDoorMir
import Derived.Test.YtibjcppjfkamhaaGreatDoorYsh
import Derived.Test.YtibjcppjfkamhaaGreatDoorYnew
import Derived.Test.YtibjcppjfkamhaaGreatDoorYcnew
namespace Go.Proofs.YtibjcppjfkamhaaGreatDoor
open Go.RowKit
set_option linter.unusedVariables false
/- class.Name -/
set_option maxRecDepth 100000 in
set_option maxHeartbeats 8000000 in
theorem aT1 (N:Nat) (a0:ByteArray) (r:Bool) (h:aH6 N a0=some r):Spec Tryz.prog 36 [] [.str a0] (.bool r) [] []:=by
 refine Spec.of F3 Tryz.func36 rfl Tryz.ntmps36 (by kernel_rfl) rfl rfl rfl fun Γ hn=>?_
 unfold aH6 at h
 refine j6 hn ?_
 refine j4.seqQ fun _ A0 _ R0=>?_
 refine j4.seqQ fun _ A1 _ _=>?_
 obtain ⟨o3,h2,h⟩:=j5 h
 refine jk (ι:={ s // o3=s }) hn (fun s=>[(11,.bool s.1)]) (fun s=>[]) [(0,_)] [] (fun _ A2 _ _=>?_) ?_
 ·refine p9 hn ?_
  intro _
  refine l5 h2 (fun hb5 h2=>?_) (fun hb5 h2=>?_)
  ·refine j3 hb5 ?_
   refine j3 hb5 ?_
   refine j3 hb5 ?_
   refine A2 _ _ ?_
   exact jn ⟨_,sj h2⟩ []
  refine d9 hb5 ?_
  intro _
  refine d9 hb5 ?_
  refine d9 hb5 ?_
  refine A2 _ _ ?_
  exact jn ⟨_,sj h2⟩ []
 rintro ⟨v1,hv_⟩
 replace hv_:=hv_.symm
 subst hv_
 refine A1 _ _ ?_
 refine l7 hn ?_
 refine l5 h (fun hb7 h=>?_) (fun hb7 h=>?_)
 ·refine j6 hn ?_
  refine got hn ?_
  refine R0 _ _ ?_
  obtain rfl:=Option.some.inj h
  exact ⟨[],_,fm⟩
 refine l9 hn ?_
 refine A0 _ _ ?_
 refine j4.seqQ fun _ A3 _ R3=>?_
 refine j6 hn ?_
 intro _
 refine j4.rng 13 rfl (fun hrn9=>?_)
 obtain ⟨o10,h11,h⟩:=j5 h
 refine jk (ι:={ s // o10=C9.next s }) hn (fun s=>[]) (fun s=>[]) [] [] (fun _ A4 _ R4=>?_) ?_
 ·refine j4.blkQ fun _ _ E5 _ R5=>?_
  refine lq (ι:={ q:(Nat×Nat) // q.1=((a0.size:Int) - (q.2:Int)).toNat∧aB9 N a0 q.1 q.2=some o10 }) hn (fun q=>[(14,.int (q.1.2:Int))]) (fun q=>[]) (fun q=>q.1.1) [(0,_),(13,_)] [] ⟨(((a0.size:Int) - ((0:Nat):Int)).toNat,0),rfl,h11⟩ [] ?_
  rintro ⟨⟨n_,k9⟩,hd13,h11⟩ _ A6 X6 R6
  replace hd13:n_=((a0.size:Int) - (k9:Int)).toNat:=hd13
  rcases n_ with _|n14
  ·have hlt17:=aH2 hd13
   replace h11:=(aB9.eq_1 _ _ _).symm.trans h11
   refine j6 hn ?_
   refine j4.seqQ fun _ _ X7 _=>?_
   refine l7 hn ?_
   refine d9 hlt17 ?_
   refine H8 hn ?_
   refine X7 _ _ _ ?_
   refine X6 _ _ _ ?_
   refine E5 _ _ ?_
   refine A4 _ _ ?_
   exact jn ⟨_,sj h11⟩ []
  ·obtain ⟨hd2,hlt17⟩:=aE5 hd13
   replace h11:=(aB9.eq_2 _ _ _ _).symm.trans h11
   refine j6 hn ?_
   refine j4.seqQ fun _ A8 _ _=>?_
   refine l7 hn ?_
   refine j3 hlt17 ?_
   refine l9 hn ?_
   refine A8 _ _ ?_
   refine j4.seqQ fun _ A9 _ R9=>?_
   refine j4.blkQ fun _ A10 _ _ R10=>?_
   refine j6 hn ?_
   refine j4.seqQ fun _ A11 _ _=>?_
   obtain ⟨o20,h19,h11⟩:=j5 h11
   refine jk (ι:={ s // o20=s }) hn (fun s=>[(26,.bool s.1)]) (fun s=>[]) [(0,_),(13,_),(14,_)] [] (fun _ A12 _ _=>?_) ?_
   ·refine p9 hn ?_
    obtain ⟨u21,hx22,h19⟩:=j5 h19
    refine byM hx22 ?_
    refine And.intro rfl ?_
    refine l5 h19 (fun hb23 h19=>?_) (fun hb23 h19=>?_)
    ·refine j3 hb23 ?_
     refine j3 hb23 ?_
     refine j3 hb23 ?_
     refine j3 hb23 ?_
     refine A12 _ _ ?_
     exact jn ⟨_,sj h19⟩ []
    refine d9 hb23 ?_
    refine d9 hb23 ?_
    obtain ⟨u24,hx25,h19⟩:=j5 h19
    refine byM hx25 ?_
    refine d9 hb23 ?_
    refine And.intro rfl ?_
    refine d9 hb23 ?_
    refine A12 _ _ ?_
    exact jn ⟨_,sj h19⟩ []
   rintro ⟨v18,hv_⟩
   replace hv_:=hv_.symm
   subst hv_
   refine A11 _ _ ?_
   refine l7 hn ?_
   refine l5 h11 (fun hb26 h11=>?_) (fun hb26 h11=>?_)
   ·refine j6 hn ?_
    refine got hn ?_
    refine R10 _ _ ?_
    refine R9 _ _ ?_
    refine R6 _ _ ?_
    refine R5 _ _ ?_
    refine R4 _ _ ?_
    refine R3 _ _ ?_
    obtain rfl:=Option.some.inj h11
    obtain rfl:=Option.some.inj h
    exact ⟨[],_,fm⟩
   refine l9 hn ?_
   refine A10 _ _ ?_
   refine A9 _ _ ?_
   refine p9 hn ?_
   refine Or.inl (And.intro (aL4 hlt17 hrn9) ?_)
   refine A6 _ _ ?_
   exact jn ⟨(n14,k9+1),hd2,h11⟩ [] (by show n14 < n14+1; omega)
 rintro ⟨⟨⟩,rfl⟩
 refine A3 _ _ ?_
 refine j6 hn ?_
 refine got hn ?_
 obtain rfl:=Option.some.inj h
 exact ⟨[],_,fm⟩

/- class.Slots -/
set_option maxRecDepth 100000 in
set_option maxHeartbeats 8000000 in
theorem aK5 (N:Nat) (a0:Wd) (a1:Int) (r:Int) (h:aC8 N a0 a1=some r):Spec Tryz.prog 37 [] [.agg (eWd a0),.int a1] (.int r) [] []:=by
 refine Spec.of F3 Tryz.func37 rfl Tryz.ntmps37 (by kernel_rfl) rfl rfl rfl fun Γ hn=>?_
 unfold aC8 at h
 refine j6 hn ?_
 refine j6 hn ?_
 refine j4.seqQ fun _ A0 _ _=>?_
 refine j6 hn ?_
 obtain ⟨o9,h10,h⟩:=j5 h
 refine jk (ι:={ s // o9=s }) hn (fun s=>[(5,.int s.1)]) (fun s=>[]) [] [] (fun _ A1 _ _=>?_) ?_
 ·refine j4.blkQ fun _ _ E2 _ _=>?_
  refine lq (ι:={ q:(Nat×Int×Int×Int) // aA1 N a0 q.1 q.2.1 q.2.2.1 q.2.2.2=some o9 }) hn (fun q=>[(1,.int q.1.2.1),(5,.int q.1.2.2.1),(6,.int q.1.2.2.2)]) (fun q=>[]) (fun q=>q.1.1) [(2,_)] [(2,_)] ⟨(N,a1,(0:Int),(0:Int)),h10⟩ [] ?_
  rintro ⟨⟨n_,v2,v3,v4⟩,h10⟩ _ A3 X3 _
  rcases n_ with _|n13
  ·rw [aA1.eq_1] at h10
   cases h10
  ·replace h10:=(aA1.eq_2 _ _ _ _ _ _).symm.trans h10
   refine j4.seqQ fun _ A4 X4 _=>?_
   refine j4.seqQ fun _ A5 _ _=>?_
   obtain ⟨o16,h15,h10⟩:=j5 h10
   refine jk (ι:={ s // o16=s }) hn (fun s=>[(22,.bool s.1)]) (fun s=>[]) [(1,_),(2,_),(5,_),(6,_)] [(2,_)] (fun _ A6 _ _=>?_) ?_
   ·refine p9 hn ?_
    refine l5 h15 (fun hb17 h15=>?_) (fun hb17 h15=>?_)
    ·refine j3 hb17 ?_
     refine j3 hb17 ?_
     refine j3 hb17 ?_
     refine u7 (fun _=>?_)
     refine j3 hb17 ?_
     refine j3 hb17 ?_
     refine l5 h15 (fun hb19 h15=>?_) (fun hb19 h15=>?_)
     ·refine j3 hb19 ?_
      refine j3 hb19 ?_
      refine j3 hb19 ?_
      refine u7 (fun _=>?_)
      refine j3 hb19 ?_
      refine j3 hb19 ?_
      refine A6 _ _ ?_
      exact jn ⟨_,sj h15⟩ []
     refine d9 hb19 ?_
     refine d9 hb19 ?_
     refine d9 hb19 ?_
     refine d9 hb19 ?_
     refine d9 hb19 ?_
     refine A6 _ _ ?_
     exact jn ⟨_,sj h15⟩ []
    refine d9 hb17 ?_
    refine d9 hb17 ?_
    refine d9 hb17 ?_
    refine d9 hb17 ?_
    refine d9 hb17 ?_
    refine A6 _ _ ?_
    exact jn ⟨_,sj h15⟩ []
   rintro ⟨v14,hv_⟩
   replace hv_:=hv_.symm
   subst hv_
   refine A5 _ _ ?_
   refine l7 hn ?_
   refine l5 h10 (fun hb21 h10=>?_) (fun hb21 h10=>?_)
   ·refine l9 hn ?_
    refine A4 _ _ ?_
    refine j4.seqQ fun _ A7 _ _=>?_
    refine j4.blkQ fun _ A8 _ _ _=>?_
    refine j6 hn ?_
    obtain ⟨x22,hx23,h10⟩:=j5 h10
    refine W9 hx23 ?_
    refine Or.inr ?_
    refine p9 hn ?_
    obtain ⟨x24,hx25,h10⟩:=j5 h10
    refine W9 hx25 ?_
    refine A8 _ _ ?_
    refine A7 _ _ ?_
    refine kp [(1,_),(2,_),(5,_),(6,_)] [(2,_)] ?_
    refine p9 hn ?_
    refine Or.inr ?_
    refine A3 _ _ ?_
    exact jn ⟨(n13,x24.super,(wr (v3+x22.slots)),(wr (v4+(1:Int)))),h10⟩ [] (by show n13 < n13+1; omega)
   refine H8 hn ?_
   refine X4 _ _ _ ?_
   refine X3 _ _ _ ?_
   refine E2 _ _ ?_
   refine A1 _ _ ?_
   exact jn ⟨_,sj h10⟩ []
 rintro ⟨v8,hv_⟩
 replace hv_:=hv_.symm
 subst hv_
 refine A0 _ _ ?_
 refine j6 hn ?_
 refine got hn ?_
 obtain rfl:=Option.some.inj h
 exact ⟨[],_,fm⟩

/- code.numbers$1 -/
set_option maxRecDepth 100000 in
set_option maxHeartbeats 8000000 in
theorem aC5 (N:Nat) (a0:Int) (a1:Int) (r:Bool) (h:S9 N a0 a1=some r):Spec Tryz.prog 107 [] [.int a0,.int a1] (.bool r) [] []:=by
 refine Spec.of F3 Tryz.func107 rfl Tryz.ntmps107 (by kernel_rfl) rfl rfl rfl fun Γ hn=>?_
 unfold S9 at h
 refine j6 hn ?_
 refine j4.seqQ fun _ A0 _ _=>?_
 obtain ⟨o3,h2,h⟩:=j5 h
 refine jk (ι:={ s // o3=s }) hn (fun s=>[(4,.bool s.1)]) (fun s=>[]) [] [] (fun _ A1 _ _=>?_) ?_
 ·refine p9 hn ?_
  refine l5 h2 (fun hb4 h2=>?_) (fun hb4 h2=>?_)
  ·refine j3 hb4 ?_
   refine j3 hb4 ?_
   refine j3 hb4 ?_
   refine A1 _ _ ?_
   exact jn ⟨_,sj h2⟩ []
  refine d9 hb4 ?_
  refine d9 hb4 ?_
  refine d9 hb4 ?_
  refine A1 _ _ ?_
  exact jn ⟨_,sj h2⟩ []
 rintro ⟨v1,hv_⟩
 replace hv_:=hv_.symm
 subst hv_
 refine A0 _ _ ?_
 refine got hn ?_
 obtain rfl:=Option.some.inj h
 exact ⟨[],_,fm⟩

/- code.numbers -/
set_option maxRecDepth 100000 in
set_option maxHeartbeats 8000000 in
theorem bP3 (N:Nat) (a0:Wd) (a1:Int) (a2:Me) (a3:Ins) (r:Int) (h:aK0 N a0 a1 a2 a3=some r):Spec Tryz.prog 74 [] [.fp (eWd a0),.int a1,.fp (Z6 a2),.agg (aG9 a3)] (.int r) [] []:=by
 refine Spec.of F3 Tryz.func74 rfl Tryz.ntmps74 (by kernel_rfl) rfl rfl rfl fun Γ hn=>?_
 unfold aK0 at h
 refine j6 hn ?_
 refine j6 hn ?_
 refine j6 hn ?_
 refine j4.seqQ fun _ A0 _ R0=>?_
 refine j6 hn ?_
 obtain ⟨o4,h3,h⟩:=j5 h
 refine jk (ι:={ s // o4=C9.next s }) hn (fun s=>[(10,.bool s.1.1),(11,.bool s.1.2)]) (fun s=>[]) [(7,_)] [(7,_)] (fun _ A1 _ R1=>?_) ?_
 ·refine j4.blkQ fun _ A2 _ _ R2=>?_
  refine j4.seqQ fun _ A3 _ _=>?_
  refine j6 hn ?_
  obtain ⟨o7,h6,h3⟩:=j5 h3
  refine jk (ι:={ s // o7=s }) hn (fun s=>[(14,.bool s.1)]) (fun s=>[]) [(0,_),(1,_),(2,_),(7,_),(9,_),(11,_),(13,_)] [(7,_)] (fun _ A4 _ _=>?_) ?_
  ·refine l7 hn ?_
   refine l5 h6 (fun hb8 h6=>?_) (fun hb8 h6=>?_)
   ·refine l9 hn ?_
    refine A4 _ _ ?_
    exact jn ⟨_,sj h6⟩ []
   refine j6 hn ?_
   obtain ⟨o11,h10,h6⟩:=j5 h6
   refine jk (ι:={ s // o11=s }) hn (fun s=>[(14,.bool s.1)]) (fun s=>[]) [(0,_),(1,_),(2,_),(7,_),(9,_),(11,_),(13,_)] [(7,_)] (fun _ A5 _ _=>?_) ?_
   ·refine l7 hn ?_
    refine l5 h10 (fun hb12 h10=>?_) (fun hb12 h10=>?_)
    ·refine l9 hn ?_
     refine A5 _ _ ?_
     exact jn ⟨_,sj h10⟩ []
    refine j6 hn ?_
    obtain ⟨o15,h14,h10⟩:=j5 h10
    refine jk (ι:={ s // o15=s }) hn (fun s=>[(14,.bool s.1)]) (fun s=>[]) [(0,_),(1,_),(2,_),(7,_),(9,_),(11,_),(13,_)] [(7,_)] (fun _ A6 _ _=>?_) ?_
    ·refine l7 hn ?_
     refine l5 h14 (fun hb16 h14=>?_) (fun hb16 h14=>?_)
     ·refine l9 hn ?_
      refine A6 _ _ ?_
      exact jn ⟨_,sj h14⟩ []
     refine j6 hn ?_
     obtain ⟨o19,h18,h14⟩:=j5 h14
     refine jk (ι:={ s // o19=s }) hn (fun s=>[(14,.bool s.1)]) (fun s=>[]) [(0,_),(1,_),(2,_),(7,_),(9,_),(11,_),(13,_)] [(7,_)] (fun _ A7 _ _=>?_) ?_
     ·refine l7 hn ?_
      refine l5 h18 (fun hb20 h18=>?_) (fun hb20 h18=>?_)
      ·refine l9 hn ?_
       refine A7 _ _ ?_
       exact jn ⟨_,sj h18⟩ []
      refine j6 hn ?_
      obtain ⟨o23,h22,h18⟩:=j5 h18
      refine jk (ι:={ s // o23=s }) hn (fun s=>[(14,.bool s.1)]) (fun s=>[]) [(0,_),(1,_),(2,_),(7,_),(9,_),(11,_),(13,_)] [(7,_)] (fun _ A8 _ _=>?_) ?_
      ·refine l7 hn ?_
       refine l5 h22 (fun hb24 h22=>?_) (fun hb24 h22=>?_)
       ·refine l9 hn ?_
        refine A8 _ _ ?_
        exact jn ⟨_,sj h22⟩ []
       refine kp [(0,_),(1,_),(2,_),(7,_),(9,_),(11,_),(13,_)] [(7,_)] ?_
       refine j6 hn ?_
       obtain ⟨o27,h26,h22⟩:=j5 h22
       refine jk (ι:={ s // o27=s }) hn (fun s=>[(14,.bool s.1)]) (fun s=>[]) [(0,_),(1,_),(2,_),(7,_),(9,_),(11,_),(13,_)] [(7,_)] (fun _ A9 _ _=>?_) ?_
       ·refine l7 hn ?_
        refine l5 h26 (fun hb28 h26=>?_) (fun hb28 h26=>?_)
        ·refine l9 hn ?_
         refine A9 _ _ ?_
         exact jn ⟨_,sj h26⟩ []
        refine p9 hn ?_
        refine A9 _ _ ?_
        exact jn ⟨_,sj h26⟩ []
       rintro ⟨v25,hv_⟩
       replace hv_:=hv_.symm
       subst hv_
       refine A8 _ _ ?_
       exact jn ⟨_,sj h22⟩ []
      rintro ⟨v21,hv_⟩
      replace hv_:=hv_.symm
      subst hv_
      refine A7 _ _ ?_
      exact jn ⟨_,sj h18⟩ []
     rintro ⟨v17,hv_⟩
     replace hv_:=hv_.symm
     subst hv_
     refine A6 _ _ ?_
     exact jn ⟨_,sj h14⟩ []
    rintro ⟨v13,hv_⟩
    replace hv_:=hv_.symm
    subst hv_
    refine A5 _ _ ?_
    exact jn ⟨_,sj h10⟩ []
   rintro ⟨v9,hv_⟩
   replace hv_:=hv_.symm
   subst hv_
   refine A4 _ _ ?_
   exact jn ⟨_,sj h6⟩ []
  rintro ⟨v5,hv_⟩
  replace hv_:=hv_.symm
  subst hv_
  refine A3 _ _ ?_
  obtain ⟨o32,h31,h3⟩:=j5 h3
  refine jk (ι:={ s // o32=C9.next s }) hn (fun s=>[(10,.bool s.1.1),(11,.bool s.1.2)]) (fun s=>[]) [(7,_)] [(7,_)] (fun _ A10 _ R10=>?_) ?_
  ·refine l7 hn ?_
   refine l5 h31 (fun hb33 h31=>?_) (fun hb33 h31=>?_)
   ·refine p9 hn ?_
    refine A10 _ _ ?_
    exact jn ⟨_,sj h31⟩ []
   refine j6 hn ?_
   obtain ⟨o37,h36,h31⟩:=j5 h31
   refine jk (ι:={ s // o37=C9.next s }) hn (fun s=>[(10,.bool s.1.1),(11,.bool s.1.2)]) (fun s=>[]) [(7,_)] [(7,_)] (fun _ A11 _ R11=>?_) ?_
   ·refine l7 hn ?_
    refine l5 h36 (fun hb38 h36=>?_) (fun hb38 h36=>?_)
    ·refine god hn (by kernel_rfl) ?_
     obtain ⟨r39,hr40,h36⟩:=j5 h36
     show l6 Tryz.prog _ _ _ _
     refine cA (aC5 N a3.a a2.args r39 hr40) ?_
     refine A11 _ _ ?_
     exact jn ⟨_,sj h36⟩ []
    refine j4.seqQ fun _ A12 _ _=>?_
    refine j6 hn ?_
    obtain ⟨o43,h42,h36⟩:=j5 h36
    refine jk (ι:={ s // o43=s }) hn (fun s=>[(35,.bool s.1)]) (fun s=>[]) [(0,_),(1,_),(2,_),(7,_),(9,_),(11,_),(13,_)] [(7,_)] (fun _ A13 _ _=>?_) ?_
    ·refine l7 hn ?_
     refine l5 h42 (fun hb44 h42=>?_) (fun hb44 h42=>?_)
     ·refine l9 hn ?_
      refine A13 _ _ ?_
      exact jn ⟨_,sj h42⟩ []
     refine p9 hn ?_
     refine A13 _ _ ?_
     exact jn ⟨_,sj h42⟩ []
    rintro ⟨v41,hv_⟩
    replace hv_:=hv_.symm
    subst hv_
    refine A12 _ _ ?_
    obtain ⟨o48,h47,h36⟩:=j5 h36
    refine jk (ι:={ s // o48=C9.next s }) hn (fun s=>[(10,.bool s.1.1),(11,.bool s.1.2)]) (fun s=>[]) [(7,_)] [(7,_)] (fun _ A14 _ R14=>?_) ?_
    ·refine l7 hn ?_
     refine l5 h47 (fun hb49 h47=>?_) (fun hb49 h47=>?_)
     ·refine god hn (by kernel_rfl) ?_
      obtain ⟨r50,hr51,h47⟩:=j5 h47
      show l6 Tryz.prog _ _ _ _
      refine cA (aC5 N a3.a a2.temps r50 hr51) ?_
      refine A14 _ _ ?_
      exact jn ⟨_,sj h47⟩ []
     refine j4.seqQ fun _ A15 _ _=>?_
     refine j6 hn ?_
     obtain ⟨o54,h53,h47⟩:=j5 h47
     refine jk (ι:={ s // o54=s }) hn (fun s=>[(46,.bool s.1)]) (fun s=>[]) [(0,_),(1,_),(2,_),(7,_),(9,_),(11,_),(13,_)] [(7,_)] (fun _ A16 _ _=>?_) ?_
     ·refine l7 hn ?_
      refine l5 h53 (fun hb55 h53=>?_) (fun hb55 h53=>?_)
      ·refine l9 hn ?_
       refine A16 _ _ ?_
       exact jn ⟨_,sj h53⟩ []
      refine p9 hn ?_
      refine A16 _ _ ?_
      exact jn ⟨_,sj h53⟩ []
     rintro ⟨v52,hv_⟩
     replace hv_:=hv_.symm
     subst hv_
     refine A15 _ _ ?_
     obtain ⟨o59,h58,h47⟩:=j5 h47
     refine jk (ι:={ s // o59=C9.next s }) hn (fun s=>[(10,.bool s.1.1),(11,.bool s.1.2)]) (fun s=>[]) [(7,_)] [(7,_)] (fun _ A17 _ R17=>?_) ?_
     ·refine l7 hn ?_
      refine l5 h58 (fun hb60 h58=>?_) (fun hb60 h58=>?_)
      ·refine god hn (by kernel_rfl) ?_
       obtain ⟨r61,hr62,h58⟩:=j5 h58
       show l6 Tryz.prog _ _ _ _
       refine cA (aK5 N a0 a1 r61 hr62) ?_
       obtain ⟨r63,hr64,h58⟩:=j5 h58
       show l6 Tryz.prog _ _ _ _
       refine cA (aC5 N a3.a r61 r63 hr64) ?_
       refine A17 _ _ ?_
       exact jn ⟨_,sj h58⟩ []
      refine j6 hn ?_
      obtain ⟨o68,h67,h58⟩:=j5 h58
      refine jk (ι:={ s // o68=C9.next s }) hn (fun s=>[(10,.bool s.1.1),(11,.bool s.1.2)]) (fun s=>[]) [(7,_)] [(7,_)] (fun _ A18 _ R18=>?_) ?_
      ·refine l7 hn ?_
       refine l5 h67 (fun hb69 h67=>?_) (fun hb69 h67=>?_)
       ·obtain ⟨o72,h71,h67⟩:=j5 h67
        refine jk (ι:={ s // o72=s }) hn (fun s=>[(10,.bool s.1)]) (fun s=>[]) [(7,_),(11,_)] [(7,_)] (fun _ A19 _ _=>?_) ?_
        ·refine p9 hn ?_
         refine l5 h71 (fun hb73 h71=>?_) (fun hb73 h71=>?_)
         ·refine j3 hb73 ?_
          refine j3 hb73 ?_
          refine j3 hb73 ?_
          refine A19 _ _ ?_
          exact jn ⟨_,sj h71⟩ []
         refine d9 hb73 ?_
         refine d9 hb73 ?_
         refine d9 hb73 ?_
         refine A19 _ _ ?_
         exact jn ⟨_,sj h71⟩ []
        rintro ⟨v70,hv_⟩
        replace hv_:=hv_.symm
        subst hv_
        refine A18 _ _ ?_
        exact jn ⟨_,sj h67⟩ []
       refine j6 hn ?_
       obtain ⟨o77,h76,h67⟩:=j5 h67
       refine jk (ι:={ s // o77=C9.next s }) hn (fun s=>[(10,.bool s.1.1),(11,.bool s.1.2)]) (fun s=>[]) [(7,_)] [(7,_)] (fun _ A20 _ R20=>?_) ?_
       ·refine l7 hn ?_
        refine l5 h76 (fun hb78 h76=>?_) (fun hb78 h76=>?_)
        ·obtain ⟨o81,h80,h76⟩:=j5 h76
         refine jk (ι:={ s // o81=s }) hn (fun s=>[(10,.bool s.1)]) (fun s=>[]) [(7,_),(11,_)] [(7,_)] (fun _ A21 _ _=>?_) ?_
         ·refine kp [(0,_),(7,_),(11,_)] [(7,_)] ?_
          refine god hn (by kernel_rfl) ?_
          refine l5 h80 (fun hb82 h80=>?_) (fun hb82 h80=>?_)
          ·refine j3 hb82 ?_
           refine j3 hb82 ?_
           refine j3 hb82 ?_
           refine j3 hb82 ?_
           refine j3 hb82 ?_
           refine A21 _ _ ?_
           exact jn ⟨_,sj h80⟩ []
          refine d9 hb82 ?_
          refine d9 hb82 ?_
          refine d9 hb82 ?_
          refine l5 h80 (fun hb83 h80=>?_) (fun hb83 h80=>?_)
          ·refine j3 hb83 ?_
           refine j3 hb83 ?_
           refine j3 hb83 ?_
           refine j3 hb83 ?_
           refine j3 hb83 ?_
           refine j3 hb83 ?_
           refine u7 (fun _=>?_)
           refine j3 hb83 ?_
           refine d9 hb82 ?_
           refine j3 hb83 ?_
           refine d9 hb82 ?_
           refine A21 _ _ ?_
           exact jn ⟨_,sj h80⟩ []
          refine d9 hb83 ?_
          refine d9 hb83 ?_
          refine d9 hb83 ?_
          refine d9 hb83 ?_
          refine d9 hb83 ?_
          refine d9 hb83 ?_
          refine d9 hb83 ?_
          refine d9 hb82 ?_
          refine d9 hb83 ?_
          refine d9 hb82 ?_
          refine A21 _ _ ?_
          exact jn ⟨_,sj h80⟩ []
         rintro ⟨v79,hv_⟩
         replace hv_:=hv_.symm
         subst hv_
         refine A20 _ _ ?_
         exact jn ⟨_,sj h76⟩ []
        refine j6 hn ?_
        obtain ⟨o88,h87,h76⟩:=j5 h76
        refine jk (ι:={ s // o88=C9.next s }) hn (fun s=>[(10,.bool s.1.1),(11,.bool s.1.2)]) (fun s=>[]) [(7,_)] [(7,_)] (fun _ A22 _ R22=>?_) ?_
        ·refine l7 hn ?_
         refine l5 h87 (fun hb89 h87=>?_) (fun hb89 h87=>?_)
         ·refine p9 hn ?_
          obtain ⟨r90,hr91,h87⟩:=j5 h87
          show l6 Tryz.prog _ _ _ _
          refine cA (aC5 N a3.a (5:Int) r90 hr91) ?_
          refine A22 _ _ ?_
          exact jn ⟨_,sj h87⟩ []
         refine j4.seqQ fun _ A23 _ _=>?_
         refine j6 hn ?_
         obtain ⟨o94,h93,h87⟩:=j5 h87
         refine jk (ι:={ s // o94=s }) hn (fun s=>[(94,.bool s.1)]) (fun s=>[]) [(2,_),(7,_),(9,_),(11,_)] [(7,_)] (fun _ A24 _ _=>?_) ?_
         ·refine l7 hn ?_
          refine l5 h93 (fun hb95 h93=>?_) (fun hb95 h93=>?_)
          ·refine l9 hn ?_
           refine A24 _ _ ?_
           exact jn ⟨_,sj h93⟩ []
          refine p9 hn ?_
          refine A24 _ _ ?_
          exact jn ⟨_,sj h93⟩ []
         rintro ⟨v92,hv_⟩
         replace hv_:=hv_.symm
         subst hv_
         refine A23 _ _ ?_
         refine l7 hn ?_
         refine l5 h87 (fun hb96 h87=>?_) (fun hb96 h87=>?_)
         ·refine god hn (by kernel_rfl) ?_
          refine u7 (fun _=>?_)
          obtain ⟨r98,hr99,h87⟩:=j5 h87
          show l6 Tryz.prog _ _ _ _
          refine cA (aC5 N a3.a (a2.code.length:Int) r98 hr99) ?_
          refine A22 _ _ ?_
          exact jn ⟨_,sj h87⟩ []
         refine j6 hn ?_
         refine got hn ?_
         refine R22 _ _ ?_
         refine R20 _ _ ?_
         refine R18 _ _ ?_
         refine R17 _ _ ?_
         refine R14 _ _ ?_
         refine R11 _ _ ?_
         refine R10 _ _ ?_
         refine R2 _ _ ?_
         refine R1 _ _ ?_
         refine R0 _ _ ?_
         obtain rfl:=Option.some.inj h87
         obtain rfl:=Option.some.inj h76
         obtain rfl:=Option.some.inj h67
         obtain rfl:=Option.some.inj h58
         obtain rfl:=Option.some.inj h47
         obtain rfl:=Option.some.inj h36
         obtain rfl:=Option.some.inj h31
         obtain rfl:=Option.some.inj h3
         obtain rfl:=Option.some.inj h
         exact ⟨[],_,fm⟩
        rintro ⟨⟨v85,v86⟩,rfl⟩
        refine A20 _ _ ?_
        exact jn ⟨_,sj h76⟩ []
       rintro ⟨⟨v74,v75⟩,rfl⟩
       refine A18 _ _ ?_
       exact jn ⟨_,sj h67⟩ []
      rintro ⟨⟨v65,v66⟩,rfl⟩
      refine A17 _ _ ?_
      exact jn ⟨_,sj h58⟩ []
     rintro ⟨⟨v56,v57⟩,rfl⟩
     refine A14 _ _ ?_
     exact jn ⟨_,sj h47⟩ []
    rintro ⟨⟨v45,v46⟩,rfl⟩
    refine A11 _ _ ?_
    exact jn ⟨_,sj h36⟩ []
   rintro ⟨⟨v34,v35⟩,rfl⟩
   refine A10 _ _ ?_
   exact jn ⟨_,sj h31⟩ []
  rintro ⟨⟨v29,v30⟩,rfl⟩
  refine A2 _ _ ?_
  refine A1 _ _ ?_
  exact jn ⟨_,sj h3⟩ []
 rintro ⟨⟨v1,v2⟩,rfl⟩
 refine A0 _ _ ?_
 refine j4.seqQ fun _ A25 _ R25=>?_
 refine j4.blkQ fun _ A26 _ _ R26=>?_
 refine j6 hn ?_
 refine l7 hn ?_
 refine l5 h (fun hb100 h=>?_) (fun hb100 h=>?_)
 ·refine j6 hn ?_
  refine got hn ?_
  refine R26 _ _ ?_
  refine R25 _ _ ?_
  obtain rfl:=Option.some.inj h
  exact ⟨[],_,fm⟩
 refine j4.seqQ fun _ A27 _ _=>?_
 obtain ⟨o103,h102,h⟩:=j5 h
 refine jk (ι:={ s // o103=s }) hn (fun s=>[(109,.bool s.1)]) (fun s=>[]) [] [] (fun _ A28 _ _=>?_) ?_
 ·refine p9 hn ?_
  refine l5 h102 (fun hb104 h102=>?_) (fun hb104 h102=>?_)
  ·refine j3 hb104 ?_
   refine j3 hb104 ?_
   obtain ⟨r105,hr106,h102⟩:=j5 h102
   show l6 Tryz.prog _ _ _ _
   refine cA (aT1 N a3.name r105 hr106) ?_
   refine j3 hb104 ?_
   refine j3 hb104 ?_
   refine l5 h102 (fun hb107 h102=>?_) (fun hb107 h102=>?_)
   ·refine j3 hb107 ?_
    refine j3 hb107 ?_
    refine j3 hb107 ?_
    refine j3 hb107 ?_
    refine A28 _ _ ?_
    exact jn ⟨_,sj h102⟩ []
   refine d9 hb107 ?_
   refine d9 hb107 ?_
   refine l5 h102 (fun hb108 h102=>?_) (fun hb108 h102=>?_)
   ·refine j3 hb108 ?_
    refine j3 hb108 ?_
    refine d9 hb107 ?_
    refine j3 hb108 ?_
    refine d9 hb107 ?_
    refine l5 h102 (fun hb109 h102=>?_) (fun hb109 h102=>?_)
    ·refine j3 hb109 ?_
     refine j3 hb109 ?_
     refine j3 hb109 ?_
     refine A28 _ _ ?_
     exact jn ⟨_,sj h102⟩ []
    refine d9 hb109 ?_
    refine d9 hb109 ?_
    refine d9 hb109 ?_
    refine l5 h102 (fun hb110 h102=>?_) (fun hb110 h102=>?_)
    ·refine j3 hb110 ?_
     refine j3 hb110 ?_
     refine j3 hb110 ?_
     refine A28 _ _ ?_
     exact jn ⟨_,sj h102⟩ []
    refine d9 hb110 ?_
    refine d9 hb110 ?_
    refine d9 hb110 ?_
    refine A28 _ _ ?_
    exact jn ⟨_,sj h102⟩ []
   refine d9 hb108 ?_
   refine d9 hb108 ?_
   refine d9 hb107 ?_
   refine d9 hb108 ?_
   refine d9 hb107 ?_
   refine l5 h102 (fun hb111 h102=>?_) (fun hb111 h102=>?_)
   ·refine j3 hb111 ?_
    refine j3 hb111 ?_
    refine j3 hb111 ?_
    refine A28 _ _ ?_
    exact jn ⟨_,sj h102⟩ []
   refine d9 hb111 ?_
   refine d9 hb111 ?_
   refine d9 hb111 ?_
   refine A28 _ _ ?_
   exact jn ⟨_,sj h102⟩ []
  refine d9 hb104 ?_
  refine d9 hb104 ?_
  refine d9 hb104 ?_
  refine d9 hb104 ?_
  refine l5 h102 (fun hb112 h102=>?_) (fun hb112 h102=>?_)
  ·refine j3 hb112 ?_
   refine j3 hb112 ?_
   refine j3 hb112 ?_
   refine l5 h102 (fun hb113 h102=>?_) (fun hb113 h102=>?_)
   ·refine j3 hb113 ?_
    refine j3 hb113 ?_
    refine j3 hb113 ?_
    refine A28 _ _ ?_
    exact jn ⟨_,sj h102⟩ []
   refine d9 hb113 ?_
   refine d9 hb113 ?_
   refine d9 hb113 ?_
   refine l5 h102 (fun hb114 h102=>?_) (fun hb114 h102=>?_)
   ·refine j3 hb114 ?_
    refine j3 hb114 ?_
    refine j3 hb114 ?_
    refine A28 _ _ ?_
    exact jn ⟨_,sj h102⟩ []
   refine d9 hb114 ?_
   refine d9 hb114 ?_
   refine d9 hb114 ?_
   refine A28 _ _ ?_
   exact jn ⟨_,sj h102⟩ []
  refine d9 hb112 ?_
  refine d9 hb112 ?_
  refine d9 hb112 ?_
  refine l5 h102 (fun hb115 h102=>?_) (fun hb115 h102=>?_)
  ·refine j3 hb115 ?_
   refine j3 hb115 ?_
   refine j3 hb115 ?_
   refine A28 _ _ ?_
   exact jn ⟨_,sj h102⟩ []
  refine d9 hb115 ?_
  refine d9 hb115 ?_
  refine d9 hb115 ?_
  refine A28 _ _ ?_
  exact jn ⟨_,sj h102⟩ []
 rintro ⟨v101,hv_⟩
 replace hv_:=hv_.symm
 subst hv_
 refine A27 _ _ ?_
 refine l7 hn ?_
 refine l5 h (fun hb116 h=>?_) (fun hb116 h=>?_)
 ·refine j6 hn ?_
  refine got hn ?_
  refine R26 _ _ ?_
  refine R25 _ _ ?_
  obtain rfl:=Option.some.inj h
  exact ⟨[],_,fm⟩
 refine l9 hn ?_
 refine A26 _ _ ?_
 refine A25 _ _ ?_
 refine j6 hn ?_
 refine got hn ?_
 obtain rfl:=Option.some.inj h
 exact ⟨[],_,fm⟩

/- code.effect -/
set_option maxRecDepth 100000 in
set_option maxHeartbeats 8000000 in
theorem bS8 (N:Nat) (a0:Ins) (r:(Int×Int)) (h:aL7 N a0=some r):Spec Tryz.prog 108 [] [.agg (aG9 a0)] (.tup [.int r.1,.int r.2]) [] []:=by
 refine Spec.of F3 Tryz.func108 rfl Tryz.ntmps108 (by kernel_rfl) rfl rfl rfl fun Γ hn=>?_
 unfold aL7 at h
 refine j6 hn ?_
 refine j4.seqQ fun _ A0 _ R0=>?_
 refine j6 hn ?_
 refine j4.blkQ fun _ A1 _ _ R1=>?_
 refine j4.seqQ fun _ A2 _ _=>?_
 refine j6 hn ?_
 obtain ⟨o3,h2,h⟩:=j5 h
 refine jk (ι:={ s // o3=s }) hn (fun s=>[(6,.bool s.1)]) (fun s=>[]) [(1,_),(5,_)] [(1,_)] (fun _ A3 _ _=>?_) ?_
 ·refine l7 hn ?_
  refine l5 h2 (fun hb4 h2=>?_) (fun hb4 h2=>?_)
  ·refine l9 hn ?_
   refine A3 _ _ ?_
   exact jn ⟨_,sj h2⟩ []
  refine j6 hn ?_
  obtain ⟨o7,h6,h2⟩:=j5 h2
  refine jk (ι:={ s // o7=s }) hn (fun s=>[(6,.bool s.1)]) (fun s=>[]) [(1,_),(5,_)] [(1,_)] (fun _ A4 _ _=>?_) ?_
  ·refine l7 hn ?_
   refine l5 h6 (fun hb8 h6=>?_) (fun hb8 h6=>?_)
   ·refine l9 hn ?_
    refine A4 _ _ ?_
    exact jn ⟨_,sj h6⟩ []
   refine j6 hn ?_
   obtain ⟨o11,h10,h6⟩:=j5 h6
   refine jk (ι:={ s // o11=s }) hn (fun s=>[(6,.bool s.1)]) (fun s=>[]) [(1,_),(5,_)] [(1,_)] (fun _ A5 _ _=>?_) ?_
   ·refine l7 hn ?_
    refine l5 h10 (fun hb12 h10=>?_) (fun hb12 h10=>?_)
    ·refine l9 hn ?_
     refine A5 _ _ ?_
     exact jn ⟨_,sj h10⟩ []
    refine j6 hn ?_
    obtain ⟨o15,h14,h10⟩:=j5 h10
    refine jk (ι:={ s // o15=s }) hn (fun s=>[(6,.bool s.1)]) (fun s=>[]) [(1,_),(5,_)] [(1,_)] (fun _ A6 _ _=>?_) ?_
    ·refine l7 hn ?_
     refine l5 h14 (fun hb16 h14=>?_) (fun hb16 h14=>?_)
     ·refine l9 hn ?_
      refine A6 _ _ ?_
      exact jn ⟨_,sj h14⟩ []
     refine p9 hn ?_
     refine A6 _ _ ?_
     exact jn ⟨_,sj h14⟩ []
    rintro ⟨v13,hv_⟩
    replace hv_:=hv_.symm
    subst hv_
    refine A5 _ _ ?_
    exact jn ⟨_,sj h10⟩ []
   rintro ⟨v9,hv_⟩
   replace hv_:=hv_.symm
   subst hv_
   refine A4 _ _ ?_
   exact jn ⟨_,sj h6⟩ []
  rintro ⟨v5,hv_⟩
  replace hv_:=hv_.symm
  subst hv_
  refine A3 _ _ ?_
  exact jn ⟨_,sj h2⟩ []
 rintro ⟨v1,hv_⟩
 replace hv_:=hv_.symm
 subst hv_
 refine A2 _ _ ?_
 refine l7 hn ?_
 refine l5 h (fun hb17 h=>?_) (fun hb17 h=>?_)
 ·refine j6 hn ?_
  refine got hn ?_
  refine R1 _ _ ?_
  refine R0 _ _ ?_
  obtain rfl:=Option.some.inj h
  exact ⟨[],_,fm⟩
 refine j6 hn ?_
 refine l7 hn ?_
 refine l5 h (fun hb18 h=>?_) (fun hb18 h=>?_)
 ·refine j6 hn ?_
  refine got hn ?_
  refine R1 _ _ ?_
  refine R0 _ _ ?_
  obtain rfl:=Option.some.inj h
  exact ⟨[],_,fm⟩
 refine j6 hn ?_
 refine l7 hn ?_
 refine l5 h (fun hb19 h=>?_) (fun hb19 h=>?_)
 ·refine j6 hn ?_
  refine Or.inr ?_
  refine got hn ?_
  refine R1 _ _ ?_
  refine R0 _ _ ?_
  obtain rfl:=Option.some.inj h
  exact ⟨[],_,fm⟩
 refine j6 hn ?_
 refine l7 hn ?_
 refine l5 h (fun hb20 h=>?_) (fun hb20 h=>?_)
 ·refine j6 hn ?_
  refine got hn ?_
  refine R1 _ _ ?_
  refine R0 _ _ ?_
  obtain rfl:=Option.some.inj h
  exact ⟨[],_,fm⟩
 refine l9 hn ?_
 refine A1 _ _ ?_
 refine A0 _ _ ?_
 refine j6 hn ?_
 refine got hn ?_
 obtain rfl:=Option.some.inj h
 exact ⟨[],_,fm⟩

/- code.Heights -/
set_option maxRecDepth 100000 in
set_option maxHeartbeats 8000000 in
theorem bO9 (N:Nat) (a0:Me) (r:((List Int)×D8)) (h:aK2 N a0=some r):Spec Tryz.prog 75 [] [.agg (Z6 a0)] (.tup [.own 0,.agg (bH0 r.2)]) [(0,.row 1 (List.map F7 r.1) 3)] [0]:=by
 refine Spec.of F3 Tryz.func75 rfl Tryz.ntmps75 (by kernel_rfl) rfl rfl rfl fun Γ hn=>?_
 unfold aK2 at h
 refine j6 hn ?_
 refine j6 hn ?_
 refine u7 (fun _=>?_)
 obtain ⟨hg2,h⟩:=F6 h
 refine mkM (enc:=F7) (x:=(0:Int)) hg2 (by repeat (first|exact trivial|exact rfl|(refine And.intro ?_ ?_))) ?_
 refine j4.seqQ fun _ A0 _ _=>?_
 refine j6 hn ?_
 refine u7 (fun _=>?_)
 refine j4.rng 17 rfl (fun hrn4=>?_)
 obtain ⟨o8,h9,h⟩:=j5 h
 refine jk (ι:={ s // o8=s }) hn (fun s=>[]) (fun s=>[(15,.row 1 (List.map F7 s.1) 3)]) [(1,_),(3,_),(4,_)] [(1,_),(3,_)] (fun _ A1 _ _=>?_) ?_
 ·refine j4.blkQ fun _ _ E2 _ _=>?_
  refine lq (ι:={ q:(Nat×Nat×(List Int)) // q.1=(((List.replicate (a0.code.length:Int).toNat (0:Int)).length:Int) - (q.2.1:Int)).toNat∧U3 N q.1 q.2.1 q.2.2=some o8 }) hn (fun q=>[(18,.int (q.1.2.1:Int))]) (fun q=>[(15,.row 1 (List.map F7 q.1.2.2) 3)]) (fun q=>q.1.1) [(1,_),(3,_),(4,_),(17,_)] [(1,_),(3,_)] ⟨((((List.replicate (a0.code.length:Int).toNat (0:Int)).length:Int) - ((0:Nat):Int)).toNat,0,(List.replicate (a0.code.length:Int).toNat (0:Int))),rfl,h9⟩ [] ?_
  rintro ⟨⟨n_,k4,v5⟩,hd11,h9⟩ _ A3 X3 _
  replace hd11:n_=(((List.replicate (a0.code.length:Int).toNat (0:Int)).length:Int) - (k4:Int)).toNat:=hd11
  rcases n_ with _|n12
  ·have hlt15:=aH2 hd11
   replace h9:=(U3.eq_1 _ _ _).symm.trans h9
   refine j6 hn ?_
   refine j4.seqQ fun _ _ X4 _=>?_
   refine l7 hn ?_
   refine d9 hlt15 ?_
   refine H8 hn ?_
   refine X4 _ _ _ ?_
   refine X3 _ _ _ ?_
   refine E2 _ _ ?_
   refine A1 _ _ ?_
   exact jn ⟨_,sj h9⟩ []
  ·obtain ⟨hd2,hlt15⟩:=aE5 hd11
   replace h9:=(U3.eq_2 _ _ _ _).symm.trans h9
   refine j6 hn ?_
   refine j4.seqQ fun _ A5 _ _=>?_
   refine l7 hn ?_
   refine j3 hlt15 ?_
   refine l9 hn ?_
   refine A5 _ _ ?_
   refine j4.seqQ fun _ A6 _ _=>?_
   refine j4.blkQ fun _ A7 _ _ _=>?_
   refine j6 hn ?_
   refine p9 hn ?_
   obtain ⟨x16,hx17,h9⟩:=j5 h9
   refine aI8 hx17 ?_
   refine ldM (J2 hx17).2 ?_
   refine Exists.intro (List.map F7 (v5.set ((k4:Int).toNat) (-1:Int))) (And.intro (bC1 (J2 hx17).2 (by repeat (first|exact trivial|exact rfl|(refine And.intro ?_ ?_)))) ?_)
   refine A7 _ _ ?_
   refine A6 _ _ ?_
   refine p9 hn ?_
   refine Or.inl (And.intro (aL4 hlt15 hrn4) ?_)
   refine A3 _ _ ?_
   exact jn ⟨(n12,k4+1,(v5.set ((k4:Int).toNat) (-1:Int))),hd2,h9⟩ [] (by show n12 < n12+1; omega)
 rintro ⟨v7,hv_⟩
 replace hv_:=hv_.symm
 subst hv_
 refine A0 _ _ ?_
 refine j6 hn ?_
 refine Exists.intro (List.map aM8 [(⟨(0:Int),(0:Int)⟩:J3)]) (And.intro (by repeat (first|exact trivial|exact rfl|(refine And.intro ?_ ?_))) ?_)
 refine j4.seqQ fun _ A8 _ R8=>?_
 obtain ⟨o24,h25,h⟩:=j5 h
 refine jk (ι:={ s // o24=C9.next s }) hn (fun s=>[]) (fun s=>[(15,.row 1 (List.map F7 s.1) 3)]) [(3,_),(4,_)] [(3,_)] (fun _ A9 _ R9=>?_) ?_
 ·refine j4.blkQ fun _ _ E10 _ R10=>?_
  refine lq (ι:={ q:(Nat×(List Int)×(List J3)) // U4 N a0 q.1 q.2.1 q.2.2=some o24 }) hn (fun q=>[]) (fun q=>[(15,.row 1 (List.map F7 q.1.2.1) 3),(26,.row 2 (List.map aM8 q.1.2.2) 184)]) (fun q=>q.1.1) [(1,_),(3,_),(4,_),(6,_)] [(1,_),(3,_)] ⟨(N,v7,[(⟨(0:Int),(0:Int)⟩:J3)]),h25⟩ [] ?_
  rintro ⟨⟨n_,v19,v20⟩,h25⟩ _ A11 X11 R11
  rcases n_ with _|n28
  ·rw [U4.eq_1] at h25
   cases h25
  ·replace h25:=(U4.eq_2 _ _ _ _ _).symm.trans h25
   refine j4.seqQ fun _ A12 X12 _=>?_
   refine j6 hn ?_
   refine u7 (fun _=>?_)
   refine l7 hn ?_
   refine l5 h25 (fun hb30 h25=>?_) (fun hb30 h25=>?_)
   ·refine l9 hn ?_
    refine A12 _ _ ?_
    obtain ⟨o34,h33,h25⟩:=j5 h25
    refine jk (ι:={ s // o34=C9.next s }) hn (fun s=>[(6,.own 39)]) (fun s=>[(15,.row 1 (List.map F7 s.1.1) 3),(39,.row 2 (List.map aM8 s.1.2) 184)]) [(1,_),(3,_),(4,_)] [(1,_),(3,_)] (fun _ A13 _ R13=>?_) ?_
    ·refine j4.blkQ fun _ A14 E14 _ R14=>?_
     refine j4.seqQ fun _ A15 _ _=>?_
     refine god hn (by kernel_rfl) ?_
     obtain ⟨x35,hx36,h33⟩:=j5 h33
     refine aI8 hx36 ?_
     refine And.intro (by decide) (And.intro (by decide) ?_)
     refine ldM (J2 hx36).2 ?_
     obtain ⟨x37,hx38,h33⟩:=j5 h33
     refine aI8 hx38 ?_
     refine And.intro (by decide) (And.intro (by decide) ?_)
     refine ldM (J2 hx38).2 ?_
     refine A15 _ _ ?_
     refine kp [(1,_),(3,_),(4,_),(6,_),(7,_),(8,_)] [(1,_),(3,_),(15,_),(26,_)] ?_
     refine j6 hn ?_
     obtain ⟨hg39,h33⟩:=F6 h33
     refine cU9 hg39 rfl rfl ?_
     refine j4.seqQ fun _ A16 _ R16=>?_
     refine j4.seqQ fun _ A17 _ _=>?_
     obtain ⟨o42,h41,h33⟩:=j5 h33
     refine jk (ι:={ s // o42=s }) hn (fun s=>[(48,.bool s.1)]) (fun s=>[]) [(1,_),(3,_),(4,_),(6,_),(7,_),(8,_)] [(1,_),(3,_),(15,_),(39,_)] (fun _ A18 _ _=>?_) ?_
     ·refine p9 hn ?_
      refine l5 h41 (fun hb43 h41=>?_) (fun hb43 h41=>?_)
      ·refine j3 hb43 ?_
       refine j3 hb43 ?_
       refine j3 hb43 ?_
       refine j3 hb43 ?_
       refine j3 hb43 ?_
       refine A18 _ _ ?_
       exact jn ⟨_,sj h41⟩ []
      refine d9 hb43 ?_
      refine d9 hb43 ?_
      refine d9 hb43 ?_
      refine u7 (fun _=>?_)
      refine d9 hb43 ?_
      refine d9 hb43 ?_
      refine A18 _ _ ?_
      exact jn ⟨_,sj h41⟩ []
     rintro ⟨v40,hv_⟩
     replace hv_:=hv_.symm
     subst hv_
     refine A17 _ _ ?_
     refine l7 hn ?_
     refine l5 h33 (fun hb45 h33=>?_) (fun hb45 h33=>?_)
     ·refine j4.seqQ fun _ A19 _ _=>?_
      refine god hn (by kernel_rfl) ?_
      refine u7 (fun _=>?_)
      refine A19 _ _ ?_
      refine j4.nilrow 2 202 1 3 rfl rfl rfl ?_
      refine got hn ?_
      refine R16 _ _ ?_
      refine R14 _ _ ?_
      refine R13 _ _ ?_
      refine R11 _ _ ?_
      refine R10 _ _ ?_
      refine R9 _ _ ?_
      refine R8 _ _ ?_
      obtain rfl:=Option.some.inj h33
      obtain rfl:=Option.some.inj h25
      obtain rfl:=Option.some.inj h
      exact ⟨[(0,202)],_,fm⟩
     refine l9 hn ?_
     refine A16 _ _ ?_
     refine j4.seqQ fun _ A20 X20 R20=>?_
     refine j6 hn ?_
     obtain ⟨x47,hx48,h33⟩:=j5 h33
     refine aI8 hx48 ?_
     refine ldM (J2 hx48).2 ?_
     refine l7 hn ?_
     refine l5 h33 (fun hb49 h33=>?_) (fun hb49 h33=>?_)
     ·refine j4.seqQ fun _ A21 _ R21=>?_
      refine j6 hn ?_
      obtain ⟨x50,hx51,h33⟩:=j5 h33
      refine aI8 hx51 ?_
      refine ldM (J2 hx51).2 ?_
      refine l7 hn ?_
      refine l5 h33 (fun hb52 h33=>?_) (fun hb52 h33=>?_)
      ·refine kp [(3,_),(7,_)] [(3,_)] ?_
       refine j6 hn ?_
       refine j4.nilrow 2 202 1 3 rfl rfl rfl ?_
       refine got hn ?_
       refine R21 _ _ ?_
       refine R20 _ _ ?_
       refine R14 _ _ ?_
       refine R13 _ _ ?_
       refine R11 _ _ ?_
       refine R10 _ _ ?_
       refine R9 _ _ ?_
       refine R8 _ _ ?_
       obtain rfl:=Option.some.inj h33
       obtain rfl:=Option.some.inj h25
       obtain rfl:=Option.some.inj h
       exact ⟨[(0,202)],_,fm⟩
      refine l9 hn ?_
      refine A21 _ _ ?_
      refine H8 hn ?_
      refine X20 _ _ _ ?_
      refine E14 _ _ ?_
      refine A13 _ _ ?_
      exact jn ⟨_,sj h33⟩ []
     refine l9 hn ?_
     refine A20 _ _ ?_
     refine j6 hn ?_
     obtain ⟨x53,hx54,h33⟩:=j5 h33
     refine aI8 hx54 ?_
     refine ldM (J2 hx54).2 ?_
     refine Exists.intro (List.map F7 (v19.set x35.f0.toNat x37.f1)) (And.intro (bC1 (J2 hx54).2 (by repeat (first|exact trivial|exact rfl|(refine And.intro ?_ ?_)))) ?_)
     refine j6 hn ?_
     obtain ⟨x55,hx56,h33⟩:=j5 h33
     refine W9 hx56 ?_
     refine kp [(1,_),(3,_),(4,_),(6,_),(7,_),(8,_),(9,_)] [(1,_),(3,_),(9,_),(15,_),(39,_)] ?_
     refine j6 hn ?_
     obtain ⟨r57,hr58,h33⟩:=j5 h33
     show l6 Tryz.prog _ _ _ _
     refine cA (bS8 N x55 r57 hr58) ?_
     refine j4.seqQ fun _ A22 _ R22=>?_
     refine j4.seqQ fun _ A23 _ _=>?_
     obtain ⟨o61,h60,h33⟩:=j5 h33
     refine jk (ι:={ s // o61=s }) hn (fun s=>[(91,.bool s.1)]) (fun s=>[]) [(1,_),(3,_),(4,_),(6,_),(7,_),(8,_),(9,_),(10,_),(11,_)] [(1,_),(3,_),(9,_),(15,_),(39,_)] (fun _ A24 _ _=>?_) ?_
     ·refine p9 hn ?_
      refine l5 h60 (fun hb62 h60=>?_) (fun hb62 h60=>?_)
      ·refine j3 hb62 ?_
       refine j3 hb62 ?_
       refine j3 hb62 ?_
       refine j3 hb62 ?_
       refine j3 hb62 ?_
       refine A24 _ _ ?_
       exact jn ⟨_,sj h60⟩ []
      refine d9 hb62 ?_
      refine d9 hb62 ?_
      refine d9 hb62 ?_
      refine l5 h60 (fun hb63 h60=>?_) (fun hb63 h60=>?_)
      ·refine j3 hb63 ?_
       refine d9 hb62 ?_
       refine j3 hb63 ?_
       refine d9 hb62 ?_
       refine A24 _ _ ?_
       exact jn ⟨_,sj h60⟩ []
      refine d9 hb63 ?_
      refine d9 hb62 ?_
      refine d9 hb63 ?_
      refine d9 hb62 ?_
      refine A24 _ _ ?_
      exact jn ⟨_,sj h60⟩ []
     rintro ⟨v59,hv_⟩
     replace hv_:=hv_.symm
     subst hv_
     refine A23 _ _ ?_
     refine l7 hn ?_
     refine l5 h33 (fun hb64 h33=>?_) (fun hb64 h33=>?_)
     ·refine j6 hn ?_
      refine j4.nilrow 2 202 1 3 rfl rfl rfl ?_
      refine got hn ?_
      refine R22 _ _ ?_
      refine R14 _ _ ?_
      refine R13 _ _ ?_
      refine R11 _ _ ?_
      refine R10 _ _ ?_
      refine R9 _ _ ?_
      refine R8 _ _ ?_
      obtain rfl:=Option.some.inj h33
      obtain rfl:=Option.some.inj h25
      obtain rfl:=Option.some.inj h
      exact ⟨[(0,202)],_,fm⟩
     refine l9 hn ?_
     refine A22 _ _ ?_
     refine j6 hn ?_
     refine Or.inr ?_
     refine Or.inr ?_
     refine j4.seqQ fun _ A25 _ R25=>?_
     refine j6 hn ?_
     refine l7 hn ?_
     refine l5 h33 (fun hb65 h33=>?_) (fun hb65 h33=>?_)
     ·refine kp [(3,_),(7,_)] [(3,_)] ?_
      refine j6 hn ?_
      refine j4.nilrow 2 202 1 3 rfl rfl rfl ?_
      refine got hn ?_
      refine R25 _ _ ?_
      refine R14 _ _ ?_
      refine R13 _ _ ?_
      refine R11 _ _ ?_
      refine R10 _ _ ?_
      refine R9 _ _ ?_
      refine R8 _ _ ?_
      obtain rfl:=Option.some.inj h33
      obtain rfl:=Option.some.inj h25
      obtain rfl:=Option.some.inj h
      exact ⟨[(0,202)],_,fm⟩
     refine l9 hn ?_
     refine A25 _ _ ?_
     refine j4.seqQ fun _ A26 _ _=>?_
     refine j4.seqQ fun _ A27 _ _=>?_
     obtain ⟨o68,h67,h33⟩:=j5 h33
     refine jk (ι:={ s // o68=s }) hn (fun s=>[(110,.bool s.1)]) (fun s=>[]) [(1,_),(3,_),(4,_),(6,_),(7,_),(8,_),(9,_)] [(1,_),(3,_),(9,_),(15,_),(39,_)] (fun _ A28 _ _=>?_) ?_
     ·refine kp [(1,_),(3,_),(4,_),(6,_),(7,_),(8,_),(9,_)] [(1,_),(3,_),(9,_),(15,_),(39,_)] ?_
      refine p9 hn ?_
      refine l5 h67 (fun hb69 h67=>?_) (fun hb69 h67=>?_)
      ·refine j3 hb69 ?_
       refine j3 hb69 ?_
       refine j3 hb69 ?_
       refine A28 _ _ ?_
       exact jn ⟨_,sj h67⟩ []
      refine d9 hb69 ?_
      refine d9 hb69 ?_
      refine d9 hb69 ?_
      refine A28 _ _ ?_
      exact jn ⟨_,sj h67⟩ []
     rintro ⟨v66,hv_⟩
     replace hv_:=hv_.symm
     subst hv_
     refine A27 _ _ ?_
     obtain ⟨o72,h71,h33⟩:=j5 h33
     refine jk (ι:={ s // o72=s }) hn (fun s=>[(6,.own 117)]) (fun s=>[(117,.row 2 (List.map aM8 s.1) 184)]) [(1,_),(3,_),(4,_),(8,_),(9,_)] [(1,_),(3,_),(9,_),(15,_)] (fun _ A29 _ _=>?_) ?_
     ·refine l7 hn ?_
      refine l5 h71 (fun hb73 h71=>?_) (fun hb73 h71=>?_)
      ·refine p9 hn ?_
       refine Or.inr ?_
       refine Exists.intro (List.map aM8 [(⟨(wr (x35.f0+(1:Int))),(wr (x37.f1+(wr (r57.2 - r57.1))))⟩:J3)]) (And.intro (by repeat (first|exact trivial|exact rfl|(refine And.intro ?_ ?_))) ?_)
       obtain ⟨hg74,h71⟩:=F6 h71
       refine aJ7 (l2:=[(⟨(wr (x35.f0+(1:Int))),(wr (x37.f1+(wr (r57.2 - r57.1))))⟩:J3)]) hg74 (H7 _) ?_
       refine A29 _ _ ?_
       exact jn ⟨_,sj h71⟩ []
      refine l9 hn ?_
      refine A29 _ _ ?_
      exact jn ⟨_,sj h71⟩ [(117,39)]
     rintro ⟨v70,hv_⟩
     replace hv_:=hv_.symm
     subst hv_
     refine A26 _ _ ?_
     refine j4.seqQ fun _ A30 _ _=>?_
     obtain ⟨o77,h76,h33⟩:=j5 h33
     refine jk (ι:={ s // o77=s }) hn (fun s=>[(125,.bool s.1)]) (fun s=>[]) [(1,_),(3,_),(4,_),(6,_),(8,_),(9,_)] [(1,_),(3,_),(9,_),(15,_),(117,_)] (fun _ A31 _ _=>?_) ?_
     ·refine p9 hn ?_
      refine l5 h76 (fun hb78 h76=>?_) (fun hb78 h76=>?_)
      ·refine j3 hb78 ?_
       refine j3 hb78 ?_
       refine j3 hb78 ?_
       refine A31 _ _ ?_
       exact jn ⟨_,sj h76⟩ []
      refine d9 hb78 ?_
      refine d9 hb78 ?_
      refine d9 hb78 ?_
      refine A31 _ _ ?_
      exact jn ⟨_,sj h76⟩ []
     rintro ⟨v75,hv_⟩
     replace hv_:=hv_.symm
     subst hv_
     refine A30 _ _ ?_
     obtain ⟨o81,h80,h33⟩:=j5 h33
     refine jk (ι:={ s // o81=s }) hn (fun s=>[(6,.own 132)]) (fun s=>[(132,.row 2 (List.map aM8 s.1) 184)]) [(1,_),(3,_),(4,_)] [(1,_),(3,_),(15,_)] (fun _ A32 _ _=>?_) ?_
     ·refine l7 hn ?_
      refine l5 h80 (fun hb82 h80=>?_) (fun hb82 h80=>?_)
      ·refine p9 hn ?_
       refine Exists.intro (List.map aM8 [(⟨x55.a,(wr (x37.f1+(wr (r57.2 - r57.1))))⟩:J3)]) (And.intro (by repeat (first|exact trivial|exact rfl|(refine And.intro ?_ ?_))) ?_)
       obtain ⟨hg83,h80⟩:=F6 h80
       refine aJ7 (l2:=[(⟨x55.a,(wr (x37.f1+(wr (r57.2 - r57.1))))⟩:J3)]) hg83 (H7 _) ?_
       refine A32 _ _ ?_
       exact jn ⟨_,sj h80⟩ []
      refine l9 hn ?_
      refine A32 _ _ ?_
      exact jn ⟨_,sj h80⟩ [(132,117)]
     rintro ⟨v79,hv_⟩
     replace hv_:=hv_.symm
     subst hv_
     refine A14 _ _ ?_
     refine A13 _ _ ?_
     exact jn ⟨_,sj h33⟩ [(39,132)]
    rintro ⟨⟨v31,v32⟩,rfl⟩
    refine A11 _ _ ?_
    exact jn ⟨(n28,v31,v32),h25⟩ [(26,39)] (by show n28 < n28+1; omega)
   refine H8 hn ?_
   refine X12 _ _ _ ?_
   refine X11 _ _ _ ?_
   refine E10 _ _ ?_
   refine A9 _ _ ?_
   exact jn ⟨_,sj h25⟩ []
 rintro ⟨v23,rfl⟩
 refine A8 _ _ ?_
 refine j6 hn ?_
 refine got hn ?_
 obtain rfl:=Option.some.inj h
 exact ⟨[(0,15)],_,fm⟩

/- code.Check -/
set_option maxRecDepth 100000 in
set_option maxHeartbeats 8000000 in
theorem bX3 (N:Nat) (a0:Wd) (a1:Int) (a2:Me) (r:D8) (h:aN6 N a0 a1 a2=some r):Spec Tryz.prog 39 [] [.agg (eWd a0),.int a1,.agg (Z6 a2)] (.agg (bH0 r)) [] []:=by
 refine Spec.of F3 Tryz.func39 rfl Tryz.ntmps39 (by kernel_rfl) rfl rfl rfl fun Γ hn=>?_
 unfold aN6 at h
 refine j6 hn ?_
 refine j4.seqQ fun _ A0 _ R0=>?_
 refine j4.blkQ fun _ A1 _ _ R1=>?_
 refine j4.seqQ fun _ A2 _ _=>?_
 obtain ⟨o3,h2,h⟩:=j5 h
 refine jk (ι:={ s // o3=s }) hn (fun s=>[(12,.bool s.1)]) (fun s=>[]) [(1,_),(3,_),(5,_),(6,_)] [(3,_),(5,_),(6,_)] (fun _ A3 _ _=>?_) ?_
 ·refine p9 hn ?_
  refine l5 h2 (fun hb4 h2=>?_) (fun hb4 h2=>?_)
  ·refine j3 hb4 ?_
   refine j3 hb4 ?_
   refine j3 hb4 ?_
   refine j3 hb4 ?_
   refine j3 hb4 ?_
   refine A3 _ _ ?_
   exact jn ⟨_,sj h2⟩ []
  refine d9 hb4 ?_
  refine d9 hb4 ?_
  refine d9 hb4 ?_
  refine u7 (fun _=>?_)
  refine d9 hb4 ?_
  refine d9 hb4 ?_
  refine A3 _ _ ?_
  exact jn ⟨_,sj h2⟩ []
 rintro ⟨v1,hv_⟩
 replace hv_:=hv_.symm
 subst hv_
 refine A2 _ _ ?_
 refine l7 hn ?_
 refine l5 h (fun hb6 h=>?_) (fun hb6 h=>?_)
 ·refine j6 hn ?_
  refine got hn ?_
  refine R1 _ _ ?_
  refine R0 _ _ ?_
  obtain rfl:=Option.some.inj h
  exact ⟨[],_,fm⟩
 refine j6 hn ?_
 obtain ⟨r7,hr8,h⟩:=j5 h
 show l6 Tryz.prog _ _ _ _
 refine cA (aT1 N a2.name r7 hr8) ?_
 refine l7 hn ?_
 refine l5 h (fun hb9 h=>?_) (fun hb9 h=>?_)
 ·refine j6 hn ?_
  refine got hn ?_
  refine R1 _ _ ?_
  refine R0 _ _ ?_
  obtain rfl:=Option.some.inj h
  exact ⟨[],_,fm⟩
 refine j4.seqQ fun _ A4 _ _=>?_
 obtain ⟨o12,h11,h⟩:=j5 h
 refine jk (ι:={ s // o12=s }) hn (fun s=>[(29,.bool s.1)]) (fun s=>[]) [(1,_),(3,_),(5,_),(6,_)] [(3,_),(5,_),(6,_)] (fun _ A5 _ _=>?_) ?_
 ·refine p9 hn ?_
  refine l5 h11 (fun hb13 h11=>?_) (fun hb13 h11=>?_)
  ·refine j3 hb13 ?_
   refine j3 hb13 ?_
   refine j3 hb13 ?_
   refine A5 _ _ ?_
   exact jn ⟨_,sj h11⟩ []
  refine d9 hb13 ?_
  refine d9 hb13 ?_
  refine d9 hb13 ?_
  refine l5 h11 (fun hb14 h11=>?_) (fun hb14 h11=>?_)
  ·refine j3 hb14 ?_
   refine j3 hb14 ?_
   refine j3 hb14 ?_
   refine A5 _ _ ?_
   exact jn ⟨_,sj h11⟩ []
  refine d9 hb14 ?_
  refine d9 hb14 ?_
  refine d9 hb14 ?_
  refine l5 h11 (fun hb15 h11=>?_) (fun hb15 h11=>?_)
  ·refine j3 hb15 ?_
   refine j3 hb15 ?_
   refine j3 hb15 ?_
   refine A5 _ _ ?_
   exact jn ⟨_,sj h11⟩ []
  refine d9 hb15 ?_
  refine d9 hb15 ?_
  refine d9 hb15 ?_
  refine A5 _ _ ?_
  exact jn ⟨_,sj h11⟩ []
 rintro ⟨v10,hv_⟩
 replace hv_:=hv_.symm
 subst hv_
 refine A4 _ _ ?_
 refine l7 hn ?_
 refine l5 h (fun hb16 h=>?_) (fun hb16 h=>?_)
 ·refine j6 hn ?_
  refine got hn ?_
  refine R1 _ _ ?_
  refine R0 _ _ ?_
  obtain rfl:=Option.some.inj h
  exact ⟨[],_,fm⟩
 refine j6 hn ?_
 refine l7 hn ?_
 refine l5 h (fun hb17 h=>?_) (fun hb17 h=>?_)
 ·refine j6 hn ?_
  refine got hn ?_
  refine R1 _ _ ?_
  refine R0 _ _ ?_
  obtain rfl:=Option.some.inj h
  exact ⟨[],_,fm⟩
 refine j4.seqQ fun _ A6 _ _=>?_
 obtain ⟨o20,h19,h⟩:=j5 h
 refine jk (ι:={ s // o20=s }) hn (fun s=>[(54,.bool s.1)]) (fun s=>[]) [(1,_),(3,_),(5,_),(6,_)] [(3,_),(5,_),(6,_)] (fun _ A7 _ _=>?_) ?_
 ·refine p9 hn ?_
  refine u7 (fun _=>?_)
  refine l5 h19 (fun hb22 h19=>?_) (fun hb22 h19=>?_)
  ·refine j3 hb22 ?_
   refine j3 hb22 ?_
   refine j3 hb22 ?_
   refine j3 hb22 ?_
   refine A7 _ _ ?_
   exact jn ⟨_,sj h19⟩ []
  refine d9 hb22 ?_
  refine d9 hb22 ?_
  refine u7 (fun _=>?_)
  refine d9 hb22 ?_
  refine d9 hb22 ?_
  refine A7 _ _ ?_
  exact jn ⟨_,sj h19⟩ []
 rintro ⟨v18,hv_⟩
 replace hv_:=hv_.symm
 subst hv_
 refine A6 _ _ ?_
 refine l7 hn ?_
 refine l5 h (fun hb24 h=>?_) (fun hb24 h=>?_)
 ·refine j6 hn ?_
  refine got hn ?_
  refine R1 _ _ ?_
  refine R0 _ _ ?_
  obtain rfl:=Option.some.inj h
  exact ⟨[],_,fm⟩
 refine l9 hn ?_
 refine A1 _ _ ?_
 refine A0 _ _ ?_
 refine j4.seqQ fun _ A8 _ R8=>?_
 refine j6 hn ?_
 refine u7 (fun hl25=>?_)
 refine j4.gh (Gh.fzBox 3 3 rfl rfl rfl) (fun _=>?_)
 refine j4.gh (Gh.fzBox 5 5 rfl rfl rfl) (fun _=>?_)
 obtain ⟨o27,h28,h⟩:=j5 h
 refine jk (ι:={ s // o27=C9.next s }) hn (fun s=>[]) (fun s=>[]) [(5,_),(6,_)] [(6,_)] (fun _ A9 _ R9=>?_) ?_
 ·refine j4.blkQ fun _ _ E10 _ R10=>?_
  refine lq (ι:={ q:((List Ins)×Nat) // q.1=a2.code.drop q.2∧aC3 N a0 a1 a2 q.1 q.2=some o27 }) hn (fun q=>[(69,.int (q.1.2:Int))]) (fun q=>[]) (fun q=>q.1.1.length) [(1,_),(3,_),(5,_),(6,_),(67,_),(68,_)] [(6,_)] ⟨(a2.code,0),rfl,h28⟩ [] ?_
  rintro ⟨⟨rest_,k26⟩,hd30,h28⟩ _ A11 X11 R11
  replace hd30:rest_=a2.code.drop k26:=hd30
  rcases rest_ with _|⟨x32,rest29⟩
  ·have hlt34:=G6 hd30
   replace h28:=(aC3.eq_1 _ _ _ _ _).symm.trans h28
   refine j6 hn ?_
   refine j4.seqQ fun _ _ X12 _=>?_
   refine l7 hn ?_
   refine d9 hlt34 ?_
   refine H8 hn ?_
   refine X12 _ _ _ ?_
   refine X11 _ _ _ ?_
   refine E10 _ _ ?_
   refine A9 _ _ ?_
   exact jn ⟨_,sj h28⟩ []
  ·obtain ⟨hx33,hd2,hlt34⟩:=z8 hd30
   replace h28:=(aC3.eq_2 _ _ _ _ _ _ _).symm.trans h28
   refine j6 hn ?_
   refine j4.seqQ fun _ A13 _ _=>?_
   refine l7 hn ?_
   refine j3 hlt34 ?_
   refine l9 hn ?_
   refine A13 _ _ ?_
   refine j4.seqQ fun _ A14 _ R14=>?_
   refine j4.blkQ fun _ A15 _ _ R15=>?_
   refine j6 hn ?_
   refine U9 hx33 ?_
   refine j6 hn ?_
   obtain ⟨r35,hr36,h28⟩:=j5 h28
   show l6 Tryz.prog _ _ _ _
   refine cA (bP3 N a0 a1 a2 x32 r35 hr36) ?_
   refine kp [(1,_),(3,_),(5,_),(6,_),(7,_),(9,_),(67,_),(68,_),(69,_)] [(6,_)] ?_
   refine j6 hn ?_
   refine l7 hn ?_
   refine l5 h28 (fun hb37 h28=>?_) (fun hb37 h28=>?_)
   ·refine j6 hn ?_
    refine got hn ?_
    refine R15 _ _ ?_
    refine R14 _ _ ?_
    refine R11 _ _ ?_
    refine R10 _ _ ?_
    refine R9 _ _ ?_
    refine R8 _ _ ?_
    obtain rfl:=Option.some.inj h28
    obtain rfl:=Option.some.inj h
    exact ⟨[],_,fm⟩
   refine l9 hn ?_
   refine A15 _ _ ?_
   refine A14 _ _ ?_
   refine p9 hn ?_
   refine Or.inl (And.intro (U0 hx33 hl25) ?_)
   refine A11 _ _ ?_
   exact jn ⟨(rest29,k26+1),hd2,h28⟩ [] (by show rest29.length < rest29.length+1; omega)
 rintro ⟨⟨⟩,rfl⟩
 refine A8 _ _ ?_
 refine j6 hn ?_
 obtain ⟨r38,hr39,h⟩:=j5 h
 show l6 Tryz.prog _ _ _ _
 refine cA ((bO9 N a2 r38 hr39).sw 0 85) ?_
 refine j6 hn ?_
 refine got hn ?_
 obtain rfl:=Option.some.inj h
 exact ⟨[],_,fm⟩

/- slices.BinarySearchFunc[[]api.Method,api.Method,string] -/
set_option maxRecDepth 100000 in
set_option maxHeartbeats 8000000 in
theorem aA8 (N:Nat) (a0:(List Me)) (a1:ByteArray) (g2:Me→ByteArray→Option Int) {K2:Nat} (hg2:∀x0_ x1_ y_,g2 x0_ x1_=some y_→Spec Tryz.prog K2 [] [.agg (Z6 x0_),.str x1_] (.int y_) [] []) (r:(Int×Bool)) (h:y9 N a0 a1 g2=some r):Spec Tryz.prog 106 [] [.sl 5 (List.map Z6 a0),.str a1,.fn K2 []] (.tup [.int r.1,.bool r.2]) [] []:=by
 refine Spec.of F3 Tryz.func106 rfl Tryz.ntmps106 (by kernel_rfl) rfl rfl rfl fun Γ hn=>?_
 unfold y9 at h
 refine j6 hn ?_
 refine j6 hn ?_
 refine u7 (fun _=>?_)
 refine j6 hn ?_
 refine j4.seqQ fun _ A0 _ _=>?_
 obtain ⟨o8,h9,h⟩:=j5 h
 refine jk (ι:={ s // o8=s }) hn (fun s=>[(9,.int s.1)]) (fun s=>[]) [(0,_),(1,_),(2,_),(8,_)] [] (fun _ A1 _ _=>?_) ?_
 ·refine j4.blkQ fun _ _ E2 _ _=>?_
  refine lq (ι:={ q:(Nat×Int×Int) // q9 N a0 a1 g2 q.1 q.2.1 q.2.2=some o8 }) hn (fun q=>[(9,.int q.1.2.1),(10,.int q.1.2.2)]) (fun q=>[]) (fun q=>q.1.1) [(0,_),(1,_),(2,_),(8,_)] [] ⟨(N,(0:Int),(a0.length:Int)),h9⟩ [] ?_
  rintro ⟨⟨n_,v3,v4⟩,h9⟩ _ A3 X3 _
  rcases n_ with _|n12
  ·rw [q9.eq_1] at h9
   cases h9
  ·replace h9:=(q9.eq_2 _ _ _ _ _ _ _).symm.trans h9
   refine j4.seqQ fun _ A4 X4 _=>?_
   refine j6 hn ?_
   refine l7 hn ?_
   refine l5 h9 (fun hb13 h9=>?_) (fun hb13 h9=>?_)
   ·refine l9 hn ?_
    refine A4 _ _ ?_
    obtain ⟨o17,h16,h9⟩:=j5 h9
    refine jk (ι:={ s // o17=s }) hn (fun s=>[(9,.int s.1.1),(10,.int s.1.2)]) (fun s=>[]) [(0,_),(1,_),(2,_),(8,_)] [] (fun _ A5 _ _=>?_) ?_
    ·refine j4.blkQ fun _ A6 _ _ _=>?_
     refine j6 hn ?_
     refine Or.inr ?_
     obtain ⟨hg18,h16⟩:=F6 h16
     refine aT0 hg18 ?_
     refine And.intro rfl ?_
     refine And.intro rfl ?_
     obtain ⟨hg19,h16⟩:=F6 h16
     refine aT0 hg19 ?_
     refine j6 hn ?_
     obtain ⟨x20,hx21,h16⟩:=j5 h16
     refine W9 hx21 ?_
     obtain ⟨r22,hr23,h16⟩:=j5 h16
     show l6 Tryz.prog _ _ _ _
     refine cA (hg2 _ _ _ hr23) ?_
     obtain ⟨o27,h26,h16⟩:=j5 h16
     refine jk (ι:={ s // o27=s }) hn (fun s=>[(9,.int s.1.1),(10,.int s.1.2)]) (fun s=>[]) [(0,_),(1,_),(2,_),(8,_)] [] (fun _ A7 _ _=>?_) ?_
     ·refine l7 hn ?_
      refine l5 h26 (fun hb28 h26=>?_) (fun hb28 h26=>?_)
      ·refine kp [(0,_),(1,_),(2,_),(8,_),(10,_),(11,_)] [] ?_
       refine p9 hn ?_
       refine Or.inr ?_
       refine A7 _ _ ?_
       exact jn ⟨_,sj h26⟩ []
      refine kp [(0,_),(1,_),(2,_),(8,_),(9,_),(11,_)] [] ?_
      refine p9 hn ?_
      refine A7 _ _ ?_
      exact jn ⟨_,sj h26⟩ []
     rintro ⟨⟨v24,v25⟩,rfl⟩
     refine A6 _ _ ?_
     refine A5 _ _ ?_
     exact jn ⟨_,sj h16⟩ []
    rintro ⟨⟨v14,v15⟩,rfl⟩
    refine A3 _ _ ?_
    exact jn ⟨(n12,v14,v15),h9⟩ [] (by show n12 < n12+1; omega)
   refine H8 hn ?_
   refine X4 _ _ _ ?_
   refine X3 _ _ _ ?_
   refine E2 _ _ ?_
   refine A1 _ _ ?_
   exact jn ⟨_,sj h9⟩ []
 rintro ⟨v7,hv_⟩
 replace hv_:=hv_.symm
 subst hv_
 refine A0 _ _ ?_
 refine j4.seqQ fun _ A8 _ _=>?_
 obtain ⟨o31,h30,h⟩:=j5 h
 refine jk (ι:={ s // o31=s }) hn (fun s=>[(6,.int v7),(7,.bool s.1)]) (fun s=>[]) [] [] (fun _ A9 _ _=>?_) ?_
 ·refine p9 hn ?_
  refine l5 h30 (fun hb32 h30=>?_) (fun hb32 h30=>?_)
  ·refine j3 hb32 ?_
   refine j3 hb32 ?_
   refine j3 hb32 ?_
   obtain ⟨x33,hx34,h30⟩:=j5 h30
   refine W9 hx34 ?_
   refine j3 hb32 ?_
   refine j3 hb32 ?_
   refine j3 hb32 ?_
   obtain ⟨r35,hr36,h30⟩:=j5 h30
   show l6 Tryz.prog _ _ _ _
   refine cA (hg2 _ _ _ hr36) ?_
   refine j3 hb32 ?_
   refine j3 hb32 ?_
   refine A9 _ _ ?_
   exact jn ⟨_,sj h30⟩ []
  refine d9 hb32 ?_
  refine d9 hb32 ?_
  refine d9 hb32 ?_
  refine d9 hb32 ?_
  refine d9 hb32 ?_
  refine d9 hb32 ?_
  refine d9 hb32 ?_
  refine d9 hb32 ?_
  refine A9 _ _ ?_
  exact jn ⟨_,sj h30⟩ []
 rintro ⟨v29,hv_⟩
 replace hv_:=hv_.symm
 subst hv_
 refine A8 _ _ ?_
 refine got hn ?_
 obtain rfl:=Option.some.inj h
 exact ⟨[],_,fm⟩

/- cmp.isNaN[string] -/
set_option maxRecDepth 100000 in
set_option maxHeartbeats 8000000 in
theorem aP7 (N:Nat) (a0:ByteArray) (r:Bool) (h:cmp_isNaN_string N a0=some r):Spec Tryz.prog 145 [] [.str a0] (.bool r) [] []:=by
 refine Spec.of F3 Tryz.func145 rfl Tryz.ntmps145 (by kernel_rfl) rfl rfl rfl fun Γ hn=>?_
 unfold cmp_isNaN_string at h
 refine j6 hn ?_
 refine j6 hn ?_
 refine got hn ?_
 obtain rfl:=Option.some.inj h
 exact ⟨[],_,fm⟩

/- cmp.Compare[string] -/
set_option maxRecDepth 100000 in
set_option maxHeartbeats 8000000 in
theorem a05 (N:Nat) (a0:ByteArray) (a1:ByteArray) (r:Int) (h:aF4 N a0 a1=some r):Spec Tryz.prog 105 [] [.str a0,.str a1] (.int r) [] []:=by
 refine Spec.of F3 Tryz.func105 rfl Tryz.ntmps105 (by kernel_rfl) rfl rfl rfl fun Γ hn=>?_
 unfold aF4 at h
 refine j6 hn ?_
 refine j6 hn ?_
 obtain ⟨r1,hr2,h⟩:=j5 h
 show l6 Tryz.prog _ _ _ _
 refine cA (aP7 N a0 r1 hr2) ?_
 refine j6 hn ?_
 obtain ⟨r3,hr4,h⟩:=j5 h
 show l6 Tryz.prog _ _ _ _
 refine cA (aP7 N a1 r3 hr4) ?_
 refine j4.seqQ fun _ A0 _ R0=>?_
 refine j6 hn ?_
 refine l7 hn ?_
 refine l5 h (fun hb5 h=>?_) (fun hb5 h=>?_)
 ·refine j4.seqQ fun _ A1 _ R1=>?_
  refine j6 hn ?_
  refine l7 hn ?_
  refine l5 h (fun hb6 h=>?_) (fun hb6 h=>?_)
  ·refine j6 hn ?_
   refine got hn ?_
   refine R1 _ _ ?_
   refine R0 _ _ ?_
   obtain rfl:=Option.some.inj h
   exact ⟨[],_,fm⟩
  refine l9 hn ?_
  refine A1 _ _ ?_
  refine j6 hn ?_
  refine got hn ?_
  refine R0 _ _ ?_
  obtain rfl:=Option.some.inj h
  exact ⟨[],_,fm⟩
 refine l9 hn ?_
 refine A0 _ _ ?_
 refine j4.seqQ fun _ A2 _ R2=>?_
 refine j6 hn ?_
 refine l7 hn ?_
 refine l5 h (fun hb7 h=>?_) (fun hb7 h=>?_)
 ·refine j6 hn ?_
  refine got hn ?_
  refine R2 _ _ ?_
  obtain rfl:=Option.some.inj h
  exact ⟨[],_,fm⟩
 refine l9 hn ?_
 refine A2 _ _ ?_
 refine j4.seqQ fun _ A3 _ R3=>?_
 refine j6 hn ?_
 refine l7 hn ?_
 refine l5 h (fun hb8 h=>?_) (fun hb8 h=>?_)
 ·refine j6 hn ?_
  refine got hn ?_
  refine R3 _ _ ?_
  obtain rfl:=Option.some.inj h
  exact ⟨[],_,fm⟩
 refine l9 hn ?_
 refine A3 _ _ ?_
 refine j4.seqQ fun _ A4 _ R4=>?_
 refine j6 hn ?_
 refine l7 hn ?_
 refine l5 h (fun hb9 h=>?_) (fun hb9 h=>?_)
 ·refine kp [] [] ?_
  refine j6 hn ?_
  refine got hn ?_
  refine R4 _ _ ?_
  obtain rfl:=Option.some.inj h
  exact ⟨[],_,fm⟩
 refine l9 hn ?_
 refine A4 _ _ ?_
 refine kp [] [] ?_
 refine j6 hn ?_
 refine got hn ?_
 obtain rfl:=Option.some.inj h
 exact ⟨[],_,fm⟩

/- class.order -/
set_option maxRecDepth 100000 in
set_option maxHeartbeats 8000000 in
theorem bR5 (N:Nat) (a0:Me) (a1:ByteArray) (r:Int) (h:V8 N a0 a1=some r):Spec Tryz.prog 72 [] [.agg (Z6 a0),.str a1] (.int r) [] []:=by
 refine Spec.of F3 Tryz.func72 rfl Tryz.ntmps72 (by kernel_rfl) rfl rfl rfl fun Γ hn=>?_
 unfold V8 at h
 refine j6 hn ?_
 refine j6 hn ?_
 obtain ⟨r1,hr2,h⟩:=j5 h
 show l6 Tryz.prog _ _ _ _
 refine cA (a05 N a0.name a1 r1 hr2) ?_
 refine got hn ?_
 obtain rfl:=Option.some.inj h
 exact ⟨[],_,fm⟩

/- value.Wrong -/
set_option maxRecDepth 100000 in
set_option maxHeartbeats 8000000 in
theorem bQ9 (N:Nat) (a0:V) (a1:Int) (r:Int) (h:aM2 N a0 a1=some r):Spec Tryz.prog 76 [] [.agg (eV a0),.int a1] (.int r) [] []:=by
 refine Spec.of F3 Tryz.func76 rfl Tryz.ntmps76 (by kernel_rfl) rfl rfl rfl fun Γ hn=>?_
 unfold aM2 at h
 refine j6 hn ?_
 refine j4.seqQ fun _ A0 _ R0=>?_
 refine j6 hn ?_
 obtain ⟨o2,h1,h⟩:=j5 h
 refine jk (ι:={ s // o2=C9.next s }) hn (fun s=>[]) (fun s=>[]) [] [] (fun _ A1 _ R1=>?_) ?_
 ·refine j4.blkQ fun _ A2 _ _ R2=>?_
  refine j4.seqQ fun _ A3 _ _=>?_
  refine j6 hn ?_
  obtain ⟨o5,h4,h1⟩:=j5 h1
  refine jk (ι:={ s // o5=s }) hn (fun s=>[(7,.bool s.1)]) (fun s=>[]) [(1,_),(2,_),(6,_)] [(2,_)] (fun _ A4 _ _=>?_) ?_
  ·refine l7 hn ?_
   refine l5 h4 (fun hb6 h4=>?_) (fun hb6 h4=>?_)
   ·refine l9 hn ?_
    refine A4 _ _ ?_
    exact jn ⟨_,sj h4⟩ []
   refine j6 hn ?_
   obtain ⟨o9,h8,h4⟩:=j5 h4
   refine jk (ι:={ s // o9=s }) hn (fun s=>[(7,.bool s.1)]) (fun s=>[]) [(1,_),(2,_),(6,_)] [(2,_)] (fun _ A5 _ _=>?_) ?_
   ·refine l7 hn ?_
    refine l5 h8 (fun hb10 h8=>?_) (fun hb10 h8=>?_)
    ·refine l9 hn ?_
     refine A5 _ _ ?_
     exact jn ⟨_,sj h8⟩ []
    refine p9 hn ?_
    refine A5 _ _ ?_
    exact jn ⟨_,sj h8⟩ []
   rintro ⟨v7,hv_⟩
   replace hv_:=hv_.symm
   subst hv_
   refine A4 _ _ ?_
   exact jn ⟨_,sj h4⟩ []
  rintro ⟨v3,hv_⟩
  replace hv_:=hv_.symm
  subst hv_
  refine A3 _ _ ?_
  obtain ⟨o12,h11,h1⟩:=j5 h1
  refine jk (ι:={ s // o12=C9.next s }) hn (fun s=>[]) (fun s=>[]) [] [] (fun _ A6 _ R6=>?_) ?_
  ·refine l7 hn ?_
   refine l5 h11 (fun hb13 h11=>?_) (fun hb13 h11=>?_)
   ·refine j6 hn ?_
    refine l7 hn ?_
    refine l5 h11 (fun hb14 h11=>?_) (fun hb14 h11=>?_)
    ·refine j6 hn ?_
     refine got hn ?_
     refine R6 _ _ ?_
     refine R2 _ _ ?_
     refine R1 _ _ ?_
     refine R0 _ _ ?_
     obtain rfl:=Option.some.inj h11
     obtain rfl:=Option.some.inj h1
     obtain rfl:=Option.some.inj h
     exact ⟨[],_,fm⟩
    refine l9 hn ?_
    refine A6 _ _ ?_
    exact jn ⟨_,sj h11⟩ []
   refine j6 hn ?_
   obtain ⟨o16,h15,h11⟩:=j5 h11
   refine jk (ι:={ s // o16=C9.next s }) hn (fun s=>[]) (fun s=>[]) [] [] (fun _ A7 _ R7=>?_) ?_
   ·refine l7 hn ?_
    refine l5 h15 (fun hb17 h15=>?_) (fun hb17 h15=>?_)
    ·refine j4.seqQ fun _ A8 _ _=>?_
     obtain ⟨o20,h19,h15⟩:=j5 h15
     refine jk (ι:={ s // o20=s }) hn (fun s=>[(23,.bool s.1)]) (fun s=>[]) [] [] (fun _ A9 _ _=>?_) ?_
     ·refine p9 hn ?_
      refine l5 h19 (fun hb21 h19=>?_) (fun hb21 h19=>?_)
      ·refine j3 hb21 ?_
       refine j3 hb21 ?_
       refine j3 hb21 ?_
       refine A9 _ _ ?_
       exact jn ⟨_,sj h19⟩ []
      refine d9 hb21 ?_
      refine d9 hb21 ?_
      refine d9 hb21 ?_
      refine A9 _ _ ?_
      exact jn ⟨_,sj h19⟩ []
     rintro ⟨v18,hv_⟩
     replace hv_:=hv_.symm
     subst hv_
     refine A8 _ _ ?_
     refine l7 hn ?_
     refine l5 h15 (fun hb22 h15=>?_) (fun hb22 h15=>?_)
     ·refine j6 hn ?_
      refine got hn ?_
      refine R7 _ _ ?_
      refine R6 _ _ ?_
      refine R2 _ _ ?_
      refine R1 _ _ ?_
      refine R0 _ _ ?_
      obtain rfl:=Option.some.inj h15
      obtain rfl:=Option.some.inj h11
      obtain rfl:=Option.some.inj h1
      obtain rfl:=Option.some.inj h
      exact ⟨[],_,fm⟩
     refine l9 hn ?_
     refine A7 _ _ ?_
     exact jn ⟨_,sj h15⟩ []
    refine j6 hn ?_
    refine l7 hn ?_
    refine l5 h15 (fun hb23 h15=>?_) (fun hb23 h15=>?_)
    ·refine j4.seqQ fun _ A10 _ _=>?_
     obtain ⟨o26,h25,h15⟩:=j5 h15
     refine jk (ι:={ s // o26=s }) hn (fun s=>[(34,.bool s.1)]) (fun s=>[]) [] [] (fun _ A11 _ _=>?_) ?_
     ·refine p9 hn ?_
      refine l5 h25 (fun hb27 h25=>?_) (fun hb27 h25=>?_)
      ·refine j3 hb27 ?_
       refine j3 hb27 ?_
       refine j3 hb27 ?_
       refine j3 hb27 ?_
       refine A11 _ _ ?_
       exact jn ⟨_,sj h25⟩ []
      refine d9 hb27 ?_
      refine d9 hb27 ?_
      refine d9 hb27 ?_
      refine d9 hb27 ?_
      refine A11 _ _ ?_
      exact jn ⟨_,sj h25⟩ []
     rintro ⟨v24,hv_⟩
     replace hv_:=hv_.symm
     subst hv_
     refine A10 _ _ ?_
     refine l7 hn ?_
     refine l5 h15 (fun hb28 h15=>?_) (fun hb28 h15=>?_)
     ·refine j6 hn ?_
      refine got hn ?_
      refine R7 _ _ ?_
      refine R6 _ _ ?_
      refine R2 _ _ ?_
      refine R1 _ _ ?_
      refine R0 _ _ ?_
      obtain rfl:=Option.some.inj h15
      obtain rfl:=Option.some.inj h11
      obtain rfl:=Option.some.inj h1
      obtain rfl:=Option.some.inj h
      exact ⟨[],_,fm⟩
     refine l9 hn ?_
     refine A7 _ _ ?_
     exact jn ⟨_,sj h15⟩ []
    refine j6 hn ?_
    refine got hn ?_
    refine R7 _ _ ?_
    refine R6 _ _ ?_
    refine R2 _ _ ?_
    refine R1 _ _ ?_
    refine R0 _ _ ?_
    obtain rfl:=Option.some.inj h15
    obtain rfl:=Option.some.inj h11
    obtain rfl:=Option.some.inj h1
    obtain rfl:=Option.some.inj h
    exact ⟨[],_,fm⟩
   rintro ⟨⟨⟩,rfl⟩
   refine A6 _ _ ?_
   exact jn ⟨_,sj h11⟩ []
  rintro ⟨⟨⟩,rfl⟩
  refine A2 _ _ ?_
  refine A1 _ _ ?_
  exact jn ⟨_,sj h1⟩ []
 rintro ⟨⟨⟩,rfl⟩
 refine A0 _ _ ?_
 refine j6 hn ?_
 refine got hn ?_
 obtain rfl:=Option.some.inj h
 exact ⟨[],_,fm⟩

/- class.Find -/
set_option maxRecDepth 100000 in
set_option maxHeartbeats 8000000 in
theorem bX6 (N:Nat) (a0:Wd) (a1:Int) (a2:ByteArray) (r:(Int×Int)) (h:aN9 N a0 a1 a2=some r):Spec Tryz.prog 73 [] [.agg (eWd a0),.int a1,.str a2] (.tup [.int r.1,.int r.2]) [] []:=by
 refine Spec.of F3 Tryz.func73 rfl Tryz.ntmps73 (by kernel_rfl) rfl rfl rfl fun Γ hn=>?_
 unfold aN9 at h
 refine j6 hn ?_
 refine j4.seqQ fun _ A0 _ R0=>?_
 refine j6 hn ?_
 obtain ⟨o6,h7,h⟩:=j5 h
 refine jk (ι:={ s // o6=C9.next s }) hn (fun s=>[]) (fun s=>[]) [] [] (fun _ A1 _ R1=>?_) ?_
 ·refine j4.blkQ fun _ _ E2 _ R2=>?_
  refine lq (ι:={ q:(Nat×Int×Int) // Z7 N a0 a2 q.1 q.2.1 q.2.2=some o6 }) hn (fun q=>[(1,.int q.1.2.1),(8,.int q.1.2.2)]) (fun q=>[]) (fun q=>q.1.1) [(2,_),(3,_)] [(3,_)] ⟨(N,a1,(0:Int)),h7⟩ [] ?_
  rintro ⟨⟨n_,v2,v3⟩,h7⟩ _ A3 X3 R3
  rcases n_ with _|n10
  ·rw [Z7.eq_1] at h7
   cases h7
  ·replace h7:=(Z7.eq_2 _ _ _ _ _ _).symm.trans h7
   refine j4.seqQ fun _ A4 X4 _=>?_
   refine j4.seqQ fun _ A5 _ _=>?_
   obtain ⟨o13,h12,h7⟩:=j5 h7
   refine jk (ι:={ s // o13=s }) hn (fun s=>[(26,.bool s.1)]) (fun s=>[]) [(1,_),(2,_),(3,_),(8,_)] [(3,_)] (fun _ A6 _ _=>?_) ?_
   ·refine p9 hn ?_
    refine l5 h12 (fun hb14 h12=>?_) (fun hb14 h12=>?_)
    ·refine j3 hb14 ?_
     refine j3 hb14 ?_
     refine j3 hb14 ?_
     refine u7 (fun _=>?_)
     refine j3 hb14 ?_
     refine j3 hb14 ?_
     refine l5 h12 (fun hb16 h12=>?_) (fun hb16 h12=>?_)
     ·refine j3 hb16 ?_
      refine j3 hb16 ?_
      refine j3 hb16 ?_
      refine u7 (fun _=>?_)
      refine j3 hb16 ?_
      refine j3 hb16 ?_
      refine A6 _ _ ?_
      exact jn ⟨_,sj h12⟩ []
     refine d9 hb16 ?_
     refine d9 hb16 ?_
     refine d9 hb16 ?_
     refine d9 hb16 ?_
     refine d9 hb16 ?_
     refine A6 _ _ ?_
     exact jn ⟨_,sj h12⟩ []
    refine d9 hb14 ?_
    refine d9 hb14 ?_
    refine d9 hb14 ?_
    refine d9 hb14 ?_
    refine d9 hb14 ?_
    refine A6 _ _ ?_
    exact jn ⟨_,sj h12⟩ []
   rintro ⟨v11,hv_⟩
   replace hv_:=hv_.symm
   subst hv_
   refine A5 _ _ ?_
   refine l7 hn ?_
   refine l5 h7 (fun hb18 h7=>?_) (fun hb18 h7=>?_)
   ·refine l9 hn ?_
    refine A4 _ _ ?_
    refine j4.seqQ fun _ A7 _ R7=>?_
    refine j4.blkQ fun _ A8 _ _ R8=>?_
    refine j4.seqQ fun _ A9 _ R9=>?_
    refine j6 hn ?_
    obtain ⟨x19,hx20,h7⟩:=j5 h7
    refine W9 hx20 ?_
    obtain ⟨r21,hr22,h7⟩:=j5 h7
    show l6 Tryz.prog _ _ _ _
    refine cA (aA8 N x19.methods a2 (fun x0_ x1_=>V8 N x0_ x1_) (fun x0_ x1_ y_ hy_=>bR5 N x0_ x1_ y_ hy_) r21 hr22) ?_
    refine kp [(1,_),(2,_),(3,_),(8,_),(9,_),(10,_)] [(3,_)] ?_
    refine j6 hn ?_
    refine l7 hn ?_
    refine l5 h7 (fun hb23 h7=>?_) (fun hb23 h7=>?_)
    ·refine j6 hn ?_
     refine got hn ?_
     refine R9 _ _ ?_
     refine R8 _ _ ?_
     refine R7 _ _ ?_
     refine R3 _ _ ?_
     refine R2 _ _ ?_
     refine R1 _ _ ?_
     refine R0 _ _ ?_
     obtain rfl:=Option.some.inj h7
     obtain rfl:=Option.some.inj h
     exact ⟨[],_,fm⟩
    refine l9 hn ?_
    refine A9 _ _ ?_
    refine p9 hn ?_
    obtain ⟨x24,hx25,h7⟩:=j5 h7
    refine W9 hx25 ?_
    refine A8 _ _ ?_
    refine A7 _ _ ?_
    refine p9 hn ?_
    refine Or.inr ?_
    refine A3 _ _ ?_
    exact jn ⟨(n10,x24.super,(wr (v3+(1:Int)))),h7⟩ [] (by show n10 < n10+1; omega)
   refine H8 hn ?_
   refine X4 _ _ _ ?_
   refine X3 _ _ _ ?_
   refine E2 _ _ ?_
   refine A1 _ _ ?_
   exact jn ⟨_,sj h7⟩ []
 rintro ⟨⟨⟩,rfl⟩
 refine A0 _ _ ?_
 refine j6 hn ?_
 refine got hn ?_
 obtain rfl:=Option.some.inj h
 exact ⟨[],_,fm⟩

/- (*strings.Builder).WriteString -/
set_option maxRecDepth 100000 in
set_option maxHeartbeats 8000000 in
theorem aN3 (N:Nat) (a0:(List Int)) (a1:ByteArray) (r:(Int×Bool×(List Int))) (h:U2 N a0 a1=some r):Spec Tryz.prog 80 [(1000,.box [.np 1000,.own 1001] 99),(1001,.row 1 (List.map (eIk .u8) a0) 5)] [.ptr 1000 0,.str a1] (.tup [.int r.1,.ifc r.2.1]) [(1000,.box [.np 1000,.own 2] 99),(2,.row 1 (List.map (eIk .u8) r.2.2) 5),(1001,.gone)] [2]:=by
 refine Spec.of F3 Tryz.func80 rfl Tryz.ntmps80 (by kernel_rfl) rfl rfl rfl fun Γ hn=>?_
 unfold U2 at h
 refine j4.reidB 1000 1 1001 320 rfl rfl rfl rfl rfl rfl rfl rfl rfl ?_
 refine j6 hn ?_
 refine j6 hn ?_
 show l6 Tryz.prog _ _ _ _
 refine cA (bF8 1000 320) ?_
 refine j6 hn ?_
 obtain ⟨hg1,h⟩:=F6 h
 refine c06 hg1 ?_
 refine j6 hn ?_
 intro _
 refine got hn ?_
 obtain rfl:=Option.some.inj h
 exact ⟨[(2,14)],_,fm⟩

/- (*strings.Builder).WriteByte -/
set_option maxRecDepth 100000 in
set_option maxHeartbeats 8000000 in
theorem aQ8 (N:Nat) (a0:(List Int)) (a1:Int) (r:(Bool×(List Int))) (h:V6 N a0 a1=some r):Spec Tryz.prog 81 [(1000,.box [.np 1000,.own 1001] 99),(1001,.row 1 (List.map (eIk .u8) a0) 5)] [.ptr 1000 0,.ik .u8 a1] (.ifc r.1) [(1000,.box [.np 1000,.own 2] 99),(2,.row 1 (List.map (eIk .u8) r.2) 5),(1001,.gone)] [2]:=by
 refine Spec.of F3 Tryz.func81 rfl Tryz.ntmps81 (by kernel_rfl) rfl rfl rfl fun Γ hn=>?_
 unfold V6 at h
 refine j4.reidB 1000 1 1001 320 rfl rfl rfl rfl rfl rfl rfl rfl rfl ?_
 refine j6 hn ?_
 refine j6 hn ?_
 show l6 Tryz.prog _ _ _ _
 refine cA (bF8 1000 320) ?_
 refine j6 hn ?_
 refine Exists.intro (List.map (eIk .u8) [a1]) (And.intro (by repeat (first|exact trivial|exact rfl|(refine And.intro ?_ ?_))) ?_)
 obtain ⟨hg1,h⟩:=F6 h
 refine aJ7 (l2:=[a1]) hg1 (H7 _) ?_
 refine j6 hn ?_
 refine got hn ?_
 obtain rfl:=Option.some.inj h
 exact ⟨[(2,14)],_,fm⟩

/- (*wire.writer).word -/
set_option maxRecDepth 100000 in
set_option maxHeartbeats 8000000 in
theorem aE7 (N:Nat) (a0:(List Int)) (a1:ByteArray) (r:(List Int)) (h:Q3 N a0 a1=some r):Spec Tryz.prog 46 [(1000,.box [.np 1000,.own 1001] 99),(1001,.row 1 (List.map (eIk .u8) a0) 5)] [.ptr 1000 0,.str a1] (.tup []) [(1000,.box [.np 1000,.own 2] 99),(2,.row 1 (List.map (eIk .u8) r) 5),(1001,.gone)] [2]:=by
 refine Spec.of F3 Tryz.func46 rfl Tryz.ntmps46 (by kernel_rfl) rfl rfl rfl fun Γ hn=>?_
 unfold Q3 at h
 refine j4.reidB 1000 1 1001 320 rfl rfl rfl rfl rfl rfl rfl rfl rfl ?_
 refine j4.snoc ?_
 refine j6 hn ?_
 obtain ⟨r1,hr2,h⟩:=j5 h
 show l6 Tryz.prog _ _ _ _
 refine cA (((aN3 N a0 a1 r1 hr2).sw 1001 320).sw 2 501) ?_
 refine p9 hn ?_
 obtain ⟨r3,hr4,h⟩:=j5 h
 show l6 Tryz.prog _ _ _ _
 refine cA (((aQ8 N r1.2.2 (32:Int) r3 hr4).sw 1001 501).sw 2 502) ?_
 refine Y3.done ?_
 obtain rfl:=Option.some.inj h
 exact ⟨[(2,502)],_,fm⟩

/- (*wire.writer).nums -/
set_option maxRecDepth 100000 in
set_option maxHeartbeats 8000000 in
theorem O8 (N:Nat) (a0:(List Int)) (a1:(List Int)) (r:(List Int)) (h:J5 N a0 a1=some r):Spec Tryz.prog 45 [(1000,.box [.np 1000,.own 1001] 99),(1001,.row 1 (List.map (eIk .u8) a0) 5),(2000,GL)] [.ptr 1000 0,.sl 1 (List.map F7 a1)] (.tup []) [(1000,.box [.np 1000,.own 2] 99),(2,.row 1 (List.map (eIk .u8) r) 5),(1001,.gone),(2000,GL)] [2]:=by
 refine Spec.of F3 Tryz.func45 rfl Tryz.ntmps45 (by kernel_rfl) rfl rfl rfl fun Γ hn=>?_
 unfold J5 at h
 refine j4.reidB 1000 1 1001 320 rfl rfl rfl rfl rfl rfl rfl rfl rfl ?_
 refine j4.snoc ?_
 refine j6 hn ?_
 refine u7 (fun hl1=>?_)
 obtain ⟨o6,h7,h⟩:=j5 h
 refine jk (ι:={ s // o6=s }) hn (fun s=>[]) (fun s=>[(320,.row 1 (List.map (eIk .u8) s.1) 5)]) [(0,_)] [(1000,_),(1001,_),(2000,_)] (fun _ A0 _ _=>?_) ?_
 ·refine j4.blkQ fun _ _ E1 _ _=>?_
  refine lq (ι:={ q:((List Int)×Nat×(List Int)) // q.1=a1.drop q.2.1∧M8 N q.1 q.2.1 q.2.2=some o6 }) hn (fun q=>[(8,.int (q.1.2.1:Int))]) (fun q=>[(320,.row 1 (List.map (eIk .u8) q.1.2.2) 5)]) (fun q=>q.1.1.length) [(0,_),(6,_),(7,_)] [(1000,_),(1001,_),(2000,_)] ⟨(a1,0,a0),rfl,h7⟩ [] ?_
  rintro ⟨⟨rest_,k2,v3⟩,hd9,h7⟩ _ A2 X2 _
  replace hd9:rest_=a1.drop k2:=hd9
  rcases rest_ with _|⟨x11,rest8⟩
  ·have hlt13:=G6 hd9
   replace h7:=(M8.eq_1 _ _ _).symm.trans h7
   refine j6 hn ?_
   refine j4.seqQ fun _ _ X3 _=>?_
   refine l7 hn ?_
   refine d9 hlt13 ?_
   refine H8 hn ?_
   refine X3 _ _ _ ?_
   refine X2 _ _ _ ?_
   refine E1 _ _ ?_
   refine A0 _ _ ?_
   exact jn ⟨_,sj h7⟩ []
  ·obtain ⟨hx12,hd2,hlt13⟩:=z8 hd9
   replace h7:=(M8.eq_2 _ _ _ _ _).symm.trans h7
   refine j6 hn ?_
   refine j4.seqQ fun _ A4 _ _=>?_
   refine l7 hn ?_
   refine j3 hlt13 ?_
   refine l9 hn ?_
   refine A4 _ _ ?_
   refine j4.seqQ fun _ A5 _ _=>?_
   refine j4.blkQ fun _ A6 _ _ _=>?_
   refine j6 hn ?_
   refine U9 hx12 ?_
   refine p9 hn ?_
   obtain ⟨r14,hr15,h7⟩:=j5 h7
   show l6 Tryz.prog _ _ _ _
   refine cA (aI5 N x11 r14 hr15) ?_
   obtain ⟨r16,hr17,h7⟩:=j5 h7
   show l6 Tryz.prog _ _ _ _
   refine cA (((aE7 N v3 r14 r16 hr17).sw 1001 320).sw 2 501) ?_
   refine A6 _ _ ?_
   refine A5 _ _ ?_
   refine p9 hn ?_
   refine Or.inl (And.intro (U0 hx12 hl1) ?_)
   refine A2 _ _ ?_
   exact jn ⟨(rest8,k2+1,r16),hd2,h7⟩ [(320,501)] (by show rest8.length < rest8.length+1; omega)
 rintro ⟨v5,hv_⟩
 replace hv_:=hv_.symm
 subst hv_
 refine Y3.done ?_
 obtain rfl:=Option.some.inj h
 exact ⟨[(2,320)],_,fm⟩

/- (*wire.writer).method -/
set_option maxRecDepth 100000 in
set_option maxHeartbeats 8000000 in
theorem bA1 (N:Nat) (a0:(List Int)) (a1:Me) (r:(List Int)) (h:aB0 N a0 a1=some r):Spec Tryz.prog 47 [(1000,.box [.np 1000,.own 1001] 99),(1001,.row 1 (List.map (eIk .u8) a0) 5),(2000,GL)] [.ptr 1000 0,.fp (Z6 a1)] (.tup []) [(1000,.box [.np 1000,.own 2] 99),(2,.row 1 (List.map (eIk .u8) r) 5),(1001,.gone),(2000,GL)] [2]:=by
 refine Spec.of F3 Tryz.func47 rfl Tryz.ntmps47 (by kernel_rfl) rfl rfl rfl fun Γ hn=>?_
 unfold aB0 at h
 refine j4.reidB 1000 1 1001 320 rfl rfl rfl rfl rfl rfl rfl rfl rfl ?_
 refine j4.snoc ?_
 refine j6 hn ?_
 obtain ⟨r1,hr2,h⟩:=j5 h
 show l6 Tryz.prog _ _ _ _
 refine cA (((aE7 N a0 a1.name r1 hr2).sw 1001 320).sw 2 501) ?_
 refine j4.seqQ fun _ A0 _ _=>?_
 refine kp [(0,_),(1,_)] [(501,_),(1000,_),(1001,_),(2000,_)] ?_
 refine god hn (by kernel_rfl) ?_
 refine u7 (fun _=>?_)
 refine Exists.intro (List.map F7 [a1.args,a1.temps,a1.prim,(a1.code.length:Int)]) (And.intro (by repeat (first|exact trivial|exact rfl|(refine And.intro ?_ ?_))) ?_)
 obtain ⟨r4,hr5,h⟩:=j5 h
 show l6 Tryz.prog _ _ _ _
 refine cF (((O8 N r1 [a1.args,a1.temps,a1.prim,(a1.code.length:Int)] r4 hr5).sw 1001 501).sw 2 502) ?_
 refine A0 _ _ ?_
 refine kp [(0,_),(1,_)] [(502,_),(1000,_),(1001,_),(2000,_)] ?_
 refine j6 hn ?_
 refine u7 (fun hl6=>?_)
 obtain ⟨o11,h12,h⟩:=j5 h
 refine jk (ι:={ s // o11=s }) hn (fun s=>[]) (fun s=>[(502,.row 1 (List.map (eIk .u8) s.1) 5)]) [(0,_)] [(1000,_),(1001,_),(2000,_)] (fun _ A1 _ _=>?_) ?_
 ·refine j4.blkQ fun _ _ E2 _ _=>?_
  refine lq (ι:={ q:((List Ins)×Nat×(List Int)) // q.1=a1.code.drop q.2.1∧J8 N q.1 q.2.1 q.2.2=some o11 }) hn (fun q=>[(37,.int (q.1.2.1:Int))]) (fun q=>[(502,.row 1 (List.map (eIk .u8) q.1.2.2) 5)]) (fun q=>q.1.1.length) [(0,_),(35,_),(36,_)] [(1000,_),(1001,_),(2000,_)] ⟨(a1.code,0,r4),rfl,h12⟩ [] ?_
  rintro ⟨⟨rest_,k7,v8⟩,hd14,h12⟩ _ A3 X3 _
  replace hd14:rest_=a1.code.drop k7:=hd14
  rcases rest_ with _|⟨x16,rest13⟩
  ·have hlt18:=G6 hd14
   replace h12:=(J8.eq_1 _ _ _).symm.trans h12
   refine j6 hn ?_
   refine j4.seqQ fun _ _ X4 _=>?_
   refine l7 hn ?_
   refine d9 hlt18 ?_
   refine H8 hn ?_
   refine X4 _ _ _ ?_
   refine X3 _ _ _ ?_
   refine E2 _ _ ?_
   refine A1 _ _ ?_
   exact jn ⟨_,sj h12⟩ []
  ·obtain ⟨hx17,hd2,hlt18⟩:=z8 hd14
   replace h12:=(J8.eq_2 _ _ _ _ _).symm.trans h12
   refine j6 hn ?_
   refine j4.seqQ fun _ A5 _ _=>?_
   refine l7 hn ?_
   refine j3 hlt18 ?_
   refine l9 hn ?_
   refine A5 _ _ ?_
   refine j4.seqQ fun _ A6 _ _=>?_
   obtain ⟨o21,h20,h12⟩:=j5 h12
   refine jk (ι:={ s // o21=s }) hn (fun s=>[]) (fun s=>[(504,.row 1 (List.map (eIk .u8) s.1) 5),(1000,.box [.np 1000,.own 504] 99)]) [(0,_),(35,_),(36,_),(37,_)] [(1001,_),(2000,_)] (fun _ A7 _ _=>?_) ?_
   ·refine j4.blkQ fun _ A8 _ _ _=>?_
    refine j6 hn ?_
    refine U9 hx17 ?_
    refine j6 hn ?_
    refine Exists.intro (List.map F7 [x16.op,x16.a]) (And.intro (by repeat (first|exact trivial|exact rfl|(refine And.intro ?_ ?_))) ?_)
    obtain ⟨r22,hr23,h20⟩:=j5 h20
    show l6 Tryz.prog _ _ _ _
    refine cF (((O8 N v8 [x16.op,x16.a] r22 hr23).sw 1001 502).sw 2 503) ?_
    refine j6 hn ?_
    obtain ⟨o26,h25,h20⟩:=j5 h20
    refine jk (ι:={ s // o26=s }) hn (fun s=>[]) (fun s=>[(504,.row 1 (List.map (eIk .u8) s.1) 5),(1000,.box [.np 1000,.own 504] 99)]) [(0,_),(35,_),(36,_),(37,_)] [(1001,_),(2000,_)] (fun _ A9 _ _=>?_) ?_
    ·refine l7 hn ?_
     refine l5 h25 (fun hb27 h25=>?_) (fun hb27 h25=>?_)
     ·refine kp [(0,_),(5,_),(35,_),(36,_),(37,_)] [(5,_),(503,_),(1000,_),(1001,_),(2000,_)] ?_
      refine p9 hn ?_
      obtain ⟨r28,hr29,h25⟩:=j5 h25
      show l6 Tryz.prog _ _ _ _
      refine cA (((aE7 N r22 x16.name r28 hr29).sw 1001 503).sw 2 504) ?_
      refine A9 _ _ ?_
      exact jn ⟨_,sj h25⟩ []
     refine l9 hn ?_
     refine A9 _ _ ?_
     exact jn ⟨_,sj h25⟩ [(504,503)]
    rintro ⟨v24,hv_⟩
    replace hv_:=hv_.symm
    subst hv_
    refine A8 _ _ ?_
    refine A7 _ _ ?_
    exact jn ⟨_,sj h20⟩ []
   rintro ⟨v19,hv_⟩
   replace hv_:=hv_.symm
   subst hv_
   refine A6 _ _ ?_
   refine p9 hn ?_
   refine Or.inl (And.intro (U0 hx17 hl6) ?_)
   refine A3 _ _ ?_
   exact jn ⟨(rest13,k7+1,v19),hd2,h12⟩ [(502,504)] (by show rest13.length < rest13.length+1; omega)
 rintro ⟨v10,hv_⟩
 replace hv_:=hv_.symm
 subst hv_
 refine Y3.done ?_
 obtain rfl:=Option.some.inj h
 exact ⟨[(2,502)],_,fm⟩

/- wire.Bytes -/
set_option maxRecDepth 100000 in
set_option maxHeartbeats 8000000 in
theorem bX7 (N:Nat) (a0:Wd) (r:(List Int)) (h:aO6 N a0=some r):Spec Tryz.prog 22 [(2000,GL)] [.agg (eWd a0)] (.sl 1 (List.map (eIk .u8) r)) [(2000,GL)] []:=by
 refine Spec.of F3 Tryz.func22 rfl Tryz.ntmps22 (by kernel_rfl) rfl rfl rfl fun Γ hn=>?_
 unfold aO6 at h
 refine j6 hn ?_
 refine j6 hn ?_
 refine j4.leBox 13 [.np 13,.nilsl] rfl (by repeat (first|exact trivial|exact rfl|(refine And.intro ?_ ?_))) ?_
 refine j4.nilrowB 13 1 501 1 5 rfl rfl rfl rfl rfl rfl ?_
 refine kp [(1,_),(3,_)] [(1,_),(13,_),(501,_),(2000,_)] ?_
 refine j6 hn ?_
 refine u7 (fun _=>?_)
 refine Exists.intro (List.map F7 [a0.epoch,(a0.classes.length:Int)]) (And.intro (by repeat (first|exact trivial|exact rfl|(refine And.intro ?_ ?_))) ?_)
 obtain ⟨r2,hr3,h⟩:=j5 h
 show l6 Tryz.prog _ _ _ _
 refine cF ((((O8 N ([]:List Int) [a0.epoch,(a0.classes.length:Int)] r2 hr3).sw 1000 13).sw 1001 501).sw 2 502) ?_
 refine j4.seqQ fun _ A0 _ _=>?_
 refine j6 hn ?_
 refine u7 (fun hl4=>?_)
 obtain ⟨o9,h10,h⟩:=j5 h
 refine jk (ι:={ s // o9=s }) hn (fun s=>[]) (fun s=>[(502,.row 1 (List.map (eIk .u8) s.1) 5)]) [(1,_),(3,_)] [(1,_),(13,_),(2000,_)] (fun _ A1 _ _=>?_) ?_
 ·refine j4.blkQ fun _ _ E2 _ _=>?_
  refine lq (ι:={ q:((List Cl)×Nat×(List Int)) // q.1=a0.classes.drop q.2.1∧Z8 N q.1 q.2.1 q.2.2=some o9 }) hn (fun q=>[(25,.int (q.1.2.1:Int))]) (fun q=>[(502,.row 1 (List.map (eIk .u8) q.1.2.2) 5)]) (fun q=>q.1.1.length) [(1,_),(3,_),(23,_),(24,_)] [(1,_),(13,_),(2000,_)] ⟨(a0.classes,0,r2),rfl,h10⟩ [] ?_
  rintro ⟨⟨rest_,k5,v6⟩,hd12,h10⟩ _ A3 X3 _
  replace hd12:rest_=a0.classes.drop k5:=hd12
  rcases rest_ with _|⟨x14,rest11⟩
  ·have hlt16:=G6 hd12
   replace h10:=(Z8.eq_1 _ _ _).symm.trans h10
   refine j6 hn ?_
   refine j4.seqQ fun _ _ X4 _=>?_
   refine l7 hn ?_
   refine d9 hlt16 ?_
   refine H8 hn ?_
   refine X4 _ _ _ ?_
   refine X3 _ _ _ ?_
   refine E2 _ _ ?_
   refine A1 _ _ ?_
   exact jn ⟨_,sj h10⟩ []
  ·obtain ⟨hx15,hd2,hlt16⟩:=z8 hd12
   replace h10:=(Z8.eq_2 _ _ _ _ _).symm.trans h10
   refine j6 hn ?_
   refine j4.seqQ fun _ A5 _ _=>?_
   refine l7 hn ?_
   refine j3 hlt16 ?_
   refine l9 hn ?_
   refine A5 _ _ ?_
   refine j4.seqQ fun _ A6 _ _=>?_
   refine j4.blkQ fun _ A7 _ _ _=>?_
   refine j6 hn ?_
   refine U9 hx15 ?_
   refine j6 hn ?_
   obtain ⟨r17,hr18,h10⟩:=j5 h10
   show l6 Tryz.prog _ _ _ _
   refine cA ((((aE7 N v6 x14.name r17 hr18).sw 1000 13).sw 1001 502).sw 2 503) ?_
   refine j6 hn ?_
   refine u7 (fun _=>?_)
   refine Exists.intro (List.map F7 [x14.super,x14.slots,(x14.methods.length:Int)]) (And.intro (by repeat (first|exact trivial|exact rfl|(refine And.intro ?_ ?_))) ?_)
   obtain ⟨r20,hr21,h10⟩:=j5 h10
   show l6 Tryz.prog _ _ _ _
   refine cF ((((O8 N r17 [x14.super,x14.slots,(x14.methods.length:Int)] r20 hr21).sw 1000 13).sw 1001 503).sw 2 504) ?_
   refine kp [(1,_),(3,_),(5,_),(23,_),(24,_),(25,_)] [(1,_),(5,_),(13,_),(504,_),(2000,_)] ?_
   refine j6 hn ?_
   refine u7 (fun hl22=>?_)
   obtain ⟨o27,h28,h10⟩:=j5 h10
   refine jk (ι:={ s // o27=s }) hn (fun s=>[]) (fun s=>[(504,.row 1 (List.map (eIk .u8) s.1) 5)]) [(1,_),(3,_),(23,_),(24,_),(25,_)] [(1,_),(13,_),(2000,_)] (fun _ A8 _ _=>?_) ?_
   ·refine j4.blkQ fun _ _ E9 _ _=>?_
    refine lq (ι:={ q:((List Me)×Nat×(List Int)) // q.1=x14.methods.drop q.2.1∧Z9 N q.1 q.2.1 q.2.2=some o27 }) hn (fun q=>[(46,.int (q.1.2.1:Int))]) (fun q=>[(504,.row 1 (List.map (eIk .u8) q.1.2.2) 5)]) (fun q=>q.1.1.length) [(1,_),(3,_),(23,_),(24,_),(25,_),(44,_),(45,_)] [(1,_),(13,_),(2000,_)] ⟨(x14.methods,0,r20),rfl,h28⟩ [] ?_
    rintro ⟨⟨rest_,k23,v24⟩,hd30,h28⟩ _ A10 X10 _
    replace hd30:rest_=x14.methods.drop k23:=hd30
    rcases rest_ with _|⟨x32,rest29⟩
    ·have hlt34:=G6 hd30
     replace h28:=(Z9.eq_1 _ _ _).symm.trans h28
     refine j6 hn ?_
     refine j4.seqQ fun _ _ X11 _=>?_
     refine l7 hn ?_
     refine d9 hlt34 ?_
     refine H8 hn ?_
     refine X11 _ _ _ ?_
     refine X10 _ _ _ ?_
     refine E9 _ _ ?_
     refine A8 _ _ ?_
     exact jn ⟨_,sj h28⟩ []
    ·obtain ⟨hx33,hd2,hlt34⟩:=z8 hd30
     replace h28:=(Z9.eq_2 _ _ _ _ _).symm.trans h28
     refine j6 hn ?_
     refine j4.seqQ fun _ A12 _ _=>?_
     refine l7 hn ?_
     refine j3 hlt34 ?_
     refine l9 hn ?_
     refine A12 _ _ ?_
     refine j4.seqQ fun _ A13 _ _=>?_
     refine j4.blkQ fun _ A14 _ _ _=>?_
     refine j6 hn ?_
     refine U9 hx33 ?_
     refine j4.gh (Gh.fzBox 7 7 rfl rfl rfl) (fun _=>?_)
     refine kp [(1,_),(3,_),(7,_),(23,_),(24,_),(25,_),(44,_),(45,_),(46,_)] [(1,_),(13,_),(504,_),(2000,_)] ?_
     refine p9 hn ?_
     obtain ⟨r35,hr36,h28⟩:=j5 h28
     show l6 Tryz.prog _ _ _ _
     refine cA ((((bA1 N v24 x32 r35 hr36).sw 1000 13).sw 1001 504).sw 2 505) ?_
     refine A14 _ _ ?_
     refine A13 _ _ ?_
     refine p9 hn ?_
     refine Or.inl (And.intro (U0 hx33 hl22) ?_)
     refine A10 _ _ ?_
     exact jn ⟨(rest29,k23+1,r35),hd2,h28⟩ [(504,505)] (by show rest29.length < rest29.length+1; omega)
   rintro ⟨v26,hv_⟩
   replace hv_:=hv_.symm
   subst hv_
   refine A7 _ _ ?_
   refine A6 _ _ ?_
   refine p9 hn ?_
   refine Or.inl (And.intro (U0 hx15 hl4) ?_)
   refine A3 _ _ ?_
   exact jn ⟨(rest11,k5+1,v26),hd2,h10⟩ [(502,504)] (by show rest11.length < rest11.length+1; omega)
 rintro ⟨v8,hv_⟩
 replace hv_:=hv_.symm
 subst hv_
 refine A0 _ _ ?_
 refine j6 hn ?_
 refine u7 (fun _=>?_)
 refine Exists.intro (List.map F7 [(a0.heap.length:Int)]) (And.intro (by repeat (first|exact trivial|exact rfl|(refine And.intro ?_ ?_))) ?_)
 obtain ⟨r38,hr39,h⟩:=j5 h
 show l6 Tryz.prog _ _ _ _
 refine cF ((((O8 N v8 [(a0.heap.length:Int)] r38 hr39).sw 1000 13).sw 1001 502).sw 2 506) ?_
 refine j4.seqQ fun _ A15 _ _=>?_
 refine j6 hn ?_
 refine u7 (fun hl40=>?_)
 obtain ⟨o45,h46,h⟩:=j5 h
 refine jk (ι:={ s // o45=s }) hn (fun s=>[]) (fun s=>[(506,.row 1 (List.map (eIk .u8) s.1) 5)]) [(3,_)] [(13,_),(2000,_)] (fun _ A16 _ _=>?_) ?_
 ·refine j4.blkQ fun _ _ E17 _ _=>?_
  refine lq (ι:={ q:((List Ob)×Nat×(List Int)) // q.1=a0.heap.drop q.2.1∧Z5 N q.1 q.2.1 q.2.2=some o45 }) hn (fun q=>[(63,.int (q.1.2.1:Int))]) (fun q=>[(506,.row 1 (List.map (eIk .u8) q.1.2.2) 5)]) (fun q=>q.1.1.length) [(3,_),(61,_),(62,_)] [(13,_),(2000,_)] ⟨(a0.heap,0,r38),rfl,h46⟩ [] ?_
  rintro ⟨⟨rest_,k41,v42⟩,hd48,h46⟩ _ A18 X18 _
  replace hd48:rest_=a0.heap.drop k41:=hd48
  rcases rest_ with _|⟨x50,rest47⟩
  ·have hlt52:=G6 hd48
   replace h46:=(Z5.eq_1 _ _ _).symm.trans h46
   refine j6 hn ?_
   refine j4.seqQ fun _ _ X19 _=>?_
   refine l7 hn ?_
   refine d9 hlt52 ?_
   refine H8 hn ?_
   refine X19 _ _ _ ?_
   refine X18 _ _ _ ?_
   refine E17 _ _ ?_
   refine A16 _ _ ?_
   exact jn ⟨_,sj h46⟩ []
  ·obtain ⟨hx51,hd2,hlt52⟩:=z8 hd48
   replace h46:=(Z5.eq_2 _ _ _ _ _).symm.trans h46
   refine j6 hn ?_
   refine j4.seqQ fun _ A20 _ _=>?_
   refine l7 hn ?_
   refine j3 hlt52 ?_
   refine l9 hn ?_
   refine A20 _ _ ?_
   refine j4.seqQ fun _ A21 _ _=>?_
   refine j4.blkQ fun _ A22 _ _ _=>?_
   refine j6 hn ?_
   refine U9 hx51 ?_
   refine j6 hn ?_
   refine u7 (fun _=>?_)
   refine Exists.intro (List.map F7 [x50.cls,(x50.slots.length:Int)]) (And.intro (by repeat (first|exact trivial|exact rfl|(refine And.intro ?_ ?_))) ?_)
   obtain ⟨r54,hr55,h46⟩:=j5 h46
   show l6 Tryz.prog _ _ _ _
   refine cF ((((O8 N v42 [x50.cls,(x50.slots.length:Int)] r54 hr55).sw 1000 13).sw 1001 506).sw 2 507) ?_
   refine j6 hn ?_
   refine u7 (fun hl56=>?_)
   obtain ⟨o61,h62,h46⟩:=j5 h46
   refine jk (ι:={ s // o61=s }) hn (fun s=>[]) (fun s=>[(507,.row 1 (List.map (eIk .u8) s.1) 5)]) [(3,_),(61,_),(62,_),(63,_)] [(13,_),(2000,_)] (fun _ A23 _ _=>?_) ?_
   ·refine j4.blkQ fun _ _ E24 _ _=>?_
    refine lq (ι:={ q:((List V)×Nat×(List Int)) // q.1=x50.slots.drop q.2.1∧Z0 N q.1 q.2.1 q.2.2=some o61 }) hn (fun q=>[(78,.int (q.1.2.1:Int))]) (fun q=>[(507,.row 1 (List.map (eIk .u8) q.1.2.2) 5)]) (fun q=>q.1.1.length) [(3,_),(61,_),(62,_),(63,_),(76,_),(77,_)] [(13,_),(2000,_)] ⟨(x50.slots,0,r54),rfl,h62⟩ [] ?_
    rintro ⟨⟨rest_,k57,v58⟩,hd64,h62⟩ _ A25 X25 _
    replace hd64:rest_=x50.slots.drop k57:=hd64
    rcases rest_ with _|⟨x66,rest63⟩
    ·have hlt68:=G6 hd64
     replace h62:=(Z0.eq_1 _ _ _).symm.trans h62
     refine j6 hn ?_
     refine j4.seqQ fun _ _ X26 _=>?_
     refine l7 hn ?_
     refine d9 hlt68 ?_
     refine H8 hn ?_
     refine X26 _ _ _ ?_
     refine X25 _ _ _ ?_
     refine E24 _ _ ?_
     refine A23 _ _ ?_
     exact jn ⟨_,sj h62⟩ []
    ·obtain ⟨hx67,hd2,hlt68⟩:=z8 hd64
     replace h62:=(Z0.eq_2 _ _ _ _ _).symm.trans h62
     refine j6 hn ?_
     refine j4.seqQ fun _ A27 _ _=>?_
     refine l7 hn ?_
     refine j3 hlt68 ?_
     refine l9 hn ?_
     refine A27 _ _ ?_
     refine j4.seqQ fun _ A28 _ _=>?_
     refine j4.blkQ fun _ A29 _ _ _=>?_
     refine j6 hn ?_
     refine U9 hx67 ?_
     refine p9 hn ?_
     refine Exists.intro (List.map F7 [x66.k,x66.n]) (And.intro (by repeat (first|exact trivial|exact rfl|(refine And.intro ?_ ?_))) ?_)
     obtain ⟨r69,hr70,h62⟩:=j5 h62
     show l6 Tryz.prog _ _ _ _
     refine cF ((((O8 N v58 [x66.k,x66.n] r69 hr70).sw 1000 13).sw 1001 507).sw 2 508) ?_
     refine A29 _ _ ?_
     refine A28 _ _ ?_
     refine kp [(3,_),(61,_),(62,_),(63,_),(76,_),(77,_),(78,_)] [(13,_),(508,_),(2000,_)] ?_
     refine p9 hn ?_
     refine Or.inl (And.intro (U0 hx67 hl56) ?_)
     refine A25 _ _ ?_
     exact jn ⟨(rest63,k57+1,r69),hd2,h62⟩ [(507,508)] (by show rest63.length < rest63.length+1; omega)
   rintro ⟨v60,hv_⟩
   replace hv_:=hv_.symm
   subst hv_
   refine A22 _ _ ?_
   refine A21 _ _ ?_
   refine p9 hn ?_
   refine Or.inl (And.intro (U0 hx51 hl40) ?_)
   refine A18 _ _ ?_
   exact jn ⟨(rest47,k41+1,v60),hd2,h46⟩ [(506,507)] (by show rest47.length < rest47.length+1; omega)
 rintro ⟨v44,hv_⟩
 replace hv_:=hv_.symm
 subst hv_
 refine A15 _ _ ?_
 refine j6 hn ?_
 obtain ⟨hg71,h⟩:=F6 h
 show l6 Tryz.prog _ _ _ _
 refine cA (bI3 v44 13 506 hg71) ?_
 refine got hn ?_
 obtain rfl:=Option.some.inj h
 exact ⟨[],_,fm⟩

/- (*wire.reader).word -/
set_option maxRecDepth 100000 in
set_option maxHeartbeats 8000000 in
theorem aE6 (N:Nat) (a0:p8) (r:(ByteArray×p8)) (h:I7 N a0=some r):Spec Tryz.prog 85 [(1000,.box (K5 a0) 107),(2000,GL)] [.ptr 1000 0] (.str r.1) [(1000,.box (K5 r.2) 107),(2000,GL)] []:=by
 refine Spec.of F3 Tryz.func85 rfl Tryz.ntmps85 (by kernel_rfl) rfl rfl rfl fun Γ hn=>?_
 unfold I7 at h
 refine j6 hn ?_
 refine j6 hn ?_
 obtain ⟨r1,hr2,h⟩:=j5 h
 show l6 Tryz.prog _ _ _ _
 refine cA (bS5 N a0.s (⟨#[32]⟩:ByteArray) r1 hr2) ?_
 refine j4.seqQ fun _ A0 _ R0=>?_
 refine j4.seqQ fun _ A1 _ _=>?_
 obtain ⟨o5,h4,h⟩:=j5 h
 refine jk (ι:={ s // o5=s }) hn (fun s=>[(20,.bool s.1)]) (fun s=>[]) [(0,_),(3,_),(4,_)] [(1000,_),(2000,_)] (fun _ A2 _ _=>?_) ?_
 ·refine p9 hn ?_
  refine l5 h4 (fun hb6 h4=>?_) (fun hb6 h4=>?_)
  ·refine j3 hb6 ?_
   refine j3 hb6 ?_
   refine A2 _ _ ?_
   exact jn ⟨_,sj h4⟩ []
  refine d9 hb6 ?_
  refine d9 hb6 ?_
  refine A2 _ _ ?_
  exact jn ⟨_,sj h4⟩ []
 rintro ⟨v3,hv_⟩
 replace hv_:=hv_.symm
 subst hv_
 refine A1 _ _ ?_
 refine l7 hn ?_
 refine l5 h (fun hb7 h=>?_) (fun hb7 h=>?_)
 ·refine j6 hn ?_
  refine j6 hn ?_
  refine got hn ?_
  refine R0 _ _ ?_
  obtain rfl:=Option.some.inj h
  exact ⟨[],_,fm⟩
 refine l9 hn ?_
 refine A0 _ _ ?_
 refine j6 hn ?_
 refine j6 hn ?_
 refine got hn ?_
 obtain rfl:=Option.some.inj h
 exact ⟨[],_,fm⟩

/- (*wire.reader).num -/
set_option maxRecDepth 100000 in
set_option maxHeartbeats 8000000 in
theorem G9 (N:Nat) (a0:p8) (r:(Int×p8)) (h:u6 N a0=some r):Spec Tryz.prog 83 [(1000,.box (K5 a0) 107),(2000,GL)] [.ptr 1000 0] (.int r.1) [(1000,.box (K5 r.2) 107),(2000,GL)] []:=by
 refine Spec.of F3 Tryz.func83 rfl Tryz.ntmps83 (by kernel_rfl) rfl rfl rfl fun Γ hn=>?_
 unfold u6 at h
 refine j6 hn ?_
 refine j6 hn ?_
 obtain ⟨r1,hr2,h⟩:=j5 h
 show l6 Tryz.prog _ _ _ _
 refine cA (aE6 N a0 r1 hr2) ?_
 refine j6 hn ?_
 obtain ⟨r3,hr4,h⟩:=j5 h
 show l6 Tryz.prog _ _ _ _
 refine cA (strconv_Atoi_ok N r1.1 r3 hr4) ?_
 refine j4.seqQ fun _ A0 _ _=>?_
 refine j4.seqQ fun _ A1 _ _=>?_
 obtain ⟨o7,h6,h⟩:=j5 h
 refine jk (ι:={ s // o7=s }) hn (fun s=>[(20,.bool s.1)]) (fun s=>[]) [(0,_),(4,_)] [(1000,_),(2000,_)] (fun _ A2 _ _=>?_) ?_
 ·refine p9 hn ?_
  refine And.intro rfl ?_
  refine l5 h6 (fun hb8 h6=>?_) (fun hb8 h6=>?_)
  ·refine j3 hb8 ?_
   refine j3 hb8 ?_
   refine j3 hb8 ?_
   refine j3 hb8 ?_
   refine A2 _ _ ?_
   exact jn ⟨_,sj h6⟩ []
  refine d9 hb8 ?_
  obtain ⟨r9,hr10,h6⟩:=j5 h6
  show l6 Tryz.prog _ _ _ _
  refine cA (aI5 N r3.1 r9 hr10) ?_
  refine d9 hb8 ?_
  refine d9 hb8 ?_
  refine d9 hb8 ?_
  refine A2 _ _ ?_
  exact jn ⟨_,sj h6⟩ []
 rintro ⟨v5,hv_⟩
 replace hv_:=hv_.symm
 subst hv_
 refine A1 _ _ ?_
 obtain ⟨o13,h12,h⟩:=j5 h
 refine jk (ι:={ s // o13=s }) hn (fun s=>[]) (fun s=>[(1000,.box (K5 s.1) 107)]) [(0,_),(4,_)] [(2000,_)] (fun _ A3 _ _=>?_) ?_
 ·refine l7 hn ?_
  refine l5 h12 (fun hb14 h12=>?_) (fun hb14 h12=>?_)
  ·refine p9 hn ?_
   refine A3 _ _ ?_
   exact jn ⟨_,sj h12⟩ []
  refine l9 hn ?_
  refine A3 _ _ ?_
  exact jn ⟨_,sj h12⟩ []
 rintro ⟨v11,hv_⟩
 replace hv_:=hv_.symm
 subst hv_
 refine A0 _ _ ?_
 refine j6 hn ?_
 refine got hn ?_
 obtain rfl:=Option.some.inj h
 exact ⟨[],_,fm⟩

/- (*wire.reader).count -/
set_option maxRecDepth 100000 in
set_option maxHeartbeats 8000000 in
theorem Y6 (N:Nat) (a0:p8) (a1:Int) (r:(Int×p8)) (h:G7 N a0 a1=some r):Spec Tryz.prog 84 [(1000,.box (K5 a0) 107),(2000,GL)] [.ptr 1000 0,.int a1] (.int r.1) [(1000,.box (K5 r.2) 107),(2000,GL)] []:=by
 refine Spec.of F3 Tryz.func84 rfl Tryz.ntmps84 (by kernel_rfl) rfl rfl rfl fun Γ hn=>?_
 unfold G7 at h
 refine j6 hn ?_
 refine j6 hn ?_
 obtain ⟨r1,hr2,h⟩:=j5 h
 show l6 Tryz.prog _ _ _ _
 refine cA (G9 N a0 r1 hr2) ?_
 refine j4.seqQ fun _ A0 _ R0=>?_
 refine j4.seqQ fun _ A1 _ _=>?_
 obtain ⟨o5,h4,h⟩:=j5 h
 refine jk (ι:={ s // o5=s }) hn (fun s=>[(14,.bool s.1)]) (fun s=>[]) [(0,_),(5,_)] [(1000,_),(2000,_)] (fun _ A2 _ _=>?_) ?_
 ·refine p9 hn ?_
  refine l5 h4 (fun hb6 h4=>?_) (fun hb6 h4=>?_)
  ·refine j3 hb6 ?_
   refine j3 hb6 ?_
   refine j3 hb6 ?_
   refine A2 _ _ ?_
   exact jn ⟨_,sj h4⟩ []
  refine d9 hb6 ?_
  refine d9 hb6 ?_
  refine d9 hb6 ?_
  refine A2 _ _ ?_
  exact jn ⟨_,sj h4⟩ []
 rintro ⟨v3,hv_⟩
 replace hv_:=hv_.symm
 subst hv_
 refine A1 _ _ ?_
 refine l7 hn ?_
 refine l5 h (fun hb7 h=>?_) (fun hb7 h=>?_)
 ·refine j6 hn ?_
  refine j6 hn ?_
  refine got hn ?_
  refine R0 _ _ ?_
  obtain rfl:=Option.some.inj h
  exact ⟨[],_,fm⟩
 refine l9 hn ?_
 refine A0 _ _ ?_
 refine j6 hn ?_
 refine got hn ?_
 obtain rfl:=Option.some.inj h
 exact ⟨[],_,fm⟩

/- (*wire.reader).method -/
set_option maxRecDepth 100000 in
set_option maxHeartbeats 8000000 in
theorem a06 (N:Nat) (a0:p8) (r:(Me×p8)) (h:Q7 N a0=some r):Spec Tryz.prog 86 [(1000,.box (K5 a0) 107),(2000,GL)] [.ptr 1000 0] (.agg (Z6 r.1)) [(1000,.box (K5 r.2) 107),(2000,GL)] []:=by
 refine Spec.of F3 Tryz.func86 rfl Tryz.ntmps86 (by kernel_rfl) rfl rfl rfl fun Γ hn=>?_
 unfold Q7 at h
 refine j6 hn ?_
 refine j6 hn ?_
 obtain ⟨r1,hr2,h⟩:=j5 h
 show l6 Tryz.prog _ _ _ _
 refine cA (aE6 N a0 r1 hr2) ?_
 obtain ⟨r3,hr4,h⟩:=j5 h
 show l6 Tryz.prog _ _ _ _
 refine cA (G9 N r1.2 r3 hr4) ?_
 obtain ⟨r5,hr6,h⟩:=j5 h
 show l6 Tryz.prog _ _ _ _
 refine cA (G9 N r3.2 r5 hr6) ?_
 obtain ⟨r7,hr8,h⟩:=j5 h
 show l6 Tryz.prog _ _ _ _
 refine cA (G9 N r5.2 r7 hr8) ?_
 refine j4.seqQ fun _ A0 _ _=>?_
 refine j6 hn ?_
 obtain ⟨r9,hr10,h⟩:=j5 h
 show l6 Tryz.prog _ _ _ _
 refine cA (Y6 N r7.2 (60:Int) r9 hr10) ?_
 refine j4.nilrowB 3 4 501 5 55 rfl rfl rfl rfl rfl rfl ?_
 refine j4.rng 15 rfl (fun hrn11=>?_)
 obtain ⟨o18,h19,h⟩:=j5 h
 refine jk (ι:={ s // o18=s }) hn (fun s=>[]) (fun s=>[(501,.row 5 (List.map aG9 s.1.2) 55),(1000,.box (K5 s.1.1) 107)]) [(0,_),(2,_),(3,_)] [(2,_),(3,_),(2000,_)] (fun _ A1 _ _=>?_) ?_
 ·refine j4.blkQ fun _ _ E2 _ _=>?_
  refine lq (ι:={ q:(Nat×Nat×p8×(List Ins)) // q.1=(r9.1 - (q.2.1:Int)).toNat∧I5 N q.1 q.2.1 q.2.2.1 q.2.2.2=some o18 }) hn (fun q=>[(16,.int (q.1.2.1:Int))]) (fun q=>[(501,.row 5 (List.map aG9 q.1.2.2.2) 55),(1000,.box (K5 q.1.2.2.1) 107)]) (fun q=>q.1.1) [(0,_),(2,_),(3,_),(15,_)] [(2,_),(3,_),(2000,_)] ⟨((r9.1 - ((0:Nat):Int)).toNat,0,r9.2,([]:List Ins)),rfl,h19⟩ [] ?_
  rintro ⟨⟨n_,k11,v12,v13⟩,hd21,h19⟩ _ A3 X3 _
  replace hd21:n_=(r9.1 - (k11:Int)).toNat:=hd21
  rcases n_ with _|n22
  ·have hlt25:=aH2 hd21
   replace h19:=(I5.eq_1 _ _ _ _).symm.trans h19
   refine j6 hn ?_
   refine j4.seqQ fun _ _ X4 _=>?_
   refine l7 hn ?_
   refine d9 hlt25 ?_
   refine H8 hn ?_
   refine X4 _ _ _ ?_
   refine X3 _ _ _ ?_
   refine E2 _ _ ?_
   refine A1 _ _ ?_
   exact jn ⟨_,sj h19⟩ []
  ·obtain ⟨hd2,hlt25⟩:=aE5 hd21
   replace h19:=(I5.eq_2 _ _ _ _ _).symm.trans h19
   refine j6 hn ?_
   refine j4.seqQ fun _ A5 _ _=>?_
   refine l7 hn ?_
   refine j3 hlt25 ?_
   refine l9 hn ?_
   refine A5 _ _ ?_
   refine j4.seqQ fun _ A6 _ _=>?_
   refine j4.blkQ fun _ A7 _ _ _=>?_
   refine j6 hn ?_
   obtain ⟨r26,hr27,h19⟩:=j5 h19
   show l6 Tryz.prog _ _ _ _
   refine cA (G9 N v12 r26 hr27) ?_
   obtain ⟨r28,hr29,h19⟩:=j5 h19
   show l6 Tryz.prog _ _ _ _
   refine cA (G9 N r26.2 r28 hr29) ?_
   refine j4.seqQ fun _ A8 _ _=>?_
   refine j6 hn ?_
   obtain ⟨o33,h32,h19⟩:=j5 h19
   refine jk (ι:={ s // o33=s }) hn (fun s=>[]) (fun s=>[(4,.box [.int r26.1,.int r28.1,.int (0:Int),.int (0:Int),.str s.1.2] 55),(1000,.box (K5 s.1.1) 107)]) [(0,_),(2,_),(3,_),(4,_),(15,_),(16,_)] [(2,_),(3,_),(501,_),(2000,_)] (fun _ A9 _ _=>?_) ?_
   ·refine l7 hn ?_
    refine l5 h32 (fun hb34 h32=>?_) (fun hb34 h32=>?_)
    ·refine p9 hn ?_
     obtain ⟨r35,hr36,h32⟩:=j5 h32
     show l6 Tryz.prog _ _ _ _
     refine cA (aE6 N r28.2 r35 hr36) ?_
     refine A9 _ _ ?_
     exact jn ⟨_,sj h32⟩ []
    refine l9 hn ?_
    refine A9 _ _ ?_
    exact jn ⟨_,sj h32⟩ []
   rintro ⟨⟨v30,v31⟩,rfl⟩
   refine A8 _ _ ?_
   refine p9 hn ?_
   refine Exists.intro (List.map aG9 [(⟨r26.1,r28.1,(0:Int),(0:Int),v31⟩:Ins)]) (And.intro (by repeat (first|exact trivial|exact rfl|(refine And.intro ?_ ?_))) ?_)
   obtain ⟨hg37,h19⟩:=F6 h19
   refine aJ7 (l2:=[(⟨r26.1,r28.1,(0:Int),(0:Int),v31⟩:Ins)]) hg37 (H7 _) ?_
   refine A7 _ _ ?_
   refine A6 _ _ ?_
   refine p9 hn ?_
   refine Or.inl (And.intro (aL4 hlt25 hrn11) ?_)
   refine A3 _ _ ?_
   exact jn ⟨(n22,k11+1,v30,(v13++[(⟨r26.1,r28.1,(0:Int),(0:Int),v31⟩:Ins)])),hd2,h19⟩ [(501,33)] (by show n22 < n22+1; omega)
 rintro ⟨⟨v16,v17⟩,rfl⟩
 refine A0 _ _ ?_
 refine j6 hn ?_
 refine j4.fzAll 501 rfl ?_
 refine got hn ?_
 obtain rfl:=Option.some.inj h
 exact ⟨[],_,fm⟩

/- (*wire.reader).world -/
set_option maxRecDepth 100000 in
set_option maxHeartbeats 8000000 in
theorem bA7 (N:Nat) (a0:p8) (r:(Wd×p8)) (h:aC6 N a0=some r):Spec Tryz.prog 51 [(1000,.box (K5 a0) 107),(2000,GL)] [.ptr 1000 0] (.agg (eWd r.1)) [(1000,.box (K5 r.2) 107),(2000,GL)] []:=by
 refine Spec.of F3 Tryz.func51 rfl Tryz.ntmps51 (by kernel_rfl) rfl rfl rfl fun Γ hn=>?_
 unfold aC6 at h
 refine j6 hn ?_
 refine j6 hn ?_
 obtain ⟨r1,hr2,h⟩:=j5 h
 show l6 Tryz.prog _ _ _ _
 refine cA (G9 N a0 r1 hr2) ?_
 refine j4.seqQ fun _ A0 _ _=>?_
 refine j6 hn ?_
 obtain ⟨r3,hr4,h⟩:=j5 h
 show l6 Tryz.prog _ _ _ _
 refine cA (Y6 N r1.2 (12:Int) r3 hr4) ?_
 refine j4.nilrowB 3 0 501 4 81 rfl rfl rfl rfl rfl rfl ?_
 refine j4.rng 10 rfl (fun hrn5=>?_)
 obtain ⟨o12,h13,h⟩:=j5 h
 refine jk (ι:={ s // o12=s }) hn (fun s=>[]) (fun s=>[(501,.row 4 (List.map eCl s.1.2) 81),(1000,.box (K5 s.1.1) 107)]) [(0,_),(2,_),(3,_)] [(2,_),(3,_),(2000,_)] (fun _ A1 _ _=>?_) ?_
 ·refine j4.blkQ fun _ _ E2 _ _=>?_
  refine lq (ι:={ q:(Nat×Nat×p8×(List Cl)) // q.1=(r3.1 - (q.2.1:Int)).toNat∧I8 N q.1 q.2.1 q.2.2.1 q.2.2.2=some o12 }) hn (fun q=>[(11,.int (q.1.2.1:Int))]) (fun q=>[(501,.row 4 (List.map eCl q.1.2.2.2) 81),(1000,.box (K5 q.1.2.2.1) 107)]) (fun q=>q.1.1) [(0,_),(2,_),(3,_),(10,_)] [(2,_),(3,_),(2000,_)] ⟨((r3.1 - ((0:Nat):Int)).toNat,0,r3.2,([]:List Cl)),rfl,h13⟩ [] ?_
  rintro ⟨⟨n_,k5,v6,v7⟩,hd15,h13⟩ _ A3 X3 _
  replace hd15:n_=(r3.1 - (k5:Int)).toNat:=hd15
  rcases n_ with _|n16
  ·have hlt19:=aH2 hd15
   replace h13:=(I8.eq_1 _ _ _ _).symm.trans h13
   refine j6 hn ?_
   refine j4.seqQ fun _ _ X4 _=>?_
   refine l7 hn ?_
   refine d9 hlt19 ?_
   refine H8 hn ?_
   refine X4 _ _ _ ?_
   refine X3 _ _ _ ?_
   refine E2 _ _ ?_
   refine A1 _ _ ?_
   exact jn ⟨_,sj h13⟩ []
  ·obtain ⟨hd2,hlt19⟩:=aE5 hd15
   replace h13:=(I8.eq_2 _ _ _ _ _).symm.trans h13
   refine j6 hn ?_
   refine j4.seqQ fun _ A5 _ _=>?_
   refine l7 hn ?_
   refine j3 hlt19 ?_
   refine l9 hn ?_
   refine A5 _ _ ?_
   refine j4.seqQ fun _ A6 _ _=>?_
   refine j4.blkQ fun _ A7 _ _ _=>?_
   refine j6 hn ?_
   obtain ⟨r20,hr21,h13⟩:=j5 h13
   show l6 Tryz.prog _ _ _ _
   refine cA (aE6 N v6 r20 hr21) ?_
   obtain ⟨r22,hr23,h13⟩:=j5 h13
   show l6 Tryz.prog _ _ _ _
   refine cA (G9 N r20.2 r22 hr23) ?_
   obtain ⟨r24,hr25,h13⟩:=j5 h13
   show l6 Tryz.prog _ _ _ _
   refine cA (G9 N r22.2 r24 hr25) ?_
   refine j4.seqQ fun _ A8 _ _=>?_
   refine j6 hn ?_
   obtain ⟨r26,hr27,h13⟩:=j5 h13
   show l6 Tryz.prog _ _ _ _
   refine cA (Y6 N r24.2 (8:Int) r26 hr27) ?_
   refine j4.nilrowB 4 3 502 5 27 rfl rfl rfl rfl rfl rfl ?_
   refine j4.rng 21 rfl (fun hrn28=>?_)
   obtain ⟨o35,h36,h13⟩:=j5 h13
   refine jk (ι:={ s // o35=s }) hn (fun s=>[]) (fun s=>[(502,.row 5 (List.map Z6 s.1.2) 27),(1000,.box (K5 s.1.1) 107)]) [(0,_),(2,_),(3,_),(4,_),(10,_),(11,_)] [(2,_),(3,_),(4,_),(501,_),(2000,_)] (fun _ A9 _ _=>?_) ?_
   ·refine j4.blkQ fun _ _ E10 _ _=>?_
    refine lq (ι:={ q:(Nat×Nat×p8×(List Me)) // q.1=(r26.1 - (q.2.1:Int)).toNat∧G5 N q.1 q.2.1 q.2.2.1 q.2.2.2=some o35 }) hn (fun q=>[(22,.int (q.1.2.1:Int))]) (fun q=>[(502,.row 5 (List.map Z6 q.1.2.2.2) 27),(1000,.box (K5 q.1.2.2.1) 107)]) (fun q=>q.1.1) [(0,_),(2,_),(3,_),(4,_),(10,_),(11,_),(21,_)] [(2,_),(3,_),(4,_),(501,_),(2000,_)] ⟨((r26.1 - ((0:Nat):Int)).toNat,0,r26.2,([]:List Me)),rfl,h36⟩ [] ?_
    rintro ⟨⟨n_,k28,v29,v30⟩,hd38,h36⟩ _ A11 X11 _
    replace hd38:n_=(r26.1 - (k28:Int)).toNat:=hd38
    rcases n_ with _|n39
    ·have hlt42:=aH2 hd38
     replace h36:=(G5.eq_1 _ _ _ _).symm.trans h36
     refine j6 hn ?_
     refine j4.seqQ fun _ _ X12 _=>?_
     refine l7 hn ?_
     refine d9 hlt42 ?_
     refine H8 hn ?_
     refine X12 _ _ _ ?_
     refine X11 _ _ _ ?_
     refine E10 _ _ ?_
     refine A9 _ _ ?_
     exact jn ⟨_,sj h36⟩ []
    ·obtain ⟨hd2,hlt42⟩:=aE5 hd38
     replace h36:=(G5.eq_2 _ _ _ _ _).symm.trans h36
     refine j6 hn ?_
     refine j4.seqQ fun _ A13 _ _=>?_
     refine l7 hn ?_
     refine j3 hlt42 ?_
     refine l9 hn ?_
     refine A13 _ _ ?_
     refine j4.seqQ fun _ A14 _ _=>?_
     refine j4.blkQ fun _ A15 _ _ _=>?_
     refine god hn (by kernel_rfl) ?_
     obtain ⟨r43,hr44,h36⟩:=j5 h36
     show l6 Tryz.prog _ _ _ _
     refine cA (a06 N v29 r43 hr44) ?_
     refine Exists.intro (List.map Z6 [r43.1]) (And.intro (by repeat (first|exact trivial|exact rfl|(refine And.intro ?_ ?_))) ?_)
     obtain ⟨hg45,h36⟩:=F6 h36
     refine aJ7 (l2:=[r43.1]) hg45 (H7 _) ?_
     refine A15 _ _ ?_
     refine A14 _ _ ?_
     refine p9 hn ?_
     refine Or.inl (And.intro (aL4 hlt42 hrn28) ?_)
     refine A11 _ _ ?_
     exact jn ⟨(n39,k28+1,r43.2,(v30++[r43.1])),hd2,h36⟩ [(502,29)] (by show n39 < n39+1; omega)
   rintro ⟨⟨v33,v34⟩,rfl⟩
   refine A8 _ _ ?_
   refine p9 hn ?_
   refine Or.inr ?_
   refine Exists.intro (List.map eCl [(⟨r20.1,r22.1,r24.1,v34⟩:Cl)]) (And.intro (by repeat (first|exact trivial|exact rfl|(refine And.intro ?_ ?_))) ?_)
   obtain ⟨hg46,h13⟩:=F6 h13
   refine aJ7 (l2:=[(⟨r20.1,r22.1,r24.1,v34⟩:Cl)]) hg46 (H7 _) ?_
   refine A7 _ _ ?_
   refine A6 _ _ ?_
   refine p9 hn ?_
   refine Or.inl (And.intro (aL4 hlt19 hrn5) ?_)
   refine A3 _ _ ?_
   exact jn ⟨(n16,k5+1,v33,(v7++[(⟨r20.1,r22.1,r24.1,v34⟩:Cl)])),hd2,h13⟩ [(501,36)] (by show n16 < n16+1; omega)
 rintro ⟨⟨v10,v11⟩,rfl⟩
 refine A0 _ _ ?_
 refine j4.seqQ fun _ A16 _ _=>?_
 refine j6 hn ?_
 obtain ⟨r47,hr48,h⟩:=j5 h
 show l6 Tryz.prog _ _ _ _
 refine cA (Y6 N v10 (60:Int) r47 hr48) ?_
 refine j4.nilrowB 3 1 503 2 92 rfl rfl rfl rfl rfl rfl ?_
 refine j4.rng 40 rfl (fun hrn49=>?_)
 obtain ⟨o56,h57,h⟩:=j5 h
 refine jk (ι:={ s // o56=s }) hn (fun s=>[]) (fun s=>[(503,.row 2 (List.map eOb s.1.2) 92),(1000,.box (K5 s.1.1) 107)]) [(0,_),(2,_),(3,_)] [(2,_),(3,_),(501,_),(2000,_)] (fun _ A17 _ _=>?_) ?_
 ·refine j4.blkQ fun _ _ E18 _ _=>?_
  refine lq (ι:={ q:(Nat×Nat×p8×(List Ob)) // q.1=(r47.1 - (q.2.1:Int)).toNat∧I9 N q.1 q.2.1 q.2.2.1 q.2.2.2=some o56 }) hn (fun q=>[(41,.int (q.1.2.1:Int))]) (fun q=>[(503,.row 2 (List.map eOb q.1.2.2.2) 92),(1000,.box (K5 q.1.2.2.1) 107)]) (fun q=>q.1.1) [(0,_),(2,_),(3,_),(40,_)] [(2,_),(3,_),(501,_),(2000,_)] ⟨((r47.1 - ((0:Nat):Int)).toNat,0,r47.2,([]:List Ob)),rfl,h57⟩ [] ?_
  rintro ⟨⟨n_,k49,v50,v51⟩,hd59,h57⟩ _ A19 X19 _
  replace hd59:n_=(r47.1 - (k49:Int)).toNat:=hd59
  rcases n_ with _|n60
  ·have hlt63:=aH2 hd59
   replace h57:=(I9.eq_1 _ _ _ _).symm.trans h57
   refine j6 hn ?_
   refine j4.seqQ fun _ _ X20 _=>?_
   refine l7 hn ?_
   refine d9 hlt63 ?_
   refine H8 hn ?_
   refine X20 _ _ _ ?_
   refine X19 _ _ _ ?_
   refine E18 _ _ ?_
   refine A17 _ _ ?_
   exact jn ⟨_,sj h57⟩ []
  ·obtain ⟨hd2,hlt63⟩:=aE5 hd59
   replace h57:=(I9.eq_2 _ _ _ _ _).symm.trans h57
   refine j6 hn ?_
   refine j4.seqQ fun _ A21 _ _=>?_
   refine l7 hn ?_
   refine j3 hlt63 ?_
   refine l9 hn ?_
   refine A21 _ _ ?_
   refine j4.seqQ fun _ A22 _ _=>?_
   refine j4.blkQ fun _ A23 _ _ _=>?_
   refine j6 hn ?_
   obtain ⟨r64,hr65,h57⟩:=j5 h57
   show l6 Tryz.prog _ _ _ _
   refine cA (G9 N v50 r64 hr65) ?_
   refine j4.seqQ fun _ A24 _ _=>?_
   refine j6 hn ?_
   obtain ⟨r66,hr67,h57⟩:=j5 h57
   show l6 Tryz.prog _ _ _ _
   refine cA (Y6 N r64.2 (6:Int) r66 hr67) ?_
   refine j4.nilrowB 5 1 504 2 29 rfl rfl rfl rfl rfl rfl ?_
   refine j4.rng 47 rfl (fun hrn68=>?_)
   obtain ⟨o75,h76,h57⟩:=j5 h57
   refine jk (ι:={ s // o75=s }) hn (fun s=>[]) (fun s=>[(504,.row 2 (List.map eV s.1.2) 29),(1000,.box (K5 s.1.1) 107)]) [(0,_),(2,_),(3,_),(5,_),(40,_),(41,_)] [(2,_),(3,_),(5,_),(501,_),(503,_),(2000,_)] (fun _ A25 _ _=>?_) ?_
   ·refine j4.blkQ fun _ _ E26 _ _=>?_
    refine lq (ι:={ q:(Nat×Nat×p8×(List V)) // q.1=(r66.1 - (q.2.1:Int)).toNat∧F9 N q.1 q.2.1 q.2.2.1 q.2.2.2=some o75 }) hn (fun q=>[(48,.int (q.1.2.1:Int))]) (fun q=>[(504,.row 2 (List.map eV q.1.2.2.2) 29),(1000,.box (K5 q.1.2.2.1) 107)]) (fun q=>q.1.1) [(0,_),(2,_),(3,_),(5,_),(40,_),(41,_),(47,_)] [(2,_),(3,_),(5,_),(501,_),(503,_),(2000,_)] ⟨((r66.1 - ((0:Nat):Int)).toNat,0,r66.2,([]:List V)),rfl,h76⟩ [] ?_
    rintro ⟨⟨n_,k68,v69,v70⟩,hd78,h76⟩ _ A27 X27 _
    replace hd78:n_=(r66.1 - (k68:Int)).toNat:=hd78
    rcases n_ with _|n79
    ·have hlt82:=aH2 hd78
     replace h76:=(F9.eq_1 _ _ _ _).symm.trans h76
     refine j6 hn ?_
     refine j4.seqQ fun _ _ X28 _=>?_
     refine l7 hn ?_
     refine d9 hlt82 ?_
     refine H8 hn ?_
     refine X28 _ _ _ ?_
     refine X27 _ _ _ ?_
     refine E26 _ _ ?_
     refine A25 _ _ ?_
     exact jn ⟨_,sj h76⟩ []
    ·obtain ⟨hd2,hlt82⟩:=aE5 hd78
     replace h76:=(F9.eq_2 _ _ _ _ _).symm.trans h76
     refine j6 hn ?_
     refine j4.seqQ fun _ A29 _ _=>?_
     refine l7 hn ?_
     refine j3 hlt82 ?_
     refine l9 hn ?_
     refine A29 _ _ ?_
     refine j4.seqQ fun _ A30 _ _=>?_
     refine j4.blkQ fun _ A31 _ _ _=>?_
     refine god hn (by kernel_rfl) ?_
     obtain ⟨r83,hr84,h76⟩:=j5 h76
     show l6 Tryz.prog _ _ _ _
     refine cA (G9 N v69 r83 hr84) ?_
     obtain ⟨r85,hr86,h76⟩:=j5 h76
     show l6 Tryz.prog _ _ _ _
     refine cA (G9 N r83.2 r85 hr86) ?_
     refine Exists.intro (List.map eV [(⟨r83.1,r85.1⟩:V)]) (And.intro (by repeat (first|exact trivial|exact rfl|(refine And.intro ?_ ?_))) ?_)
     obtain ⟨hg87,h76⟩:=F6 h76
     refine aJ7 (l2:=[(⟨r83.1,r85.1⟩:V)]) hg87 (H7 _) ?_
     refine A31 _ _ ?_
     refine A30 _ _ ?_
     refine kp [(0,_),(2,_),(3,_),(5,_),(40,_),(41,_),(47,_),(48,_)] [(2,_),(3,_),(5,_),(58,_),(501,_),(503,_),(1000,_),(2000,_)] ?_
     refine p9 hn ?_
     refine Or.inl (And.intro (aL4 hlt82 hrn68) ?_)
     refine A27 _ _ ?_
     exact jn ⟨(n79,k68+1,r85.2,(v70++[(⟨r83.1,r85.1⟩:V)])),hd2,h76⟩ [(504,58)] (by show n79 < n79+1; omega)
   rintro ⟨⟨v73,v74⟩,rfl⟩
   refine A24 _ _ ?_
   refine p9 hn ?_
   refine Or.inr ?_
   refine Exists.intro (List.map eOb [(⟨r64.1,v74⟩:Ob)]) (And.intro (by repeat (first|exact trivial|exact rfl|(refine And.intro ?_ ?_))) ?_)
   obtain ⟨hg88,h57⟩:=F6 h57
   refine aJ7 (l2:=[(⟨r64.1,v74⟩:Ob)]) hg88 (H7 _) ?_
   refine A23 _ _ ?_
   refine A22 _ _ ?_
   refine p9 hn ?_
   refine Or.inl (And.intro (aL4 hlt63 hrn49) ?_)
   refine A19 _ _ ?_
   exact jn ⟨(n60,k49+1,v73,(v51++[(⟨r64.1,v74⟩:Ob)])),hd2,h57⟩ [(503,65)] (by show n60 < n60+1; omega)
 rintro ⟨⟨v54,v55⟩,rfl⟩
 refine A16 _ _ ?_
 refine j6 hn ?_
 refine j4.fzAll 501 rfl ?_
 refine j4.fzAll 503 rfl ?_
 refine got hn ?_
 obtain rfl:=Option.some.inj h
 exact ⟨[],_,fm⟩

/- wire.prim -/
set_option maxRecDepth 100000 in
set_option maxHeartbeats 8000000 in
theorem b09 (N:Nat) (a0:Wd) (a1:Me) (r:Bool) (h:aN0 N a0 a1=some r):Spec Tryz.prog 38 [] [.fp (eWd a0),.fp (Z6 a1)] (.bool r) [] []:=by
 refine Spec.of F3 Tryz.func38 rfl Tryz.ntmps38 (by kernel_rfl) rfl rfl rfl fun Γ hn=>?_
 unfold aN0 at h
 refine j6 hn ?_
 refine j4.seqQ fun _ A0 _ _=>?_
 refine god hn (by kernel_rfl) ?_
 obtain ⟨r1,hr2,h⟩:=j5 h
 show l6 Tryz.prog _ _ _ _
 refine cA (bX6 N a0 (3:Int) a1.name r1 hr2) ?_
 refine A0 _ _ ?_
 refine j4.seqQ fun _ A1 _ _=>?_
 obtain ⟨o5,h4,h⟩:=j5 h
 refine jk (ι:={ s // o5=s }) hn (fun s=>[(4,.bool s.1)]) (fun s=>[]) [] [] (fun _ A2 _ _=>?_) ?_
 ·refine kp [(0,_),(1,_),(6,_)] [] ?_
  refine god hn (by kernel_rfl) ?_
  refine l5 h4 (fun hb6 h4=>?_) (fun hb6 h4=>?_)
  ·refine j3 hb6 ?_
   refine j3 hb6 ?_
   refine j3 hb6 ?_
   refine j3 hb6 ?_
   refine j3 hb6 ?_
   refine j3 hb6 ?_
   refine j3 hb6 ?_
   refine j3 hb6 ?_
   obtain ⟨x7,hx8,h4⟩:=j5 h4
   refine W9 hx8 ?_
   refine j3 hb6 ?_
   refine j3 hb6 ?_
   refine j3 hb6 ?_
   refine j3 hb6 ?_
   obtain ⟨x9,hx10,h4⟩:=j5 h4
   refine W9 hx10 ?_
   refine j3 hb6 ?_
   refine j3 hb6 ?_
   refine j3 hb6 ?_
   refine j3 hb6 ?_
   refine l5 h4 (fun hb11 h4=>?_) (fun hb11 h4=>?_)
   ·refine j3 hb11 ?_
    refine j3 hb11 ?_
    refine j3 hb11 ?_
    refine j3 hb11 ?_
    refine j3 hb11 ?_
    refine l5 h4 (fun hb12 h4=>?_) (fun hb12 h4=>?_)
    ·refine j3 hb12 ?_
     refine j3 hb12 ?_
     refine j3 hb12 ?_
     refine j3 hb12 ?_
     refine j3 hb12 ?_
     refine l5 h4 (fun hb13 h4=>?_) (fun hb13 h4=>?_)
     ·refine j3 hb13 ?_
      refine j3 hb13 ?_
      refine j3 hb13 ?_
      refine j3 hb13 ?_
      refine u7 (fun _=>?_)
      refine j3 hb13 ?_
      refine j3 hb13 ?_
      refine A2 _ _ ?_
      exact jn ⟨_,sj h4⟩ []
     refine d9 hb13 ?_
     refine d9 hb13 ?_
     refine d9 hb13 ?_
     refine d9 hb13 ?_
     refine d9 hb13 ?_
     refine d9 hb13 ?_
     refine A2 _ _ ?_
     exact jn ⟨_,sj h4⟩ []
    refine d9 hb12 ?_
    refine d9 hb12 ?_
    refine d9 hb12 ?_
    refine d9 hb12 ?_
    refine d9 hb12 ?_
    refine A2 _ _ ?_
    exact jn ⟨_,sj h4⟩ []
   refine d9 hb11 ?_
   refine d9 hb11 ?_
   refine d9 hb11 ?_
   refine d9 hb11 ?_
   refine d9 hb11 ?_
   refine A2 _ _ ?_
   exact jn ⟨_,sj h4⟩ []
  refine d9 hb6 ?_
  refine d9 hb6 ?_
  refine d9 hb6 ?_
  refine d9 hb6 ?_
  refine d9 hb6 ?_
  refine d9 hb6 ?_
  refine d9 hb6 ?_
  refine d9 hb6 ?_
  refine d9 hb6 ?_
  refine d9 hb6 ?_
  refine d9 hb6 ?_
  refine d9 hb6 ?_
  refine d9 hb6 ?_
  refine d9 hb6 ?_
  refine d9 hb6 ?_
  refine d9 hb6 ?_
  refine A2 _ _ ?_
  exact jn ⟨_,sj h4⟩ []
 rintro ⟨v3,hv_⟩
 replace hv_:=hv_.symm
 subst hv_
 refine A1 _ _ ?_
 refine got hn ?_
 obtain rfl:=Option.some.inj h
 exact ⟨[],_,fm⟩

/- wire.heap -/
set_option maxRecDepth 100000 in
set_option maxHeartbeats 8000000 in
theorem b65 (N:Nat) (a0:Wd) (r:Int) (h:aY9 N a0=some r):Spec Tryz.prog 40 [] [.fp (eWd a0)] (.int r) [] []:=by
 refine Spec.of F3 Tryz.func40 rfl Tryz.ntmps40 (by kernel_rfl) rfl rfl rfl fun Γ hn=>?_
 unfold aY9 at h
 refine j6 hn ?_
 refine j4.seqQ fun _ A0 _ R0=>?_
 refine j6 hn ?_
 refine u7 (fun hl1=>?_)
 obtain ⟨o3,h4,h⟩:=j5 h
 refine jk (ι:={ s // o3=C9.next s }) hn (fun s=>[]) (fun s=>[]) [] [] (fun _ A1 _ R1=>?_) ?_
 ·refine j4.blkQ fun _ _ E2 _ R2=>?_
  refine lq (ι:={ q:((List Ob)×Nat) // q.1=a0.heap.drop q.2∧aD6 N a0 q.1 q.2=some o3 }) hn (fun q=>[(13,.int (q.1.2:Int))]) (fun q=>[]) (fun q=>q.1.1.length) [(0,_),(11,_),(12,_)] [] ⟨(a0.heap,0),rfl,h4⟩ [] ?_
  rintro ⟨⟨rest_,k2⟩,hd6,h4⟩ _ A3 X3 R3
  replace hd6:rest_=a0.heap.drop k2:=hd6
  rcases rest_ with _|⟨x8,rest5⟩
  ·have hlt10:=G6 hd6
   replace h4:=(aD6.eq_1 _ _ _).symm.trans h4
   refine j6 hn ?_
   refine j4.seqQ fun _ _ X4 _=>?_
   refine l7 hn ?_
   refine d9 hlt10 ?_
   refine H8 hn ?_
   refine X4 _ _ _ ?_
   refine X3 _ _ _ ?_
   refine E2 _ _ ?_
   refine A1 _ _ ?_
   exact jn ⟨_,sj h4⟩ []
  ·obtain ⟨hx9,hd2,hlt10⟩:=z8 hd6
   replace h4:=(aD6.eq_2 _ _ _ _ _).symm.trans h4
   refine j6 hn ?_
   refine j4.seqQ fun _ A5 _ _=>?_
   refine l7 hn ?_
   refine j3 hlt10 ?_
   refine l9 hn ?_
   refine A5 _ _ ?_
   refine j4.seqQ fun _ A6 _ R6=>?_
   refine j4.blkQ fun _ A7 _ _ R7=>?_
   refine j6 hn ?_
   refine U9 hx9 ?_
   refine j4.seqQ fun _ A8 _ R8=>?_
   refine j4.seqQ fun _ A9 _ _=>?_
   obtain ⟨o13,h12,h4⟩:=j5 h4
   refine jk (ι:={ s // o13=s }) hn (fun s=>[(46,.bool s.1)]) (fun s=>[]) [(0,_),(4,_),(11,_),(12,_),(13,_)] [(4,_)] (fun _ A10 _ _=>?_) ?_
   ·refine kp [(0,_),(4,_),(11,_),(12,_),(13,_)] [(4,_)] ?_
    refine god hn (by kernel_rfl) ?_
    refine l5 h12 (fun hb14 h12=>?_) (fun hb14 h12=>?_)
    ·refine j3 hb14 ?_
     refine j3 hb14 ?_
     refine j3 hb14 ?_
     refine l5 h12 (fun hb15 h12=>?_) (fun hb15 h12=>?_)
     ·refine j3 hb15 ?_
      refine j3 hb15 ?_
      refine j3 hb15 ?_
      refine j3 hb15 ?_
      refine j3 hb15 ?_
      refine j3 hb15 ?_
      refine j3 hb15 ?_
      refine j3 hb14 ?_
      refine j3 hb15 ?_
      refine j3 hb14 ?_
      refine A10 _ _ ?_
      exact jn ⟨_,sj h12⟩ []
     refine d9 hb15 ?_
     refine d9 hb15 ?_
     refine d9 hb15 ?_
     refine d9 hb15 ?_
     refine d9 hb15 ?_
     refine d9 hb15 ?_
     refine u7 (fun _=>?_)
     refine d9 hb15 ?_
     refine j3 hb14 ?_
     refine d9 hb15 ?_
     refine j3 hb14 ?_
     refine l5 h12 (fun hb17 h12=>?_) (fun hb17 h12=>?_)
     ·refine j3 hb17 ?_
      refine j3 hb17 ?_
      refine j3 hb17 ?_
      refine j3 hb17 ?_
      refine j3 hb17 ?_
      refine j3 hb17 ?_
      refine j3 hb17 ?_
      refine j3 hb17 ?_
      refine j3 hb17 ?_
      refine j3 hb17 ?_
      refine A10 _ _ ?_
      exact jn ⟨_,sj h12⟩ []
     refine d9 hb17 ?_
     refine d9 hb17 ?_
     refine u7 (fun _=>?_)
     refine d9 hb17 ?_
     refine d9 hb17 ?_
     refine d9 hb17 ?_
     refine d9 hb17 ?_
     refine d9 hb17 ?_
     refine d9 hb17 ?_
     obtain ⟨r19,hr20,h12⟩:=j5 h12
     show l6 Tryz.prog _ _ _ _
     refine cA (aK5 N a0 x8.cls r19 hr20) ?_
     refine d9 hb17 ?_
     refine d9 hb17 ?_
     refine A10 _ _ ?_
     exact jn ⟨_,sj h12⟩ []
    refine d9 hb14 ?_
    refine d9 hb14 ?_
    refine d9 hb14 ?_
    refine d9 hb14 ?_
    refine d9 hb14 ?_
    refine u7 (fun _=>?_)
    obtain ⟨r22,hr23,h12⟩:=j5 h12
    show l6 Tryz.prog _ _ _ _
    refine cA (aK5 N a0 x8.cls r22 hr23) ?_
    refine A10 _ _ ?_
    exact jn ⟨_,sj h12⟩ []
   rintro ⟨v11,hv_⟩
   replace hv_:=hv_.symm
   subst hv_
   refine A9 _ _ ?_
   refine l7 hn ?_
   refine l5 h4 (fun hb24 h4=>?_) (fun hb24 h4=>?_)
   ·refine j6 hn ?_
    refine got hn ?_
    refine R8 _ _ ?_
    refine R7 _ _ ?_
    refine R6 _ _ ?_
    refine R3 _ _ ?_
    refine R2 _ _ ?_
    refine R1 _ _ ?_
    refine R0 _ _ ?_
    obtain rfl:=Option.some.inj h4
    obtain rfl:=Option.some.inj h
    exact ⟨[],_,fm⟩
   refine l9 hn ?_
   refine A8 _ _ ?_
   refine j6 hn ?_
   refine u7 (fun hl25=>?_)
   obtain ⟨o27,h28,h4⟩:=j5 h4
   refine jk (ι:={ s // o27=C9.next s }) hn (fun s=>[]) (fun s=>[]) [(0,_),(11,_),(12,_),(13,_)] [] (fun _ A11 _ R11=>?_) ?_
   ·refine j4.blkQ fun _ _ E12 _ R12=>?_
    refine lq (ι:={ q:((List V)×Nat) // q.1=x8.slots.drop q.2∧aD5 N a0 q.1 q.2=some o27 }) hn (fun q=>[(50,.int (q.1.2:Int))]) (fun q=>[]) (fun q=>q.1.1.length) [(0,_),(11,_),(12,_),(13,_),(48,_),(49,_)] [] ⟨(x8.slots,0),rfl,h28⟩ [] ?_
    rintro ⟨⟨rest_,k26⟩,hd30,h28⟩ _ A13 X13 R13
    replace hd30:rest_=x8.slots.drop k26:=hd30
    rcases rest_ with _|⟨x32,rest29⟩
    ·have hlt34:=G6 hd30
     replace h28:=(aD5.eq_1 _ _ _).symm.trans h28
     refine j6 hn ?_
     refine j4.seqQ fun _ _ X14 _=>?_
     refine l7 hn ?_
     refine d9 hlt34 ?_
     refine H8 hn ?_
     refine X14 _ _ _ ?_
     refine X13 _ _ _ ?_
     refine E12 _ _ ?_
     refine A11 _ _ ?_
     exact jn ⟨_,sj h28⟩ []
    ·obtain ⟨hx33,hd2,hlt34⟩:=z8 hd30
     replace h28:=(aD5.eq_2 _ _ _ _ _).symm.trans h28
     refine j6 hn ?_
     refine j4.seqQ fun _ A15 _ _=>?_
     refine l7 hn ?_
     refine j3 hlt34 ?_
     refine l9 hn ?_
     refine A15 _ _ ?_
     refine j4.seqQ fun _ A16 _ R16=>?_
     refine j4.blkQ fun _ A17 _ _ R17=>?_
     refine j6 hn ?_
     refine U9 hx33 ?_
     refine j4.seqQ fun _ A18 _ _=>?_
     refine god hn (by kernel_rfl) ?_
     refine u7 (fun _=>?_)
     obtain ⟨r36,hr37,h28⟩:=j5 h28
     show l6 Tryz.prog _ _ _ _
     refine cA (bQ9 N x32 (a0.heap.length:Int) r36 hr37) ?_
     refine A18 _ _ ?_
     refine kp [(0,_),(7,_),(11,_),(12,_),(13,_),(48,_),(49,_),(50,_)] [] ?_
     refine j6 hn ?_
     refine l7 hn ?_
     refine l5 h28 (fun hb38 h28=>?_) (fun hb38 h28=>?_)
     ·refine j6 hn ?_
      refine got hn ?_
      refine R17 _ _ ?_
      refine R16 _ _ ?_
      refine R13 _ _ ?_
      refine R12 _ _ ?_
      refine R11 _ _ ?_
      refine R7 _ _ ?_
      refine R6 _ _ ?_
      refine R3 _ _ ?_
      refine R2 _ _ ?_
      refine R1 _ _ ?_
      refine R0 _ _ ?_
      obtain rfl:=Option.some.inj h28
      obtain rfl:=Option.some.inj h4
      obtain rfl:=Option.some.inj h
      exact ⟨[],_,fm⟩
     refine l9 hn ?_
     refine A17 _ _ ?_
     refine A16 _ _ ?_
     refine p9 hn ?_
     refine Or.inl (And.intro (U0 hx33 hl25) ?_)
     refine A13 _ _ ?_
     exact jn ⟨(rest29,k26+1),hd2,h28⟩ [] (by show rest29.length < rest29.length+1; omega)
   rintro ⟨⟨⟩,rfl⟩
   refine A7 _ _ ?_
   refine A6 _ _ ?_
   refine p9 hn ?_
   refine Or.inl (And.intro (U0 hx9 hl1) ?_)
   refine A3 _ _ ?_
   exact jn ⟨(rest5,k2+1),hd2,h4⟩ [] (by show rest5.length < rest5.length+1; omega)
 rintro ⟨⟨⟩,rfl⟩
 refine A0 _ _ ?_
 refine j6 hn ?_
 refine got hn ?_
 obtain rfl:=Option.some.inj h
 exact ⟨[],_,fm⟩

/- wire.Right -/
set_option maxRecDepth 100000 in
set_option maxHeartbeats 8000000 in
theorem bC4 (N:Nat) (a0:Wd) (r:Int) (h:aH5 N a0=some r):Spec Tryz.prog 20 [] [.agg (eWd a0)] (.int r) [] []:=by
 refine Spec.of F3 Tryz.func20 rfl Tryz.ntmps20 (by kernel_rfl) rfl rfl rfl fun Γ hn=>?_
 unfold aH5 at h
 refine j6 hn ?_
 refine j6 hn ?_
 obtain ⟨r1,hr2,h⟩:=j5 h
 show l6 Tryz.prog _ _ _ _
 refine cA (b58 N  r1 hr2) ?_
 refine j4.seqQ fun _ A0 _ R0=>?_
 refine j4.seqQ fun _ A1 _ _=>?_
 obtain ⟨o5,h4,h⟩:=j5 h
 refine jk (ι:={ s // o5=s }) hn (fun s=>[(31,.bool s.1)]) (fun s=>[]) [(1,_),(3,_)] [(1,_),(3,_)] (fun _ A2 _ _=>?_) ?_
 ·refine p9 hn ?_
  refine u7 (fun _=>?_)
  refine u7 (fun _=>?_)
  refine l5 h4 (fun hb8 h4=>?_) (fun hb8 h4=>?_)
  ·refine j3 hb8 ?_
   refine j3 hb8 ?_
   refine j3 hb8 ?_
   refine j3 hb8 ?_
   refine A2 _ _ ?_
   exact jn ⟨_,sj h4⟩ []
  refine d9 hb8 ?_
  refine d9 hb8 ?_
  refine u7 (fun _=>?_)
  refine d9 hb8 ?_
  refine d9 hb8 ?_
  refine l5 h4 (fun hb10 h4=>?_) (fun hb10 h4=>?_)
  ·refine j3 hb10 ?_
   refine j3 hb10 ?_
   refine j3 hb10 ?_
   refine j3 hb10 ?_
   refine A2 _ _ ?_
   exact jn ⟨_,sj h4⟩ []
  refine d9 hb10 ?_
  refine d9 hb10 ?_
  refine u7 (fun _=>?_)
  refine d9 hb10 ?_
  refine d9 hb10 ?_
  refine A2 _ _ ?_
  exact jn ⟨_,sj h4⟩ []
 rintro ⟨v3,hv_⟩
 replace hv_:=hv_.symm
 subst hv_
 refine A1 _ _ ?_
 refine l7 hn ?_
 refine l5 h (fun hb12 h=>?_) (fun hb12 h=>?_)
 ·refine j6 hn ?_
  refine got hn ?_
  refine R0 _ _ ?_
  obtain rfl:=Option.some.inj h
  exact ⟨[],_,fm⟩
 refine l9 hn ?_
 refine A0 _ _ ?_
 refine j4.seqQ fun _ A3 _ R3=>?_
 refine j4.seqQ fun _ A4 _ _=>?_
 obtain ⟨o15,h14,h⟩:=j5 h
 refine jk (ι:={ s // o15=s }) hn (fun s=>[(39,.bool s.1)]) (fun s=>[]) [(1,_),(3,_)] [(1,_),(3,_)] (fun _ A5 _ _=>?_) ?_
 ·refine p9 hn ?_
  refine l5 h14 (fun hb16 h14=>?_) (fun hb16 h14=>?_)
  ·refine j3 hb16 ?_
   refine j3 hb16 ?_
   refine j3 hb16 ?_
   refine A5 _ _ ?_
   exact jn ⟨_,sj h14⟩ []
  refine d9 hb16 ?_
  refine d9 hb16 ?_
  refine d9 hb16 ?_
  refine A5 _ _ ?_
  exact jn ⟨_,sj h14⟩ []
 rintro ⟨v13,hv_⟩
 replace hv_:=hv_.symm
 subst hv_
 refine A4 _ _ ?_
 refine l7 hn ?_
 refine l5 h (fun hb17 h=>?_) (fun hb17 h=>?_)
 ·refine j6 hn ?_
  refine got hn ?_
  refine R3 _ _ ?_
  obtain rfl:=Option.some.inj h
  exact ⟨[],_,fm⟩
 refine l9 hn ?_
 refine A3 _ _ ?_
 refine j6 hn ?_
 refine j4.seqQ fun _ A6 _ R6=>?_
 refine j6 hn ?_
 refine u7 (fun hl18=>?_)
 obtain ⟨o22,h23,h⟩:=j5 h
 refine jk (ι:={ s // o22=C9.next s }) hn (fun s=>[]) (fun s=>[]) [(1,_),(3,_)] [(1,_),(3,_)] (fun _ A7 _ R7=>?_) ?_
 ·refine j4.blkQ fun _ _ E8 _ R8=>?_
  refine lq (ι:={ q:((List Cl)×Nat×(List (ByteArray×Bool))) // q.1=a0.classes.drop q.2.1∧aC0 N r1 q.1 q.2.1 q.2.2=some o22 }) hn (fun q=>[(44,.int (q.1.2.1:Int))]) (fun q=>[(40,.mapo (List.map bD6 q.1.2.2))]) (fun q=>q.1.1.length) [(1,_),(3,_),(4,_),(42,_),(43,_)] [(1,_),(3,_)] ⟨(a0.classes,0,([]:(List (ByteArray×Bool)))),rfl,h23⟩ [] ?_
  rintro ⟨⟨rest_,k19,v20⟩,hd25,h23⟩ _ A9 X9 R9
  replace hd25:rest_=a0.classes.drop k19:=hd25
  rcases rest_ with _|⟨x27,rest24⟩
  ·have hlt29:=G6 hd25
   replace h23:=(aC0.eq_1 _ _ _ _).symm.trans h23
   refine j6 hn ?_
   refine j4.seqQ fun _ _ X10 _=>?_
   refine l7 hn ?_
   refine d9 hlt29 ?_
   refine H8 hn ?_
   refine X10 _ _ _ ?_
   refine X9 _ _ _ ?_
   refine E8 _ _ ?_
   refine A7 _ _ ?_
   exact jn ⟨_,sj h23⟩ []
  ·obtain ⟨hx28,hd2,hlt29⟩:=z8 hd25
   replace h23:=(aC0.eq_2 _ _ _ _ _ _).symm.trans h23
   refine j6 hn ?_
   refine j4.seqQ fun _ A11 _ _=>?_
   refine l7 hn ?_
   refine j3 hlt29 ?_
   refine l9 hn ?_
   refine A11 _ _ ?_
   refine j4.seqQ fun _ A12 _ R12=>?_
   refine j4.blkQ fun _ A13 _ _ R13=>?_
   refine j6 hn ?_
   refine U9 hx28 ?_
   refine j4.seqQ fun _ A14 _ R14=>?_
   refine j4.seqQ fun _ A15 _ _=>?_
   obtain ⟨o32,h31,h23⟩:=j5 h23
   refine jk (ι:={ s // o32=s }) hn (fun s=>[(76,.bool s.1)]) (fun s=>[]) [(1,_),(3,_),(4,_),(5,_),(6,_),(42,_),(43,_),(44,_)] [(1,_),(3,_),(6,_),(40,_)] (fun _ A16 _ _=>?_) ?_
   ·refine kp [(1,_),(3,_),(4,_),(5,_),(6,_),(42,_),(43,_),(44,_)] [(1,_),(3,_),(6,_),(40,_)] ?_
    refine god hn (by kernel_rfl) ?_
    obtain ⟨r33,hr34,h31⟩:=j5 h31
    show l6 Tryz.prog _ _ _ _
    refine cA (aT1 N x27.name r33 hr34) ?_
    refine l5 h31 (fun hb35 h31=>?_) (fun hb35 h31=>?_)
    ·refine j3 hb35 ?_
     refine j3 hb35 ?_
     refine j3 hb35 ?_
     refine j3 hb35 ?_
     refine A16 _ _ ?_
     exact jn ⟨_,sj h31⟩ []
    refine d9 hb35 ?_
    refine d9 hb35 ?_
    refine d9 hb35 ?_
    refine cY6 rfl rfl rfl rfl ?_
    refine d9 hb35 ?_
    refine l5 h31 (fun hb36 h31=>?_) (fun hb36 h31=>?_)
    ·refine j3 hb36 ?_
     refine j3 hb36 ?_
     refine j3 hb36 ?_
     refine j3 hb36 ?_
     refine j3 hb36 ?_
     refine j3 hb36 ?_
     refine j3 hb36 ?_
     refine A16 _ _ ?_
     exact jn ⟨_,sj h31⟩ []
    refine d9 hb36 ?_
    refine d9 hb36 ?_
    refine d9 hb36 ?_
    refine u7 (fun _=>?_)
    refine d9 hb36 ?_
    refine d9 hb36 ?_
    refine l5 h31 (fun hb38 h31=>?_) (fun hb38 h31=>?_)
    ·refine j3 hb38 ?_
     refine j3 hb38 ?_
     refine j3 hb38 ?_
     refine j3 hb38 ?_
     refine j3 hb38 ?_
     obtain ⟨x39,hx40,h31⟩:=j5 h31
     refine W9 hx40 ?_
     refine j3 hb38 ?_
     refine j3 hb38 ?_
     refine j3 hb38 ?_
     refine d9 hb36 ?_
     refine j3 hb38 ?_
     refine d9 hb36 ?_
     refine A16 _ _ ?_
     exact jn ⟨_,sj h31⟩ []
    refine d9 hb38 ?_
    refine d9 hb38 ?_
    refine d9 hb38 ?_
    refine d9 hb38 ?_
    refine d9 hb38 ?_
    refine d9 hb38 ?_
    refine d9 hb38 ?_
    refine d9 hb38 ?_
    refine d9 hb36 ?_
    refine d9 hb38 ?_
    refine d9 hb36 ?_
    refine A16 _ _ ?_
    exact jn ⟨_,sj h31⟩ []
   rintro ⟨v30,hv_⟩
   replace hv_:=hv_.symm
   subst hv_
   refine A15 _ _ ?_
   refine l7 hn ?_
   refine l5 h23 (fun hb41 h23=>?_) (fun hb41 h23=>?_)
   ·refine j6 hn ?_
    refine got hn ?_
    refine R14 _ _ ?_
    refine R13 _ _ ?_
    refine R12 _ _ ?_
    refine R9 _ _ ?_
    refine R8 _ _ ?_
    refine R7 _ _ ?_
    refine R6 _ _ ?_
    obtain rfl:=Option.some.inj h23
    obtain rfl:=Option.some.inj h
    exact ⟨[],_,fm⟩
   refine l9 hn ?_
   refine A14 _ _ ?_
   refine j6 hn ?_
   obtain ⟨hg42,h23⟩:=F6 h23
   refine cZ5 rfl rfl hg42 ?_
   refine j4.seqQ fun _ A17 _ _=>?_
   obtain ⟨o45,h44,h23⟩:=j5 h23
   refine jk (ι:={ s // o45=s }) hn (fun s=>[(138,.bool s.1)]) (fun s=>[]) [(1,_),(3,_),(4,_),(42,_),(43,_),(44,_)] [(1,_),(3,_),(40,_)] (fun _ A18 _ _=>?_) ?_
   ·refine kp [(1,_),(3,_),(4,_),(5,_),(6,_),(42,_),(43,_),(44,_)] [(1,_),(3,_),(6,_),(40,_)] ?_
    refine god hn (by kernel_rfl) ?_
    refine u7 (fun _=>?_)
    refine l5 h44 (fun hb47 h44=>?_) (fun hb47 h44=>?_)
    ·refine j3 hb47 ?_
     refine j3 hb47 ?_
     refine j3 hb47 ?_
     refine j3 hb47 ?_
     refine j3 hb47 ?_
     obtain ⟨x48,hx49,h44⟩:=j5 h44
     refine W9 hx49 ?_
     refine j3 hb47 ?_
     refine j3 hb47 ?_
     refine j3 hb47 ?_
     refine j3 hb47 ?_
     refine l5 h44 (fun hb50 h44=>?_) (fun hb50 h44=>?_)
     ·refine j3 hb50 ?_
      refine j3 hb50 ?_
      refine j3 hb47 ?_
      refine j3 hb50 ?_
      refine j3 hb47 ?_
      refine A18 _ _ ?_
      exact jn ⟨_,sj h44⟩ []
     refine d9 hb50 ?_
     refine d9 hb50 ?_
     refine j3 hb47 ?_
     refine d9 hb50 ?_
     refine j3 hb47 ?_
     refine l5 h44 (fun hb51 h44=>?_) (fun hb51 h44=>?_)
     ·refine j3 hb51 ?_
      refine j3 hb51 ?_
      refine j3 hb51 ?_
      refine j3 hb51 ?_
      refine j3 hb51 ?_
      refine j3 hb51 ?_
      refine j3 hb51 ?_
      refine A18 _ _ ?_
      exact jn ⟨_,sj h44⟩ []
     refine d9 hb51 ?_
     refine d9 hb51 ?_
     refine d9 hb51 ?_
     refine u7 (fun _=>?_)
     refine d9 hb51 ?_
     refine d9 hb51 ?_
     refine l5 h44 (fun hb53 h44=>?_) (fun hb53 h44=>?_)
     ·refine j3 hb53 ?_
      refine j3 hb53 ?_
      refine j3 hb53 ?_
      refine l5 h44 (fun hb54 h44=>?_) (fun hb54 h44=>?_)
      ·refine j3 hb54 ?_
       refine j3 hb54 ?_
       refine j3 hb54 ?_
       refine j3 hb53 ?_
       refine j3 hb54 ?_
       refine j3 hb53 ?_
       refine j3 hb53 ?_
       refine d9 hb51 ?_
       refine j3 hb53 ?_
       refine d9 hb51 ?_
       refine A18 _ _ ?_
       exact jn ⟨_,sj h44⟩ []
      refine d9 hb54 ?_
      refine d9 hb54 ?_
      refine d9 hb54 ?_
      refine j3 hb53 ?_
      refine d9 hb54 ?_
      refine j3 hb53 ?_
      refine l5 h44 (fun hb55 h44=>?_) (fun hb55 h44=>?_)
      ·refine j3 hb55 ?_
       refine j3 hb55 ?_
       refine j3 hb55 ?_
       refine j3 hb55 ?_
       refine j3 hb53 ?_
       refine j3 hb55 ?_
       refine d9 hb51 ?_
       refine j3 hb53 ?_
       refine d9 hb51 ?_
       refine A18 _ _ ?_
       exact jn ⟨_,sj h44⟩ []
      refine d9 hb55 ?_
      refine d9 hb55 ?_
      refine d9 hb55 ?_
      refine l5 h44 (fun hb56 h44=>?_) (fun hb56 h44=>?_)
      ·refine j3 hb56 ?_
       refine j3 hb56 ?_
       refine d9 hb55 ?_
       refine j3 hb56 ?_
       refine j3 hb53 ?_
       refine d9 hb55 ?_
       refine d9 hb51 ?_
       refine j3 hb53 ?_
       refine d9 hb51 ?_
       refine l5 h44 (fun hb57 h44=>?_) (fun hb57 h44=>?_)
       ·refine j3 hb57 ?_
        refine j3 hb57 ?_
        refine j3 hb57 ?_
        refine A18 _ _ ?_
        exact jn ⟨_,sj h44⟩ []
       refine d9 hb57 ?_
       refine d9 hb57 ?_
       refine d9 hb57 ?_
       refine l5 h44 (fun hb58 h44=>?_) (fun hb58 h44=>?_)
       ·refine j3 hb58 ?_
        refine j3 hb58 ?_
        refine j3 hb58 ?_
        refine A18 _ _ ?_
        exact jn ⟨_,sj h44⟩ []
       refine d9 hb58 ?_
       refine d9 hb58 ?_
       refine d9 hb58 ?_
       refine A18 _ _ ?_
       exact jn ⟨_,sj h44⟩ []
      refine d9 hb56 ?_
      refine d9 hb56 ?_
      refine d9 hb55 ?_
      refine d9 hb56 ?_
      refine j3 hb53 ?_
      refine d9 hb55 ?_
      refine d9 hb51 ?_
      refine j3 hb53 ?_
      refine d9 hb51 ?_
      refine l5 h44 (fun hb59 h44=>?_) (fun hb59 h44=>?_)
      ·refine j3 hb59 ?_
       refine j3 hb59 ?_
       refine j3 hb59 ?_
       refine A18 _ _ ?_
       exact jn ⟨_,sj h44⟩ []
      refine d9 hb59 ?_
      refine d9 hb59 ?_
      refine d9 hb59 ?_
      refine A18 _ _ ?_
      exact jn ⟨_,sj h44⟩ []
     refine d9 hb53 ?_
     refine d9 hb53 ?_
     refine d9 hb53 ?_
     refine d9 hb53 ?_
     refine d9 hb53 ?_
     refine d9 hb53 ?_
     refine d9 hb51 ?_
     refine d9 hb53 ?_
     refine d9 hb51 ?_
     refine l5 h44 (fun hb60 h44=>?_) (fun hb60 h44=>?_)
     ·refine j3 hb60 ?_
      refine j3 hb60 ?_
      refine j3 hb60 ?_
      refine A18 _ _ ?_
      exact jn ⟨_,sj h44⟩ []
     refine d9 hb60 ?_
     refine d9 hb60 ?_
     refine d9 hb60 ?_
     refine A18 _ _ ?_
     exact jn ⟨_,sj h44⟩ []
    refine d9 hb47 ?_
    refine d9 hb47 ?_
    refine d9 hb47 ?_
    refine d9 hb47 ?_
    refine d9 hb47 ?_
    refine d9 hb47 ?_
    refine d9 hb47 ?_
    refine d9 hb47 ?_
    refine d9 hb47 ?_
    refine d9 hb47 ?_
    refine d9 hb47 ?_
    refine u7 (fun _=>?_)
    refine l5 h44 (fun hb62 h44=>?_) (fun hb62 h44=>?_)
    ·refine j3 hb62 ?_
     refine j3 hb62 ?_
     refine j3 hb62 ?_
     refine l5 h44 (fun hb63 h44=>?_) (fun hb63 h44=>?_)
     ·refine j3 hb63 ?_
      refine j3 hb63 ?_
      refine j3 hb63 ?_
      refine j3 hb62 ?_
      refine j3 hb63 ?_
      refine j3 hb62 ?_
      refine j3 hb62 ?_
      refine j3 hb62 ?_
      refine A18 _ _ ?_
      exact jn ⟨_,sj h44⟩ []
     refine d9 hb63 ?_
     refine d9 hb63 ?_
     refine d9 hb63 ?_
     refine j3 hb62 ?_
     refine d9 hb63 ?_
     refine j3 hb62 ?_
     refine l5 h44 (fun hb64 h44=>?_) (fun hb64 h44=>?_)
     ·refine j3 hb64 ?_
      refine j3 hb64 ?_
      refine j3 hb64 ?_
      refine j3 hb64 ?_
      refine j3 hb62 ?_
      refine j3 hb64 ?_
      refine j3 hb62 ?_
      refine A18 _ _ ?_
      exact jn ⟨_,sj h44⟩ []
     refine d9 hb64 ?_
     refine d9 hb64 ?_
     refine d9 hb64 ?_
     refine l5 h44 (fun hb65 h44=>?_) (fun hb65 h44=>?_)
     ·refine j3 hb65 ?_
      refine j3 hb65 ?_
      refine d9 hb64 ?_
      refine j3 hb65 ?_
      refine j3 hb62 ?_
      refine d9 hb64 ?_
      refine j3 hb62 ?_
      refine l5 h44 (fun hb66 h44=>?_) (fun hb66 h44=>?_)
      ·refine j3 hb66 ?_
       refine j3 hb66 ?_
       refine j3 hb66 ?_
       refine A18 _ _ ?_
       exact jn ⟨_,sj h44⟩ []
      refine d9 hb66 ?_
      refine d9 hb66 ?_
      refine d9 hb66 ?_
      refine l5 h44 (fun hb67 h44=>?_) (fun hb67 h44=>?_)
      ·refine j3 hb67 ?_
       refine j3 hb67 ?_
       refine j3 hb67 ?_
       refine A18 _ _ ?_
       exact jn ⟨_,sj h44⟩ []
      refine d9 hb67 ?_
      refine d9 hb67 ?_
      refine d9 hb67 ?_
      refine A18 _ _ ?_
      exact jn ⟨_,sj h44⟩ []
     refine d9 hb65 ?_
     refine d9 hb65 ?_
     refine d9 hb64 ?_
     refine d9 hb65 ?_
     refine j3 hb62 ?_
     refine d9 hb64 ?_
     refine j3 hb62 ?_
     refine l5 h44 (fun hb68 h44=>?_) (fun hb68 h44=>?_)
     ·refine j3 hb68 ?_
      refine j3 hb68 ?_
      refine j3 hb68 ?_
      refine A18 _ _ ?_
      exact jn ⟨_,sj h44⟩ []
     refine d9 hb68 ?_
     refine d9 hb68 ?_
     refine d9 hb68 ?_
     refine A18 _ _ ?_
     exact jn ⟨_,sj h44⟩ []
    refine d9 hb62 ?_
    refine d9 hb62 ?_
    refine d9 hb62 ?_
    refine d9 hb62 ?_
    refine d9 hb62 ?_
    refine d9 hb62 ?_
    refine d9 hb62 ?_
    refine l5 h44 (fun hb69 h44=>?_) (fun hb69 h44=>?_)
    ·refine j3 hb69 ?_
     refine j3 hb69 ?_
     refine j3 hb69 ?_
     refine A18 _ _ ?_
     exact jn ⟨_,sj h44⟩ []
    refine d9 hb69 ?_
    refine d9 hb69 ?_
    refine d9 hb69 ?_
    refine A18 _ _ ?_
    exact jn ⟨_,sj h44⟩ []
   rintro ⟨v43,hv_⟩
   replace hv_:=hv_.symm
   subst hv_
   refine A17 _ _ ?_
   refine l7 hn ?_
   refine l5 h23 (fun hb70 h23=>?_) (fun hb70 h23=>?_)
   ·refine j6 hn ?_
    refine got hn ?_
    refine R13 _ _ ?_
    refine R12 _ _ ?_
    refine R9 _ _ ?_
    refine R8 _ _ ?_
    refine R7 _ _ ?_
    refine R6 _ _ ?_
    obtain rfl:=Option.some.inj h23
    obtain rfl:=Option.some.inj h
    exact ⟨[],_,fm⟩
   refine l9 hn ?_
   refine A13 _ _ ?_
   refine A12 _ _ ?_
   refine p9 hn ?_
   refine Or.inl (And.intro (U0 hx28 hl18) ?_)
   refine A9 _ _ ?_
   exact jn ⟨(rest24,k19+1,(aH1 x27.name true v20)),hd2,h23⟩ [] (by show rest24.length < rest24.length+1; omega)
 rintro ⟨⟨⟩,rfl⟩
 refine A6 _ _ ?_
 refine j4.seqQ fun _ A19 _ R19=>?_
 refine j6 hn ?_
 refine u7 (fun hl71=>?_)
 refine j4.gh (Gh.fzBox 3 3 rfl rfl rfl) (fun _=>?_)
 obtain ⟨o73,h74,h⟩:=j5 h
 refine jk (ι:={ s // o73=C9.next s }) hn (fun s=>[]) (fun s=>[]) [(1,_)] [(1,_)] (fun _ A20 _ R20=>?_) ?_
 ·refine j4.blkQ fun _ _ E21 _ R21=>?_
  refine lq (ι:={ q:((List Cl)×Nat) // q.1=a0.classes.drop q.2∧aC2 N a0 r1 q.1 q.2=some o73 }) hn (fun q=>[(143,.int (q.1.2:Int))]) (fun q=>[]) (fun q=>q.1.1.length) [(1,_),(3,_),(141,_),(142,_)] [(1,_)] ⟨(a0.classes,0),rfl,h74⟩ [] ?_
  rintro ⟨⟨rest_,k72⟩,hd76,h74⟩ _ A22 X22 R22
  replace hd76:rest_=a0.classes.drop k72:=hd76
  rcases rest_ with _|⟨x78,rest75⟩
  ·have hlt80:=G6 hd76
   replace h74:=(aC2.eq_1 _ _ _ _).symm.trans h74
   refine j6 hn ?_
   refine j4.seqQ fun _ _ X23 _=>?_
   refine l7 hn ?_
   refine d9 hlt80 ?_
   refine H8 hn ?_
   refine X23 _ _ _ ?_
   refine X22 _ _ _ ?_
   refine E21 _ _ ?_
   refine A20 _ _ ?_
   exact jn ⟨_,sj h74⟩ []
  ·obtain ⟨hx79,hd2,hlt80⟩:=z8 hd76
   replace h74:=(aC2.eq_2 _ _ _ _ _ _).symm.trans h74
   refine j6 hn ?_
   refine j4.seqQ fun _ A24 _ _=>?_
   refine l7 hn ?_
   refine j3 hlt80 ?_
   refine l9 hn ?_
   refine A24 _ _ ?_
   refine j4.seqQ fun _ A25 _ R25=>?_
   refine j4.blkQ fun _ A26 _ _ R26=>?_
   refine j6 hn ?_
   refine U9 hx79 ?_
   refine j4.seqQ fun _ A27 _ R27=>?_
   refine j6 hn ?_
   obtain ⟨r81,hr82,h74⟩:=j5 h74
   show l6 Tryz.prog _ _ _ _
   refine cA (aK5 N a0 (k72:Int) r81 hr82) ?_
   refine l7 hn ?_
   refine l5 h74 (fun hb83 h74=>?_) (fun hb83 h74=>?_)
   ·refine j6 hn ?_
    refine got hn ?_
    refine R27 _ _ ?_
    refine R26 _ _ ?_
    refine R25 _ _ ?_
    refine R22 _ _ ?_
    refine R21 _ _ ?_
    refine R20 _ _ ?_
    refine R19 _ _ ?_
    obtain rfl:=Option.some.inj h74
    obtain rfl:=Option.some.inj h
    exact ⟨[],_,fm⟩
   refine l9 hn ?_
   refine A27 _ _ ?_
   refine j4.seqQ fun _ A28 _ R28=>?_
   refine j6 hn ?_
   refine u7 (fun _=>?_)
   refine l7 hn ?_
   refine l5 h74 (fun hb85 h74=>?_) (fun hb85 h74=>?_)
   ·refine kp [] [] ?_
    refine j6 hn ?_
    refine got hn ?_
    refine R28 _ _ ?_
    refine R26 _ _ ?_
    refine R25 _ _ ?_
    refine R22 _ _ ?_
    refine R21 _ _ ?_
    refine R20 _ _ ?_
    refine R19 _ _ ?_
    obtain rfl:=Option.some.inj h74
    obtain rfl:=Option.some.inj h
    exact ⟨[],_,fm⟩
   refine l9 hn ?_
   refine A28 _ _ ?_
   refine kp [(1,_),(3,_),(7,_),(8,_),(141,_),(142,_),(143,_)] [(1,_),(8,_)] ?_
   refine j6 hn ?_
   refine u7 (fun hl86=>?_)
   obtain ⟨o88,h89,h74⟩:=j5 h74
   refine jk (ι:={ s // o88=C9.next s }) hn (fun s=>[]) (fun s=>[]) [(1,_),(3,_),(141,_),(142,_),(143,_)] [(1,_)] (fun _ A29 _ R29=>?_) ?_
   ·refine j4.blkQ fun _ _ E30 _ R30=>?_
    refine lq (ι:={ q:((List Me)×Nat) // q.1=x78.methods.drop q.2∧aC4 N a0 r1 k72 x78 q.1 q.2=some o88 }) hn (fun q=>[(159,.int (q.1.2:Int))]) (fun q=>[]) (fun q=>q.1.1.length) [(1,_),(3,_),(7,_),(8,_),(141,_),(142,_),(143,_),(157,_),(158,_)] [(1,_),(8,_)] ⟨(x78.methods,0),rfl,h89⟩ [] ?_
    rintro ⟨⟨rest_,k87⟩,hd91,h89⟩ _ A31 X31 R31
    replace hd91:rest_=x78.methods.drop k87:=hd91
    rcases rest_ with _|⟨x93,rest90⟩
    ·have hlt95:=G6 hd91
     replace h89:=(aC4.eq_1 _ _ _ _ _ _).symm.trans h89
     refine j6 hn ?_
     refine j4.seqQ fun _ _ X32 _=>?_
     refine l7 hn ?_
     refine d9 hlt95 ?_
     refine H8 hn ?_
     refine X32 _ _ _ ?_
     refine X31 _ _ _ ?_
     refine E30 _ _ ?_
     refine A29 _ _ ?_
     exact jn ⟨_,sj h89⟩ []
    ·obtain ⟨hx94,hd2,hlt95⟩:=z8 hd91
     replace h89:=(aC4.eq_2 _ _ _ _ _ _ _ _).symm.trans h89
     refine j6 hn ?_
     refine j4.seqQ fun _ A33 _ _=>?_
     refine l7 hn ?_
     refine j3 hlt95 ?_
     refine l9 hn ?_
     refine A33 _ _ ?_
     refine j4.seqQ fun _ A34 _ R34=>?_
     obtain ⟨o97,h96,h89⟩:=j5 h89
     refine jk (ι:={ s // o97=C9.next s }) hn (fun s=>[]) (fun s=>[]) [(1,_),(3,_),(7,_),(8,_),(141,_),(142,_),(143,_),(157,_),(158,_),(159,_)] [(1,_),(8,_)] (fun _ A35 _ R35=>?_) ?_
     ·refine j4.blkQ fun _ A36 E36 _ R36=>?_
      refine j6 hn ?_
      refine U9 hx94 ?_
      refine j4.seqQ fun _ A37 _ R37=>?_
      refine j4.seqQ fun _ A38 _ _=>?_
      obtain ⟨o100,h99,h96⟩:=j5 h96
      refine jk (ι:={ s // o100=s }) hn (fun s=>[(177,.bool s.1)]) (fun s=>[]) [(1,_),(3,_),(7,_),(8,_),(10,_),(141,_),(142,_),(143,_),(157,_),(158,_),(159,_)] [(1,_),(8,_),(10,_)] (fun _ A39 _ _=>?_) ?_
      ·refine god hn (by kernel_rfl) ?_
       refine l5 h99 (fun hb101 h99=>?_) (fun hb101 h99=>?_)
       ·refine j3 hb101 ?_
        refine j3 hb101 ?_
        refine j3 hb101 ?_
        refine Or.inr ?_
        refine j3 hb101 ?_
        obtain ⟨x102,hx103,h99⟩:=j5 h99
        refine W9 hx103 ?_
        refine j3 hb101 ?_
        refine j3 hb101 ?_
        refine j3 hb101 ?_
        refine j3 hb101 ?_
        refine j3 hb101 ?_
        refine j3 hb101 ?_
        refine A39 _ _ ?_
        exact jn ⟨_,sj h99⟩ []
       refine d9 hb101 ?_
       refine d9 hb101 ?_
       refine d9 hb101 ?_
       refine d9 hb101 ?_
       refine d9 hb101 ?_
       refine d9 hb101 ?_
       refine d9 hb101 ?_
       refine d9 hb101 ?_
       refine d9 hb101 ?_
       refine d9 hb101 ?_
       refine A39 _ _ ?_
       exact jn ⟨_,sj h99⟩ []
      rintro ⟨v98,hv_⟩
      replace hv_:=hv_.symm
      subst hv_
      refine A38 _ _ ?_
      refine l7 hn ?_
      refine l5 h96 (fun hb104 h96=>?_) (fun hb104 h96=>?_)
      ·refine j6 hn ?_
       refine got hn ?_
       refine R37 _ _ ?_
       refine R36 _ _ ?_
       refine R35 _ _ ?_
       refine R34 _ _ ?_
       refine R31 _ _ ?_
       refine R30 _ _ ?_
       refine R29 _ _ ?_
       refine R26 _ _ ?_
       refine R25 _ _ ?_
       refine R22 _ _ ?_
       refine R21 _ _ ?_
       refine R20 _ _ ?_
       refine R19 _ _ ?_
       obtain rfl:=Option.some.inj h96
       obtain rfl:=Option.some.inj h89
       obtain rfl:=Option.some.inj h74
       obtain rfl:=Option.some.inj h
       exact ⟨[],_,fm⟩
      refine l9 hn ?_
      refine A37 _ _ ?_
      refine j4.seqQ fun _ A40 X40 _=>?_
      refine j4.seqQ fun _ A41 _ _=>?_
      refine j4.gh (Gh.fzBox 10 10 rfl rfl rfl) (fun _=>?_)
      obtain ⟨o107,h106,h96⟩:=j5 h96
      refine jk (ι:={ s // o107=s }) hn (fun s=>[(187,.bool s.1)]) (fun s=>[]) [(1,_),(3,_),(7,_),(8,_),(10,_),(141,_),(142,_),(143,_),(157,_),(158,_),(159,_)] [(1,_),(8,_)] (fun _ A42 _ _=>?_) ?_
      ·refine p9 hn ?_
       refine l5 h106 (fun hb108 h106=>?_) (fun hb108 h106=>?_)
       ·refine j3 hb108 ?_
        refine j3 hb108 ?_
        refine l5 h106 (fun hb109 h106=>?_) (fun hb109 h106=>?_)
        ·obtain ⟨r110,hr111,h106⟩:=j5 h106
         show l6 Tryz.prog _ _ _ _
         refine cA (b09 N r1 x93 r110 hr111) ?_
         refine j3 hb109 ?_
         refine A42 _ _ ?_
         exact jn ⟨_,sj h106⟩ []
        refine d9 hb109 ?_
        refine A42 _ _ ?_
        exact jn ⟨_,sj h106⟩ []
       refine d9 hb108 ?_
       refine d9 hb108 ?_
       refine A42 _ _ ?_
       exact jn ⟨_,sj h106⟩ []
      rintro ⟨v105,hv_⟩
      replace hv_:=hv_.symm
      subst hv_
      refine A41 _ _ ?_
      refine l7 hn ?_
      refine l5 h96 (fun hb112 h96=>?_) (fun hb112 h96=>?_)
      ·refine H8 hn ?_
       refine X40 _ _ _ ?_
       refine E36 _ _ ?_
       refine A35 _ _ ?_
       exact jn ⟨_,sj h96⟩ []
      refine l9 hn ?_
      refine A40 _ _ ?_
      refine j6 hn ?_
      obtain ⟨r113,hr114,h96⟩:=j5 h96
      show l6 Tryz.prog _ _ _ _
      refine cA (bX3 N a0 (k72:Int) x93 r113 hr114) ?_
      refine kp [(1,_),(3,_),(7,_),(8,_),(11,_),(141,_),(142,_),(143,_),(157,_),(158,_),(159,_)] [(1,_),(8,_),(11,_)] ?_
      refine j6 hn ?_
      refine l7 hn ?_
      refine l5 h96 (fun hb115 h96=>?_) (fun hb115 h96=>?_)
      ·refine j6 hn ?_
       refine got hn ?_
       refine R36 _ _ ?_
       refine R35 _ _ ?_
       refine R34 _ _ ?_
       refine R31 _ _ ?_
       refine R30 _ _ ?_
       refine R29 _ _ ?_
       refine R26 _ _ ?_
       refine R25 _ _ ?_
       refine R22 _ _ ?_
       refine R21 _ _ ?_
       refine R20 _ _ ?_
       refine R19 _ _ ?_
       obtain rfl:=Option.some.inj h96
       obtain rfl:=Option.some.inj h89
       obtain rfl:=Option.some.inj h74
       obtain rfl:=Option.some.inj h
       exact ⟨[],_,fm⟩
      refine l9 hn ?_
      refine A36 _ _ ?_
      refine A35 _ _ ?_
      exact jn ⟨_,sj h96⟩ []
     rintro ⟨⟨⟩,rfl⟩
     refine A34 _ _ ?_
     refine p9 hn ?_
     refine Or.inl (And.intro (U0 hx94 hl86) ?_)
     refine A31 _ _ ?_
     exact jn ⟨(rest90,k87+1),hd2,h89⟩ [] (by show rest90.length < rest90.length+1; omega)
   rintro ⟨⟨⟩,rfl⟩
   refine A26 _ _ ?_
   refine A25 _ _ ?_
   refine p9 hn ?_
   refine Or.inl (And.intro (U0 hx79 hl71) ?_)
   refine A22 _ _ ?_
   exact jn ⟨(rest75,k72+1),hd2,h74⟩ [] (by show rest75.length < rest75.length+1; omega)
 rintro ⟨⟨⟩,rfl⟩
 refine A19 _ _ ?_
 refine j4.gh (Gh.fzBox 1 1 rfl rfl rfl) (fun _=>?_)
 refine kp [(1,_)] [] ?_
 refine j6 hn ?_
 obtain ⟨r116,hr117,h⟩:=j5 h
 show l6 Tryz.prog _ _ _ _
 refine cA (b65 N a0 r116 hr117) ?_
 refine got hn ?_
 obtain rfl:=Option.some.inj h
 exact ⟨[],_,fm⟩

/- wire.Parse -/
set_option maxRecDepth 100000 in
set_option maxHeartbeats 8000000 in
theorem bY9 (N:Nat) (a0:(List Int)) (r:(Wd×Int)) (h:aN8 N a0=some r):Spec Tryz.prog 24 [(2000,GL)] [.sl 1 (List.map (eIk .u8) a0)] (.tup [.agg (eWd r.1),.int r.2]) [(2000,GL)] []:=by
 refine Spec.of F3 Tryz.func24 rfl Tryz.ntmps24 (by kernel_rfl) rfl rfl rfl fun Γ hn=>?_
 unfold aN8 at h
 refine j6 hn ?_
 refine j6 hn ?_
 refine Exists.intro a0 (And.intro rfl ?_)
 refine j6 hn ?_
 obtain ⟨r1,hr2,h⟩:=j5 h
 show l6 Tryz.prog _ _ _ _
 refine cA ((bA7 N (⟨(strOfNums a0),true⟩:p8) r1 hr2).sw 1000 10) ?_
 refine j4.seqQ fun _ A0 _ R0=>?_
 refine j4.seqQ fun _ A1 _ _=>?_
 obtain ⟨o5,h4,h⟩:=j5 h
 refine jk (ι:={ s // o5=s }) hn (fun s=>[(24,.bool s.1)]) (fun s=>[]) [(2,_),(5,_)] [(2,_),(5,_),(2000,_)] (fun _ A2 _ _=>?_) ?_
 ·refine p9 hn ?_
  refine l5 h4 (fun hb6 h4=>?_) (fun hb6 h4=>?_)
  ·refine j3 hb6 ?_
   refine j3 hb6 ?_
   refine j3 hb6 ?_
   refine j3 hb6 ?_
   refine j3 hb6 ?_
   refine A2 _ _ ?_
   exact jn ⟨_,sj h4⟩ []
  refine d9 hb6 ?_
  refine d9 hb6 ?_
  refine d9 hb6 ?_
  refine d9 hb6 ?_
  refine d9 hb6 ?_
  refine A2 _ _ ?_
  exact jn ⟨_,sj h4⟩ []
 rintro ⟨v3,hv_⟩
 replace hv_:=hv_.symm
 subst hv_
 refine A1 _ _ ?_
 refine l7 hn ?_
 refine l5 h (fun hb7 h=>?_) (fun hb7 h=>?_)
 ·refine j6 hn ?_
  refine got hn ?_
  refine R0 _ _ ?_
  obtain rfl:=Option.some.inj h
  exact ⟨[],_,fm⟩
 refine l9 hn ?_
 refine A0 _ _ ?_
 refine j4.seqQ fun _ A3 _ R3=>?_
 refine j6 hn ?_
 obtain ⟨r8,hr9,h⟩:=j5 h
 show l6 Tryz.prog _ _ _ _
 refine cA (bC4 N r1.1 r8 hr9) ?_
 refine j6 hn ?_
 refine l7 hn ?_
 refine l5 h (fun hb10 h=>?_) (fun hb10 h=>?_)
 ·refine j6 hn ?_
  refine got hn ?_
  refine R3 _ _ ?_
  obtain rfl:=Option.some.inj h
  exact ⟨[],_,fm⟩
 refine l9 hn ?_
 refine A3 _ _ ?_
 refine j6 hn ?_
 refine got hn ?_
 obtain rfl:=Option.some.inj h
 exact ⟨[],_,fm⟩
end Go.Proofs.YtibjcppjfkamhaaGreatDoor
