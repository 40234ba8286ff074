/- Walks after the mirrors. Printed by mir.py. -/
import Derived.Test.YtahmeibkdhbngaaWk1
namespace Go.Proofs.Ytahmeibkdhbngaa
open Go.RowKit
set_option linter.unusedVariables false
/- tally.Own -/
set_option maxRecDepth 100000 in
set_option maxHeartbeats 8000000 in
theorem cG0 (N:Nat) (a0:(List Tl)) (r:(List Tl)) (h:aX7 N a0=some r):Spec Try.prog 46 [] [.sl 4 (List.map eTl a0)] (.own 0) [(0,.row 4 (List.map eTl r) 113)] [0]:=by
 refine Spec.of z8 Try.func46 rfl Try.ntmps46 (by kernel_rfl) rfl rfl rfl fun Γ hn=>?_
 unfold aX7 at h
 refine j6 hn ?_
 refine j6 hn ?_
 refine j5.seqQ fun _ A0 _ _=>?_
 refine j6 hn ?_
 refine D5 (fun hl1=>?_)
 refine j5.nilrow 3 203 4 113 rfl rfl rfl ?_
 obtain ⟨o6,h7,h⟩:=j4 h
 refine jk (ι:={ s // o6=s }) hn (fun s=>[]) (fun s=>[(203,.row 4 (List.map eTl s.1) 113)]) [(3,_)] [] (fun _ A1 _ _=>?_) ?_
 ·refine j5.blkQ fun _ _ E2 _ _=>?_
  refine lq (ι:={ q:((List Tl)×Nat×(List Tl)) // q.1=a0.drop q.2.1∧aB3 N q.1 q.2.1 q.2.2=some o6 }) hn (fun q=>[(8,.int (q.1.2.1:Int))]) (fun q=>[(203,.row 4 (List.map eTl q.1.2.2) 113)]) (fun q=>q.1.1.length) [(3,_),(6,_),(7,_)] [] ⟨(a0,0,([]:List Tl)),rfl,h7⟩ [] ?_
  rintro ⟨⟨rest_,k2,v3⟩,hd9,h7⟩ _ A3 X3 _
  replace hd9:rest_=a0.drop k2:=hd9
  rcases rest_ with _|⟨x11,rest8⟩
  ·have hlt13:=N9 hd9
   replace h7:=(aB3.eq_1 _ _ _).symm.trans h7
   refine j6 hn ?_
   refine j5.seqQ fun _ _ X4 _=>?_
   refine p8 hn ?_
   refine d9 hlt13 ?_
   refine F6 hn ?_
   refine X4 _ _ _ ?_
   refine X3 _ _ _ ?_
   refine E2 _ _ ?_
   refine A1 _ _ ?_
   exact jn ⟨_,sj h7⟩ []
  ·obtain ⟨hx12,hd2,hlt13⟩:=H9 hd9
   replace h7:=(aB3.eq_2 _ _ _ _ _).symm.trans h7
   refine j6 hn ?_
   refine j5.seqQ fun _ A5 _ _=>?_
   refine p8 hn ?_
   refine j3 hlt13 ?_
   refine p9 hn ?_
   refine A5 _ _ ?_
   refine j5.seqQ fun _ A6 _ _=>?_
   refine j5.blkQ fun _ A7 _ _ _=>?_
   refine j6 hn ?_
   refine aJ1 hx12 ?_
   refine j6 hn ?_
   obtain ⟨r14,hr15,h7⟩:=j4 h7
   show l8 Try.prog _ _ _ _
   refine cA ((aH3 N x11.classes r14 hr15).sw 0 14) ?_
   refine q8 hn ?_
   refine Exists.intro (List.map eTl [(⟨x11.site,r14⟩:Tl)]) (And.intro (by repeat (first|exact trivial|exact rfl|(refine And.intro ?_ ?_))) ?_)
   obtain ⟨hg16,h7⟩:=G5 h7
   refine aJ7 (l2:=[(⟨x11.site,r14⟩:Tl)]) hg16 (D8 _) ?_
   refine A7 _ _ ?_
   refine A6 _ _ ?_
   refine q8 hn ?_
   refine Or.inl (And.intro (aE3 hx12 hl1) ?_)
   refine A3 _ _ ?_
   exact jn ⟨(rest8,k2+1,(v3++[(⟨x11.site,r14⟩:Tl)])),hd2,h7⟩ [(203,19)] (by show rest8.length < rest8.length+1; omega)
 rintro ⟨v5,hv_⟩
 replace hv_:=hv_.symm
 subst hv_
 refine A0 _ _ ?_
 refine j6 hn ?_
 refine got hn ?_
 obtain rfl:=Option.some.inj h
 exact ⟨[(0,203)],_,fm⟩

/- class.Name -/
set_option maxRecDepth 100000 in
set_option maxHeartbeats 8000000 in
theorem b77 (N:Nat) (a0:ByteArray) (r:Bool) (h:aT9 N a0=some r):Spec Try.prog 26 [] [.str a0] (.bool r) [] []:=by
 refine Spec.of z8 Try.func26 rfl Try.ntmps26 (by kernel_rfl) rfl rfl rfl fun Γ hn=>?_
 unfold aT9 at h
 refine j6 hn ?_
 refine j5.seqQ fun _ A0 _ R0=>?_
 refine j5.seqQ fun _ A1 _ _=>?_
 obtain ⟨o3,h2,h⟩:=j4 h
 refine jk (ι:={ s // o3=s }) hn (fun s=>[(11,.bool s.1)]) (fun s=>[]) [(0,_)] [] (fun _ A2 _ _=>?_) ?_
 ·refine q8 hn ?_
  intro _
  refine l5 h2 (fun hb5 h2=>?_) (fun hb5 h2=>?_)
  ·refine j3 hb5 ?_
   refine j3 hb5 ?_
   refine j3 hb5 ?_
   refine A2 _ _ ?_
   exact jn ⟨_,sj h2⟩ []
  refine d9 hb5 ?_
  intro _
  refine d9 hb5 ?_
  refine d9 hb5 ?_
  refine A2 _ _ ?_
  exact jn ⟨_,sj h2⟩ []
 rintro ⟨v1,hv_⟩
 replace hv_:=hv_.symm
 subst hv_
 refine A1 _ _ ?_
 refine p8 hn ?_
 refine l5 h (fun hb7 h=>?_) (fun hb7 h=>?_)
 ·refine j6 hn ?_
  refine got hn ?_
  refine R0 _ _ ?_
  obtain rfl:=Option.some.inj h
  exact ⟨[],_,fm⟩
 refine p9 hn ?_
 refine A0 _ _ ?_
 refine j5.seqQ fun _ A3 _ R3=>?_
 refine j6 hn ?_
 intro _
 refine j5.rng 13 rfl (fun hrn=>?_)
 obtain ⟨o10,h11,h⟩:=j4 h
 refine jk (ι:={ s // o10=D9.next s }) hn (fun s=>[]) (fun s=>[]) [] [] (fun _ A4 _ R4=>?_) ?_
 ·refine j5.blkQ fun _ _ E5 _ R5=>?_
  refine lq (ι:={ q:(Nat×Nat) // q.1=((a0.size:Int) - (q.2:Int)).toNat∧aC5 N a0 q.1 q.2=some o10 }) hn (fun q=>[(14,.int (q.1.2:Int))]) (fun q=>[]) (fun q=>q.1.1) [(0,_),(13,_)] [] ⟨(((a0.size:Int) - ((0:Nat):Int)).toNat,0),rfl,h11⟩ [] ?_
  rintro ⟨⟨n_,k9⟩,hd13,h11⟩ _ A6 X6 R6
  replace hd13:n_=((a0.size:Int) - (k9:Int)).toNat:=hd13
  rcases n_ with _|n14
  ·have hlt17:=cJ8 hd13
   replace h11:=(aC5.eq_1 _ _ _).symm.trans h11
   refine j6 hn ?_
   refine j5.seqQ fun _ _ X7 _=>?_
   refine p8 hn ?_
   refine d9 hlt17 ?_
   refine F6 hn ?_
   refine X7 _ _ _ ?_
   refine X6 _ _ _ ?_
   refine E5 _ _ ?_
   refine A4 _ _ ?_
   exact jn ⟨_,sj h11⟩ []
  ·obtain ⟨hd2,hlt17⟩:=cD8 hd13
   replace h11:=(aC5.eq_2 _ _ _ _).symm.trans h11
   refine j6 hn ?_
   refine j5.seqQ fun _ A8 _ _=>?_
   refine p8 hn ?_
   refine j3 hlt17 ?_
   refine p9 hn ?_
   refine A8 _ _ ?_
   refine j5.seqQ fun _ A9 _ R9=>?_
   refine j5.blkQ fun _ A10 _ _ R10=>?_
   refine j6 hn ?_
   refine j5.seqQ fun _ A11 _ _=>?_
   obtain ⟨o20,h19,h11⟩:=j4 h11
   refine jk (ι:={ s // o20=s }) hn (fun s=>[(26,.bool s.1)]) (fun s=>[]) [(0,_),(13,_),(14,_)] [] (fun _ A12 _ _=>?_) ?_
   ·refine q8 hn ?_
    obtain ⟨u21,hx22,h19⟩:=j4 h19
    refine byM hx22 ?_
    refine And.intro rfl ?_
    refine l5 h19 (fun hb23 h19=>?_) (fun hb23 h19=>?_)
    ·refine j3 hb23 ?_
     refine j3 hb23 ?_
     refine j3 hb23 ?_
     refine j3 hb23 ?_
     refine A12 _ _ ?_
     exact jn ⟨_,sj h19⟩ []
    refine d9 hb23 ?_
    refine d9 hb23 ?_
    obtain ⟨u24,hx25,h19⟩:=j4 h19
    refine byM hx25 ?_
    refine d9 hb23 ?_
    refine And.intro rfl ?_
    refine d9 hb23 ?_
    refine A12 _ _ ?_
    exact jn ⟨_,sj h19⟩ []
   rintro ⟨v18,hv_⟩
   replace hv_:=hv_.symm
   subst hv_
   refine A11 _ _ ?_
   refine p8 hn ?_
   refine l5 h11 (fun hb26 h11=>?_) (fun hb26 h11=>?_)
   ·refine j6 hn ?_
    refine got hn ?_
    refine R10 _ _ ?_
    refine R9 _ _ ?_
    refine R6 _ _ ?_
    refine R5 _ _ ?_
    refine R4 _ _ ?_
    refine R3 _ _ ?_
    obtain rfl:=Option.some.inj h11
    obtain rfl:=Option.some.inj h
    exact ⟨[],_,fm⟩
   refine p9 hn ?_
   refine A10 _ _ ?_
   refine A9 _ _ ?_
   refine q8 hn ?_
   refine Or.inl (And.intro (cU3 hlt17 hrn) ?_)
   refine A6 _ _ ?_
   exact jn ⟨(n14,k9+1),hd2,h11⟩ [] (by show n14 < n14+1; omega)
 rintro ⟨⟨⟩,rfl⟩
 refine A3 _ _ ?_
 refine j6 hn ?_
 refine got hn ?_
 obtain rfl:=Option.some.inj h
 exact ⟨[],_,fm⟩

/- value.Wrong -/
set_option maxRecDepth 100000 in
set_option maxHeartbeats 8000000 in
theorem b36 (N:Nat) (a0:V) (a1:Int) (r:Int) (h:aQ6 N a0 a1=some r):Spec Try.prog 97 [] [.agg (eV a0),.int a1] (.int r) [] []:=by
 refine Spec.of z8 Try.func97 rfl Try.ntmps97 (by kernel_rfl) rfl rfl rfl fun Γ hn=>?_
 unfold aQ6 at h
 refine j6 hn ?_
 refine j5.seqQ fun _ A0 _ R0=>?_
 refine j6 hn ?_
 obtain ⟨o2,h1,h⟩:=j4 h
 refine jk (ι:={ s // o2=D9.next s }) hn (fun s=>[]) (fun s=>[]) [] [] (fun _ A1 _ R1=>?_) ?_
 ·refine j5.blkQ fun _ A2 _ _ R2=>?_
  refine j5.seqQ fun _ A3 _ _=>?_
  refine j6 hn ?_
  obtain ⟨o5,h4,h1⟩:=j4 h1
  refine jk (ι:={ s // o5=s }) hn (fun s=>[(7,.bool s.1)]) (fun s=>[]) [(1,_),(2,_),(6,_)] [(2,_)] (fun _ A4 _ _=>?_) ?_
  ·refine p8 hn ?_
   refine l5 h4 (fun hb6 h4=>?_) (fun hb6 h4=>?_)
   ·refine p9 hn ?_
    refine A4 _ _ ?_
    exact jn ⟨_,sj h4⟩ []
   refine j6 hn ?_
   obtain ⟨o9,h8,h4⟩:=j4 h4
   refine jk (ι:={ s // o9=s }) hn (fun s=>[(7,.bool s.1)]) (fun s=>[]) [(1,_),(2,_),(6,_)] [(2,_)] (fun _ A5 _ _=>?_) ?_
   ·refine p8 hn ?_
    refine l5 h8 (fun hb10 h8=>?_) (fun hb10 h8=>?_)
    ·refine p9 hn ?_
     refine A5 _ _ ?_
     exact jn ⟨_,sj h8⟩ []
    refine q8 hn ?_
    refine A5 _ _ ?_
    exact jn ⟨_,sj h8⟩ []
   rintro ⟨v7,hv_⟩
   replace hv_:=hv_.symm
   subst hv_
   refine A4 _ _ ?_
   exact jn ⟨_,sj h4⟩ []
  rintro ⟨v3,hv_⟩
  replace hv_:=hv_.symm
  subst hv_
  refine A3 _ _ ?_
  obtain ⟨o12,h11,h1⟩:=j4 h1
  refine jk (ι:={ s // o12=D9.next s }) hn (fun s=>[]) (fun s=>[]) [] [] (fun _ A6 _ R6=>?_) ?_
  ·refine p8 hn ?_
   refine l5 h11 (fun hb13 h11=>?_) (fun hb13 h11=>?_)
   ·refine j6 hn ?_
    refine p8 hn ?_
    refine l5 h11 (fun hb14 h11=>?_) (fun hb14 h11=>?_)
    ·refine j6 hn ?_
     refine got hn ?_
     refine R6 _ _ ?_
     refine R2 _ _ ?_
     refine R1 _ _ ?_
     refine R0 _ _ ?_
     obtain rfl:=Option.some.inj h11
     obtain rfl:=Option.some.inj h1
     obtain rfl:=Option.some.inj h
     exact ⟨[],_,fm⟩
    refine p9 hn ?_
    refine A6 _ _ ?_
    exact jn ⟨_,sj h11⟩ []
   refine j6 hn ?_
   obtain ⟨o16,h15,h11⟩:=j4 h11
   refine jk (ι:={ s // o16=D9.next s }) hn (fun s=>[]) (fun s=>[]) [] [] (fun _ A7 _ R7=>?_) ?_
   ·refine p8 hn ?_
    refine l5 h15 (fun hb17 h15=>?_) (fun hb17 h15=>?_)
    ·refine j5.seqQ fun _ A8 _ _=>?_
     obtain ⟨o20,h19,h15⟩:=j4 h15
     refine jk (ι:={ s // o20=s }) hn (fun s=>[(23,.bool s.1)]) (fun s=>[]) [] [] (fun _ A9 _ _=>?_) ?_
     ·refine q8 hn ?_
      refine l5 h19 (fun hb21 h19=>?_) (fun hb21 h19=>?_)
      ·refine j3 hb21 ?_
       refine j3 hb21 ?_
       refine j3 hb21 ?_
       refine A9 _ _ ?_
       exact jn ⟨_,sj h19⟩ []
      refine d9 hb21 ?_
      refine d9 hb21 ?_
      refine d9 hb21 ?_
      refine A9 _ _ ?_
      exact jn ⟨_,sj h19⟩ []
     rintro ⟨v18,hv_⟩
     replace hv_:=hv_.symm
     subst hv_
     refine A8 _ _ ?_
     refine p8 hn ?_
     refine l5 h15 (fun hb22 h15=>?_) (fun hb22 h15=>?_)
     ·refine j6 hn ?_
      refine got hn ?_
      refine R7 _ _ ?_
      refine R6 _ _ ?_
      refine R2 _ _ ?_
      refine R1 _ _ ?_
      refine R0 _ _ ?_
      obtain rfl:=Option.some.inj h15
      obtain rfl:=Option.some.inj h11
      obtain rfl:=Option.some.inj h1
      obtain rfl:=Option.some.inj h
      exact ⟨[],_,fm⟩
     refine p9 hn ?_
     refine A7 _ _ ?_
     exact jn ⟨_,sj h15⟩ []
    refine j6 hn ?_
    refine p8 hn ?_
    refine l5 h15 (fun hb23 h15=>?_) (fun hb23 h15=>?_)
    ·refine j5.seqQ fun _ A10 _ _=>?_
     obtain ⟨o26,h25,h15⟩:=j4 h15
     refine jk (ι:={ s // o26=s }) hn (fun s=>[(34,.bool s.1)]) (fun s=>[]) [] [] (fun _ A11 _ _=>?_) ?_
     ·refine q8 hn ?_
      refine l5 h25 (fun hb27 h25=>?_) (fun hb27 h25=>?_)
      ·refine j3 hb27 ?_
       refine j3 hb27 ?_
       refine j3 hb27 ?_
       refine j3 hb27 ?_
       refine A11 _ _ ?_
       exact jn ⟨_,sj h25⟩ []
      refine d9 hb27 ?_
      refine d9 hb27 ?_
      refine d9 hb27 ?_
      refine d9 hb27 ?_
      refine A11 _ _ ?_
      exact jn ⟨_,sj h25⟩ []
     rintro ⟨v24,hv_⟩
     replace hv_:=hv_.symm
     subst hv_
     refine A10 _ _ ?_
     refine p8 hn ?_
     refine l5 h15 (fun hb28 h15=>?_) (fun hb28 h15=>?_)
     ·refine j6 hn ?_
      refine got hn ?_
      refine R7 _ _ ?_
      refine R6 _ _ ?_
      refine R2 _ _ ?_
      refine R1 _ _ ?_
      refine R0 _ _ ?_
      obtain rfl:=Option.some.inj h15
      obtain rfl:=Option.some.inj h11
      obtain rfl:=Option.some.inj h1
      obtain rfl:=Option.some.inj h
      exact ⟨[],_,fm⟩
     refine p9 hn ?_
     refine A7 _ _ ?_
     exact jn ⟨_,sj h15⟩ []
    refine j6 hn ?_
    refine got hn ?_
    refine R7 _ _ ?_
    refine R6 _ _ ?_
    refine R2 _ _ ?_
    refine R1 _ _ ?_
    refine R0 _ _ ?_
    obtain rfl:=Option.some.inj h15
    obtain rfl:=Option.some.inj h11
    obtain rfl:=Option.some.inj h1
    obtain rfl:=Option.some.inj h
    exact ⟨[],_,fm⟩
   rintro ⟨⟨⟩,rfl⟩
   refine A6 _ _ ?_
   exact jn ⟨_,sj h11⟩ []
  rintro ⟨⟨⟩,rfl⟩
  refine A2 _ _ ?_
  refine A1 _ _ ?_
  exact jn ⟨_,sj h1⟩ []
 rintro ⟨⟨⟩,rfl⟩
 refine A0 _ _ ?_
 refine j6 hn ?_
 refine got hn ?_
 obtain rfl:=Option.some.inj h
 exact ⟨[],_,fm⟩

/- run.Wrong -/
set_option maxRecDepth 100000 in
set_option maxHeartbeats 8000000 in
theorem cG9 (N:Nat) (a0:Wd) (a1:O4) (a2:Int) (r:Int) (h:aY7 N a0 a1 a2=some r):Spec Try.prog 78 [] [.agg (eWd a0),.agg (bF3 a1),.int a2] (.int r) [] []:=by
 refine Spec.of z8 Try.func78 rfl Try.ntmps78 (by kernel_rfl) rfl rfl rfl fun Γ hn=>?_
 unfold aY7 at h
 refine j6 hn ?_
 refine j5.seqQ fun _ A0 _ R0=>?_
 refine j6 hn ?_
 obtain ⟨r1,hr2,h⟩:=j4 h
 show l8 Try.prog _ _ _ _
 refine cA (b77 N a1.name r1 hr2) ?_
 refine p8 hn ?_
 refine l5 h (fun hb3 h=>?_) (fun hb3 h=>?_)
 ·refine j6 hn ?_
  refine got hn ?_
  refine R0 _ _ ?_
  obtain rfl:=Option.some.inj h
  exact ⟨[],_,fm⟩
 refine p9 hn ?_
 refine A0 _ _ ?_
 refine j5.seqQ fun _ A1 _ R1=>?_
 refine j6 hn ?_
 refine D5 (fun _=>?_)
 refine p8 hn ?_
 refine l5 h (fun hb5 h=>?_) (fun hb5 h=>?_)
 ·refine j6 hn ?_
  refine got hn ?_
  refine R1 _ _ ?_
  obtain rfl:=Option.some.inj h
  exact ⟨[],_,fm⟩
 refine p9 hn ?_
 refine A1 _ _ ?_
 refine j5.seqQ fun _ A2 _ R2=>?_
 refine j5.seqQ fun _ A3 _ _=>?_
 obtain ⟨o8,h7,h⟩:=j4 h
 refine jk (ι:={ s // o8=s }) hn (fun s=>[(23,.bool s.1)]) (fun s=>[]) [(3,_),(4,_)] [(3,_),(4,_)] (fun _ A4 _ _=>?_) ?_
 ·refine q8 hn ?_
  refine l5 h7 (fun hb9 h7=>?_) (fun hb9 h7=>?_)
  ·refine j3 hb9 ?_
   refine j3 hb9 ?_
   refine A4 _ _ ?_
   exact jn ⟨_,sj h7⟩ []
  refine d9 hb9 ?_
  refine d9 hb9 ?_
  refine A4 _ _ ?_
  exact jn ⟨_,sj h7⟩ []
 rintro ⟨v6,hv_⟩
 replace hv_:=hv_.symm
 subst hv_
 refine A3 _ _ ?_
 refine p8 hn ?_
 refine l5 h (fun hb10 h=>?_) (fun hb10 h=>?_)
 ·refine j6 hn ?_
  refine got hn ?_
  refine R2 _ _ ?_
  obtain rfl:=Option.some.inj h
  exact ⟨[],_,fm⟩
 refine p9 hn ?_
 refine A2 _ _ ?_
 refine j5.seqQ fun _ A5 _ R5=>?_
 refine j6 hn ?_
 refine Exists.intro (List.map eV [a1.self_]) (And.intro (by repeat (first|exact trivial|exact rfl|(refine And.intro ?_ ?_))) ?_)
 obtain ⟨hg11,h⟩:=G5 h
 refine aJ7 (l2:=a1.args) hg11 (D8 _) ?_
 refine D5 (fun hl12=>?_)
 obtain ⟨o14,h15,h⟩:=j4 h
 refine jk (ι:={ s // o14=D9.next s }) hn (fun s=>[]) (fun s=>[]) [] [] (fun _ A6 _ R6=>?_) ?_
 ·refine j5.blkQ fun _ _ E7 _ R7=>?_
  refine lq (ι:={ q:((List V)×Nat) // q.1=([a1.self_]++a1.args).drop q.2∧aE5 N a0 a1 q.1 q.2=some o14 }) hn (fun q=>[(31,.int (q.1.2:Int))]) (fun q=>[]) (fun q=>q.1.1.length) [(3,_),(29,_),(30,_)] [(3,_),(29,_)] ⟨(([a1.self_]++a1.args),0),rfl,h15⟩ [] ?_
  rintro ⟨⟨rest_,k13⟩,hd17,h15⟩ _ A8 X8 R8
  replace hd17:rest_=([a1.self_]++a1.args).drop k13:=hd17
  rcases rest_ with _|⟨x19,rest16⟩
  ·have hlt21:=N9 hd17
   replace h15:=(aE5.eq_1 _ _ _ _).symm.trans h15
   refine j6 hn ?_
   refine j5.seqQ fun _ _ X9 _=>?_
   refine p8 hn ?_
   refine d9 hlt21 ?_
   refine F6 hn ?_
   refine X9 _ _ _ ?_
   refine X8 _ _ _ ?_
   refine E7 _ _ ?_
   refine A6 _ _ ?_
   exact jn ⟨_,sj h15⟩ []
  ·obtain ⟨hx20,hd2,hlt21⟩:=H9 hd17
   replace h15:=(aE5.eq_2 _ _ _ _ _ _).symm.trans h15
   refine j6 hn ?_
   refine j5.seqQ fun _ A10 _ _=>?_
   refine p8 hn ?_
   refine j3 hlt21 ?_
   refine p9 hn ?_
   refine A10 _ _ ?_
   refine j5.seqQ fun _ A11 _ R11=>?_
   refine j5.blkQ fun _ A12 _ _ R12=>?_
   refine j6 hn ?_
   obtain ⟨x22,hx23,h15⟩:=j4 h15
   refine aE6 hx23 ?_
   refine Y8 (C8 hx23).2 ?_
   refine j6 hn ?_
   refine D5 (fun _=>?_)
   obtain ⟨r25,hr26,h15⟩:=j4 h15
   show l8 Try.prog _ _ _ _
   refine cA (b36 N x22 (a0.heap.length:Int) r25 hr26) ?_
   refine j6 hn ?_
   refine p8 hn ?_
   refine l5 h15 (fun hb27 h15=>?_) (fun hb27 h15=>?_)
   ·refine j6 hn ?_
    refine got hn ?_
    refine R12 _ _ ?_
    refine R11 _ _ ?_
    refine R8 _ _ ?_
    refine R7 _ _ ?_
    refine R6 _ _ ?_
    refine R5 _ _ ?_
    obtain rfl:=Option.some.inj h15
    obtain rfl:=Option.some.inj h
    exact ⟨[],_,fm⟩
   refine p9 hn ?_
   refine A12 _ _ ?_
   refine A11 _ _ ?_
   refine q8 hn ?_
   refine Or.inl (And.intro (aE3 hx20 hl12) ?_)
   refine A8 _ _ ?_
   exact jn ⟨(rest16,k13+1),hd2,h15⟩ [] (by show rest16.length < rest16.length+1; omega)
 rintro ⟨⟨⟩,rfl⟩
 refine A5 _ _ ?_
 refine j6 hn ?_
 refine got hn ?_
 obtain rfl:=Option.some.inj h
 exact ⟨[],_,fm⟩

/- slices.Clone[[]api.Value,api.Value] -/
set_option maxRecDepth 100000 in
theorem aP9 (N:Nat) (l:List V) (r:List V) (h:aD9 N l=some r):Spec Try.prog 92 [] [.sl 2 (List.map eV l)] (.own 0) [(0,.row 2 (List.map eV r) 39)] [0]:=by
  obtain ⟨hf,h⟩:=G5 h
  obtain rfl:=Option.some.inj h
  refine Spec.of z8 Try.func92 rfl Try.ntmps92 (by kernel_rfl) rfl rfl rfl fun Γ hn=>?_
  refine j6 hn ?_
  refine j5.seq (j5.seq (j5.ops (goo hn 1 ?_)))
  refine OOk.gh (Gh.nil 3 rfl) ?_
  rintro ⟨b,hb⟩
  refine goo hn 1 (OOk.done ?_)
  (repeat (first|refine j6 hn ?_|refine q8 hn ?_|refine L8 hn ?_|refine p8 hn ?_|refine F6 hn ?_|refine p9 hn ?_|refine got hn ?_))
  refine bG1 (fun hb1=>?_) (fun hb1=>?_)
  · have e:l=[]:=by simpa using hb hb1
    subst e
    refine j6 hn ?_
    refine j5.nilrow 2 5 2 39 rfl rfl rfl ?_
    (repeat (first|refine j6 hn ?_|refine q8 hn ?_|refine L8 hn ?_|refine p8 hn ?_|refine F6 hn ?_|refine p9 hn ?_|refine got hn ?_))
    exact ⟨[(0,5)],_,rfl,rfl,⟨rfl,trivial⟩,rfl,rfl,rfl,rfl,rfl⟩
  · (repeat (first|refine j6 hn ?_|refine q8 hn ?_|refine L8 hn ?_|refine p8 hn ?_|refine F6 hn ?_|refine p9 hn ?_|refine got hn ?_))
    refine Exists.intro [] (And.intro trivial ?_)
    refine And.intro (by have:=Nat.le_of_ble_eq_true hf; simpa using this) ?_
    refine Exists.intro (List.map eV l) (And.intro (D8 _) ?_)
    (repeat (first|refine j6 hn ?_|refine q8 hn ?_|refine L8 hn ?_|refine p8 hn ?_|refine F6 hn ?_|refine p9 hn ?_|refine got hn ?_))
    exact ⟨[(0,7)],_,rfl,rfl,⟨rfl,trivial⟩,rfl,rfl,rfl,rfl,rfl⟩

/- value.Own -/
set_option maxRecDepth 100000 in
set_option maxHeartbeats 8000000 in
theorem bN2 (N:Nat) (a0:(List Ob)) (r:(List Ob)) (h:aS0 N a0=some r):Spec Try.prog 65 [] [.sl 2 (List.map L6 a0)] (.own 0) [(0,.deep 2 97 [(1,(2,39))] (List.map L6 r) [] 1),(1,.gone)] [0,1]:=by
 refine Spec.of z8 Try.func65 rfl Try.ntmps65 (by kernel_rfl) rfl rfl rfl fun Γ hn=>?_
 unfold aS0 at h
 refine j6 hn ?_
 refine j6 hn ?_
 refine j5.seqQ fun _ A0 _ _=>?_
 refine j6 hn ?_
 refine D5 (fun hl1=>?_)
 refine j5.nilrow 3 203 2 97 rfl rfl rfl ?_
 refine j5.gh (Gh.toDeep 203 501 [(1,(2,39))] rfl rfl rfl rfl) (fun _=>?_)
 obtain ⟨o6,h7,h⟩:=j4 h
 refine jk (ι:={ s // o6=s }) hn (fun s=>[]) (fun s=>[(203,.deep 2 97 [(1,(2,39))] (List.map L6 s.1) [] 501)]) [(3,_)] [(501,_)] (fun _ A1 _ _=>?_) ?_
 ·refine j5.blkQ fun _ _ E2 _ _=>?_
  refine lq (ι:={ q:((List Ob)×Nat×(List Ob)) // q.1=a0.drop q.2.1∧aB5 N q.1 q.2.1 q.2.2=some o6 }) hn (fun q=>[(8,.int (q.1.2.1:Int))]) (fun q=>[(203,.deep 2 97 [(1,(2,39))] (List.map L6 q.1.2.2) [] 501)]) (fun q=>q.1.1.length) [(3,_),(6,_),(7,_)] [(501,_)] ⟨(a0,0,([]:List Ob)),rfl,h7⟩ [] ?_
  rintro ⟨⟨rest_,k2,v3⟩,hd9,h7⟩ _ A3 X3 _
  replace hd9:rest_=a0.drop k2:=hd9
  rcases rest_ with _|⟨x11,rest8⟩
  ·have hlt13:=N9 hd9
   replace h7:=(aB5.eq_1 _ _ _).symm.trans h7
   refine j6 hn ?_
   refine j5.seqQ fun _ _ X4 _=>?_
   refine p8 hn ?_
   refine d9 hlt13 ?_
   refine F6 hn ?_
   refine X4 _ _ _ ?_
   refine X3 _ _ _ ?_
   refine E2 _ _ ?_
   refine A1 _ _ ?_
   exact jn ⟨_,sj h7⟩ []
  ·obtain ⟨hx12,hd2,hlt13⟩:=H9 hd9
   replace h7:=(aB5.eq_2 _ _ _ _ _).symm.trans h7
   refine j6 hn ?_
   refine j5.seqQ fun _ A5 _ _=>?_
   refine p8 hn ?_
   refine j3 hlt13 ?_
   refine p9 hn ?_
   refine A5 _ _ ?_
   refine j5.seqQ fun _ A6 _ _=>?_
   refine j5.blkQ fun _ A7 _ _ _=>?_
   refine j6 hn ?_
   refine aJ1 hx12 ?_
   refine j6 hn ?_
   obtain ⟨r14,hr15,h7⟩:=j4 h7
   show l8 Try.prog _ _ _ _
   refine cA ((aP9 N x11.slots r14 hr15).sw 0 14) ?_
   refine q8 hn ?_
   refine Or.inl ?_
   refine Exists.intro [(1,(2,39))] (Exists.intro (L6 (⟨x11.cls,r14⟩:Ob)) (Exists.intro [(14,.row 2 (List.map eV r14) 39)] (And.intro rfl (And.intro rfl (And.intro rfl (And.intro (by decide) (And.intro (by decide) (And.intro rfl (And.intro rfl ?_)))))))))
   obtain ⟨hg16,h7⟩:=G5 h7
   refine cV9 (l2:=[(⟨x11.cls,r14⟩:Ob)]) hg16 rfl rfl rfl rfl rfl (by decide) (by decide) ?_
   refine A7 _ _ ?_
   refine A6 _ _ ?_
   refine q8 hn ?_
   refine Or.inl (And.intro (aE3 hx12 hl1) ?_)
   refine A3 _ _ ?_
   exact jn ⟨(rest8,k2+1,(v3++[(⟨x11.cls,r14⟩:Ob)])),hd2,h7⟩ [(203,19),(501,719)] (by show rest8.length < rest8.length+1; omega)
 rintro ⟨v5,hv_⟩
 replace hv_:=hv_.symm
 subst hv_
 refine A0 _ _ ?_
 refine j6 hn ?_
 refine got hn ?_
 obtain rfl:=Option.some.inj h
 exact ⟨[(0,203),(1,501)],_,fm⟩

/- slices.Clone[[]api.Instr,api.Instr] -/
set_option maxRecDepth 100000 in
theorem bL5 (N:Nat) (l:List Ins) (r:List Ins) (h:aK6 N l=some r):Spec Try.prog 71 [] [.sl 5 (List.map aO2 l)] (.own 0) [(0,.row 5 (List.map aO2 r) 100)] [0]:=by
  obtain ⟨hf,h⟩:=G5 h
  obtain rfl:=Option.some.inj h
  refine Spec.of z8 Try.func71 rfl Try.ntmps71 (by kernel_rfl) rfl rfl rfl fun Γ hn=>?_
  refine j6 hn ?_
  refine j5.seq (j5.seq (j5.ops (goo hn 1 ?_)))
  refine OOk.gh (Gh.nil 3 rfl) ?_
  rintro ⟨b,hb⟩
  refine goo hn 1 (OOk.done ?_)
  (repeat (first|refine j6 hn ?_|refine q8 hn ?_|refine L8 hn ?_|refine p8 hn ?_|refine F6 hn ?_|refine p9 hn ?_|refine got hn ?_))
  refine bG1 (fun hb1=>?_) (fun hb1=>?_)
  · have e:l=[]:=by simpa using hb hb1
    subst e
    refine j6 hn ?_
    refine j5.nilrow 2 5 5 100 rfl rfl rfl ?_
    (repeat (first|refine j6 hn ?_|refine q8 hn ?_|refine L8 hn ?_|refine p8 hn ?_|refine F6 hn ?_|refine p9 hn ?_|refine got hn ?_))
    exact ⟨[(0,5)],_,rfl,rfl,⟨rfl,trivial⟩,rfl,rfl,rfl,rfl,rfl⟩
  · (repeat (first|refine j6 hn ?_|refine q8 hn ?_|refine L8 hn ?_|refine p8 hn ?_|refine F6 hn ?_|refine p9 hn ?_|refine got hn ?_))
    refine Exists.intro [] (And.intro trivial ?_)
    refine And.intro (by have:=Nat.le_of_ble_eq_true hf; simpa using this) ?_
    refine Exists.intro (List.map aO2 l) (And.intro (D8 _) ?_)
    (repeat (first|refine j6 hn ?_|refine q8 hn ?_|refine L8 hn ?_|refine p8 hn ?_|refine F6 hn ?_|refine p9 hn ?_|refine got hn ?_))
    exact ⟨[(0,7)],_,rfl,rfl,⟨rfl,trivial⟩,rfl,rfl,rfl,rfl,rfl⟩

/- class.Method -/
set_option maxRecDepth 100000 in
set_option maxHeartbeats 8000000 in
theorem bX4 (N:Nat) (a0:Me) (r:Me) (h:aM8 N a0=some r):Spec Try.prog 36 [] [.agg (eMe a0)] (.agg (eMe r)) [] []:=by
 refine Spec.of z8 Try.func36 rfl Try.ntmps36 (by kernel_rfl) rfl rfl rfl fun Γ hn=>?_
 unfold aM8 at h
 refine j6 hn ?_
 refine j6 hn ?_
 obtain ⟨r1,hr2,h⟩:=j4 h
 show l8 Try.prog _ _ _ _
 refine cA ((bL5 N a0.code r1 hr2).sw 0 5) ?_
 refine j6 hn ?_
 refine j5.fzAll 5 rfl ?_
 refine got hn ?_
 obtain rfl:=Option.some.inj h
 exact ⟨[],_,fm⟩

/- class.Own -/
set_option maxRecDepth 100000 in
set_option maxHeartbeats 8000000 in
theorem a95 (N:Nat) (a0:Wd) (r:Wd) (h:aJ2 N a0=some r):Spec Try.prog 25 [] [.agg (eWd a0)] (.agg [.sl 4 (List.map O8 r.classes),.own 0,.int r.epoch]) [(0,.deep 2 97 [(1,(2,39))] (List.map L6 r.heap) [] 1),(1,.gone)] [0,1]:=by
 refine Spec.of z8 Try.func25 rfl Try.ntmps25 (by kernel_rfl) rfl rfl rfl fun Γ hn=>?_
 unfold aJ2 at h
 refine j6 hn ?_
 refine j5.seqQ fun _ A0 _ _=>?_
 refine P5 hn (by kernel_rfl) ?_
 obtain ⟨r1,hr2,h⟩:=j4 h
 show l8 Try.prog _ _ _ _
 refine cA (((bN2 N a0.heap r1 hr2).sw 0 11).sw 1 711) ?_
 refine A0 _ _ ?_
 refine j5.seqQ fun _ A1 _ _=>?_
 refine j6 hn ?_
 refine D5 (fun hl3=>?_)
 refine j5.nilrowB 3 0 501 4 67 rfl rfl rfl rfl rfl rfl ?_
 obtain ⟨o8,h9,h⟩:=j4 h
 refine jk (ι:={ s // o8=s }) hn (fun s=>[]) (fun s=>[(501,.row 4 (List.map O8 s.1) 67)]) [(2,_),(3,_)] [(2,_),(3,_),(11,_),(711,_)] (fun _ A2 _ _=>?_) ?_
 ·refine j5.blkQ fun _ _ E3 _ _=>?_
  refine lq (ι:={ q:((List Cl)×Nat×(List Cl)) // q.1=a0.classes.drop q.2.1∧aB6 N q.1 q.2.1 q.2.2=some o8 }) hn (fun q=>[(18,.int (q.1.2.1:Int))]) (fun q=>[(501,.row 4 (List.map O8 q.1.2.2) 67)]) (fun q=>q.1.1.length) [(2,_),(3,_),(16,_),(17,_)] [(2,_),(3,_),(11,_),(711,_)] ⟨(a0.classes,0,([]:List Cl)),rfl,h9⟩ [] ?_
  rintro ⟨⟨rest_,k4,v5⟩,hd11,h9⟩ _ A4 X4 _
  replace hd11:rest_=a0.classes.drop k4:=hd11
  rcases rest_ with _|⟨x13,rest10⟩
  ·have hlt15:=N9 hd11
   replace h9:=(aB6.eq_1 _ _ _).symm.trans h9
   refine j6 hn ?_
   refine j5.seqQ fun _ _ X5 _=>?_
   refine p8 hn ?_
   refine d9 hlt15 ?_
   refine F6 hn ?_
   refine X5 _ _ _ ?_
   refine X4 _ _ _ ?_
   refine E3 _ _ ?_
   refine A2 _ _ ?_
   exact jn ⟨_,sj h9⟩ []
  ·obtain ⟨hx14,hd2,hlt15⟩:=H9 hd11
   replace h9:=(aB6.eq_2 _ _ _ _ _).symm.trans h9
   refine j6 hn ?_
   refine j5.seqQ fun _ A6 _ _=>?_
   refine p8 hn ?_
   refine j3 hlt15 ?_
   refine p9 hn ?_
   refine A6 _ _ ?_
   refine j5.seqQ fun _ A7 _ _=>?_
   refine j5.blkQ fun _ A8 _ _ _=>?_
   refine j6 hn ?_
   refine aJ1 hx14 ?_
   refine j6 hn ?_
   refine j5.seqQ fun _ A9 _ _=>?_
   refine j6 hn ?_
   refine D5 (fun hl16=>?_)
   refine j5.nilrow 6 206 5 64 rfl rfl rfl ?_
   obtain ⟨o21,h22,h9⟩:=j4 h9
   refine jk (ι:={ s // o21=s }) hn (fun s=>[]) (fun s=>[(206,.row 5 (List.map eMe s.1) 64)]) [(2,_),(3,_),(5,_),(6,_),(16,_),(17,_),(18,_)] [(2,_),(3,_),(5,_),(11,_),(501,_),(711,_)] (fun _ A10 _ _=>?_) ?_
   ·refine j5.blkQ fun _ _ E11 _ _=>?_
    refine lq (ι:={ q:((List Me)×Nat×(List Me)) // q.1=x13.methods.drop q.2.1∧aB9 N q.1 q.2.1 q.2.2=some o21 }) hn (fun q=>[(25,.int (q.1.2.1:Int))]) (fun q=>[(206,.row 5 (List.map eMe q.1.2.2) 64)]) (fun q=>q.1.1.length) [(2,_),(3,_),(5,_),(6,_),(16,_),(17,_),(18,_),(23,_),(24,_)] [(2,_),(3,_),(5,_),(11,_),(501,_),(711,_)] ⟨(x13.methods,0,([]:List Me)),rfl,h22⟩ [] ?_
    rintro ⟨⟨rest_,k17,v18⟩,hd24,h22⟩ _ A12 X12 _
    replace hd24:rest_=x13.methods.drop k17:=hd24
    rcases rest_ with _|⟨x26,rest23⟩
    ·have hlt28:=N9 hd24
     replace h22:=(aB9.eq_1 _ _ _).symm.trans h22
     refine j6 hn ?_
     refine j5.seqQ fun _ _ X13 _=>?_
     refine p8 hn ?_
     refine d9 hlt28 ?_
     refine F6 hn ?_
     refine X13 _ _ _ ?_
     refine X12 _ _ _ ?_
     refine E11 _ _ ?_
     refine A10 _ _ ?_
     exact jn ⟨_,sj h22⟩ []
    ·obtain ⟨hx27,hd2,hlt28⟩:=H9 hd24
     replace h22:=(aB9.eq_2 _ _ _ _ _).symm.trans h22
     refine j6 hn ?_
     refine j5.seqQ fun _ A14 _ _=>?_
     refine p8 hn ?_
     refine j3 hlt28 ?_
     refine p9 hn ?_
     refine A14 _ _ ?_
     refine j5.seqQ fun _ A15 _ _=>?_
     refine j5.blkQ fun _ A16 _ _ _=>?_
     refine j6 hn ?_
     refine aJ1 hx27 ?_
     refine q8 hn ?_
     obtain ⟨r29,hr30,h22⟩:=j4 h22
     show l8 Try.prog _ _ _ _
     refine cA (bX4 N x26 r29 hr30) ?_
     refine Exists.intro (List.map eMe [r29]) (And.intro (by repeat (first|exact trivial|exact rfl|(refine And.intro ?_ ?_))) ?_)
     obtain ⟨hg31,h22⟩:=G5 h22
     refine aJ7 (l2:=[r29]) hg31 (D8 _) ?_
     refine A16 _ _ ?_
     refine A15 _ _ ?_
     refine kp [(2,_),(3,_),(5,_),(6,_),(16,_),(17,_),(18,_),(23,_),(24,_),(25,_)] [(2,_),(3,_),(5,_),(11,_),(33,_),(501,_),(711,_)] ?_
     refine q8 hn ?_
     refine Or.inl (And.intro (aE3 hx27 hl16) ?_)
     refine A12 _ _ ?_
     exact jn ⟨(rest23,k17+1,(v18++[r29])),hd2,h22⟩ [(206,33)] (by show rest23.length < rest23.length+1; omega)
   rintro ⟨v20,hv_⟩
   replace hv_:=hv_.symm
   subst hv_
   refine A9 _ _ ?_
   refine j6 hn ?_
   refine q8 hn ?_
   refine Or.inr ?_
   refine Exists.intro (List.map O8 [(⟨x13.name,x13.super,x13.slots,v20⟩:Cl)]) (And.intro (by repeat (first|exact trivial|exact rfl|(refine And.intro ?_ ?_))) ?_)
   obtain ⟨hg32,h9⟩:=G5 h9
   refine aJ7 (l2:=[(⟨x13.name,x13.super,x13.slots,v20⟩:Cl)]) hg32 (D8 _) ?_
   refine A8 _ _ ?_
   refine A7 _ _ ?_
   refine q8 hn ?_
   refine Or.inl (And.intro (aE3 hx14 hl3) ?_)
   refine A4 _ _ ?_
   exact jn ⟨(rest10,k4+1,(v5++[(⟨x13.name,x13.super,x13.slots,v20⟩:Cl)])),hd2,h9⟩ [(501,41)] (by show rest10.length < rest10.length+1; omega)
 rintro ⟨v7,hv_⟩
 replace hv_:=hv_.symm
 subst hv_
 refine A1 _ _ ?_
 refine j6 hn ?_
 refine j5.fzAll 501 rfl ?_
 refine got hn ?_
 obtain rfl:=Option.some.inj h
 exact ⟨[(0,11),(1,711)],_,fm⟩

/- value.Class -/
set_option maxRecDepth 100000 in
set_option maxHeartbeats 8000000 in
theorem aV7 (N:Nat) (a0:(List Ob)) (a1:V) (r:Int) (h:aH8 N a0 a1=some r):Spec Try.prog 79 [] [.sl 2 (List.map L6 a0),.agg (eV a1)] (.int r) [] []:=by
 refine Spec.of z8 Try.func79 rfl Try.ntmps79 (by kernel_rfl) rfl rfl rfl fun Γ hn=>?_
 unfold aH8 at h
 refine j6 hn ?_
 refine j5.seqQ fun _ A0 _ R0=>?_
 refine j6 hn ?_
 refine j5.blkQ fun _ A1 _ _ R1=>?_
 refine j6 hn ?_
 refine p8 hn ?_
 refine l5 h (fun hb1 h=>?_) (fun hb1 h=>?_)
 ·refine j6 hn ?_
  refine got hn ?_
  refine R1 _ _ ?_
  refine R0 _ _ ?_
  obtain rfl:=Option.some.inj h
  exact ⟨[],_,fm⟩
 refine j5.seqQ fun _ A2 _ _=>?_
 refine j6 hn ?_
 obtain ⟨o4,h3,h⟩:=j4 h
 refine jk (ι:={ s // o4=s }) hn (fun s=>[(9,.bool s.1)]) (fun s=>[]) [(0,_),(3,_),(6,_)] [(3,_)] (fun _ A3 _ _=>?_) ?_
 ·refine p8 hn ?_
  refine l5 h3 (fun hb5 h3=>?_) (fun hb5 h3=>?_)
  ·refine p9 hn ?_
   refine A3 _ _ ?_
   exact jn ⟨_,sj h3⟩ []
  refine q8 hn ?_
  refine A3 _ _ ?_
  exact jn ⟨_,sj h3⟩ []
 rintro ⟨v2,hv_⟩
 replace hv_:=hv_.symm
 subst hv_
 refine A2 _ _ ?_
 refine p8 hn ?_
 refine l5 h (fun hb6 h=>?_) (fun hb6 h=>?_)
 ·refine j6 hn ?_
  refine got hn ?_
  refine R1 _ _ ?_
  refine R0 _ _ ?_
  obtain rfl:=Option.some.inj h
  exact ⟨[],_,fm⟩
 refine j6 hn ?_
 refine p8 hn ?_
 refine l5 h (fun hb7 h=>?_) (fun hb7 h=>?_)
 ·refine j6 hn ?_
  refine got hn ?_
  refine R1 _ _ ?_
  refine R0 _ _ ?_
  obtain rfl:=Option.some.inj h
  exact ⟨[],_,fm⟩
 refine p9 hn ?_
 refine A1 _ _ ?_
 refine A0 _ _ ?_
 refine j5.seqQ fun _ A4 _ R4=>?_
 refine j5.seqQ fun _ A5 _ _=>?_
 obtain ⟨o10,h9,h⟩:=j4 h
 refine jk (ι:={ s // o10=s }) hn (fun s=>[(28,.bool s.1)]) (fun s=>[]) [(0,_),(3,_)] [(3,_)] (fun _ A6 _ _=>?_) ?_
 ·refine q8 hn ?_
  refine l5 h9 (fun hb11 h9=>?_) (fun hb11 h9=>?_)
  ·refine j3 hb11 ?_
   refine j3 hb11 ?_
   refine j3 hb11 ?_
   refine l5 h9 (fun hb12 h9=>?_) (fun hb12 h9=>?_)
   ·refine j3 hb12 ?_
    refine j3 hb12 ?_
    refine j3 hb12 ?_
    refine D5 (fun _=>?_)
    refine j3 hb12 ?_
    refine j3 hb12 ?_
    refine A6 _ _ ?_
    exact jn ⟨_,sj h9⟩ []
   refine d9 hb12 ?_
   refine d9 hb12 ?_
   refine d9 hb12 ?_
   refine d9 hb12 ?_
   refine d9 hb12 ?_
   refine A6 _ _ ?_
   exact jn ⟨_,sj h9⟩ []
  refine d9 hb11 ?_
  refine d9 hb11 ?_
  refine d9 hb11 ?_
  refine A6 _ _ ?_
  exact jn ⟨_,sj h9⟩ []
 rintro ⟨v8,hv_⟩
 replace hv_:=hv_.symm
 subst hv_
 refine A5 _ _ ?_
 refine p8 hn ?_
 refine l5 h (fun hb14 h=>?_) (fun hb14 h=>?_)
 ·refine j6 hn ?_
  obtain ⟨x15,hx16,h⟩:=j4 h
  refine V5 hx16 ?_
  refine got hn ?_
  refine R4 _ _ ?_
  obtain rfl:=Option.some.inj h
  exact ⟨[],_,fm⟩
 refine p9 hn ?_
 refine A4 _ _ ?_
 refine j6 hn ?_
 refine got hn ?_
 obtain rfl:=Option.some.inj h
 exact ⟨[],_,fm⟩

/- (*run.machine).fail -/
set_option maxRecDepth 100000 in
set_option maxHeartbeats 8000000 in
theorem H5 (N:Nat) (a0:l7) (a1:Int) {Kl:Nat} {cl_1:List AV} {Kq:Nat} (r:l7) (h:I5 N a0 a1=some r):Spec Try.prog 80 [(1000,.box [.ptr 1001 0,.fn Kl [.ptr 1007 0,.fp cl_1],.fn Kq [],.int a0.fuel,.int a0.sends,.int a0.turns,.own 1003,.int a0.back.k,.int a0.back.n,.int a0.err] 145)] [.ptr 1000 0,.int a1] (.tup []) [(1000,.box [.ptr 1001 0,.fn Kl [.ptr 1007 0,.fp cl_1],.fn Kq [],.int r.fuel,.int r.sends,.int r.turns,.own 1003,.int r.back.k,.int r.back.n,.int r.err] 145)] []:=by
 refine Spec.of z8 Try.func80 rfl Try.ntmps80 (by kernel_rfl) rfl rfl rfl fun Γ hn=>?_
 unfold I5 at h
 refine j5.snoc ?_
 refine j6 hn ?_
 obtain ⟨o3,h2,h⟩:=j4 h
 refine jk (ι:={ s // o3=s }) hn (fun s=>[]) (fun s=>[(1000,.box [.ptr 1001 0,.fn Kl [.ptr 1007 0,.fp cl_1],.fn Kq [],.int a0.fuel,.int a0.sends,.int a0.turns,.own 1003,.int a0.back.k,.int a0.back.n,.int s.1] 145)]) [(0,_)] [] (fun _ A0 _ _=>?_) ?_
 ·refine p8 hn ?_
  refine l5 h2 (fun hb4 h2=>?_) (fun hb4 h2=>?_)
  ·refine q8 hn ?_
   refine A0 _ _ ?_
   exact jn ⟨_,sj h2⟩ []
  refine p9 hn ?_
  refine A0 _ _ ?_
  exact jn ⟨_,sj h2⟩ []
 rintro ⟨v1,hv_⟩
 replace hv_:=hv_.symm
 subst hv_
 refine F4.done ?_
 obtain rfl:=Option.some.inj h
 exact ⟨[],_,fm⟩

/- (*run.machine).count -/
set_option maxRecDepth 100000 in
set_option maxHeartbeats 8000000 in
theorem aC6 (N:Nat) (a0:l7) (a1:Bool) {Kl:Nat} {cl_1:List AV} {Kq:Nat} (r:(Bool×l7)) (h:U4 N a0 a1=some r):Spec Try.prog 98 [(1000,.box [.ptr 1001 0,.fn Kl [.ptr 1007 0,.fp cl_1],.fn Kq [],.int a0.fuel,.int a0.sends,.int a0.turns,.own 1003,.int a0.back.k,.int a0.back.n,.int a0.err] 145),(1003,.deep 10 170 [(7,(2,39)),(8,(2,39))] (List.map u7 a0.frames) [] 1005)] [.ptr 1000 0,.bool a1] (.bool r.1) [(1000,.box [.ptr 1001 0,.fn Kl [.ptr 1007 0,.fp cl_1],.fn Kq [],.int r.2.fuel,.int r.2.sends,.int r.2.turns,.own 1003,.int r.2.back.k,.int r.2.back.n,.int r.2.err] 145),(1003,.deep 10 170 [(7,(2,39)),(8,(2,39))] (List.map u7 a0.frames) [] 1005)] []:=by
 refine Spec.of z8 Try.func98 rfl Try.ntmps98 (by kernel_rfl) rfl rfl rfl fun Γ hn=>?_
 unfold U4 at h
 refine j6 hn ?_
 refine j5.seqQ fun _ A0 _ R0=>?_
 obtain ⟨o8,h7,h⟩:=j4 h
 refine jk (ι:={ s // o8=D9.next s }) hn (fun s=>[]) (fun s=>[(1000,.box [.ptr 1001 0,.fn Kl [.ptr 1007 0,.fp cl_1],.fn Kq [],.int s.1.1,.int s.1.2.1,.int s.1.2.2.1,.own 1003,.int s.1.2.2.2.1,.int s.1.2.2.2.2.1,.int s.1.2.2.2.2.2] 145)]) [(0,_)] [(1003,_)] (fun _ A1 _ R1=>?_) ?_
 ·refine j5.blkQ fun _ A2 _ _ R2=>?_
  refine j5.seqQ fun _ A3 _ _=>?_
  refine P5 hn (by kernel_rfl) ?_
  refine A3 _ _ ?_
  obtain ⟨o16,h15,h7⟩:=j4 h7
  refine jk (ι:={ s // o16=D9.next s }) hn (fun s=>[]) (fun s=>[(1000,.box [.ptr 1001 0,.fn Kl [.ptr 1007 0,.fp cl_1],.fn Kq [],.int s.1.1,.int s.1.2.1,.int s.1.2.2.1,.own 1003,.int s.1.2.2.2.1,.int s.1.2.2.2.2.1,.int s.1.2.2.2.2.2] 145)]) [(0,_)] [(1003,_)] (fun _ A4 _ R4=>?_) ?_
  ·refine p8 hn ?_
   refine l5 h15 (fun hb17 h15=>?_) (fun hb17 h15=>?_)
   ·refine q8 hn ?_
    obtain ⟨r18,hr19,h15⟩:=j4 h15
    show l8 Try.prog _ _ _ _
    refine cA (H5 N (⟨(⟨a0.w.classes,a0.w.heap,a0.w.epoch⟩:Wd),a0.fuel,a0.sends,a0.turns,a0.frames,a0.back,a0.err⟩:l7) (13:Int) r18 hr19) ?_
    refine A4 _ _ ?_
    exact jn ⟨_,sj h15⟩ []
   refine j5.seqQ fun _ A5 _ _=>?_
   obtain ⟨o22,h21,h15⟩:=j4 h15
   refine jk (ι:={ s // o22=s }) hn (fun s=>[(24,.bool s.1)]) (fun s=>[]) [(0,_)] [(1000,_),(1003,_)] (fun _ A6 _ _=>?_) ?_
   ·refine q8 hn ?_
    refine l5 h21 (fun hb23 h21=>?_) (fun hb23 h21=>?_)
    ·refine j3 hb23 ?_
     refine j3 hb23 ?_
     refine j3 hb23 ?_
     refine j3 hb23 ?_
     refine D5 (fun _=>?_)
     refine j3 hb23 ?_
     refine j3 hb23 ?_
     refine A6 _ _ ?_
     exact jn ⟨_,sj h21⟩ []
    refine d9 hb23 ?_
    refine d9 hb23 ?_
    refine d9 hb23 ?_
    refine d9 hb23 ?_
    refine d9 hb23 ?_
    refine d9 hb23 ?_
    refine A6 _ _ ?_
    exact jn ⟨_,sj h21⟩ []
   rintro ⟨v20,hv_⟩
   replace hv_:=hv_.symm
   subst hv_
   refine A5 _ _ ?_
   refine p8 hn ?_
   refine l5 h15 (fun hb25 h15=>?_) (fun hb25 h15=>?_)
   ·refine q8 hn ?_
    obtain ⟨r26,hr27,h15⟩:=j4 h15
    show l8 Try.prog _ _ _ _
    refine cA (H5 N (⟨(⟨a0.w.classes,a0.w.heap,a0.w.epoch⟩:Wd),a0.fuel,a0.sends,a0.turns,a0.frames,a0.back,a0.err⟩:l7) (14:Int) r26 hr27) ?_
    refine A4 _ _ ?_
    exact jn ⟨_,sj h15⟩ []
   refine j6 hn ?_
   refine Or.inr ?_
   refine j6 hn ?_
   refine got hn ?_
   refine R4 _ _ ?_
   refine R2 _ _ ?_
   refine R1 _ _ ?_
   refine R0 _ _ ?_
   obtain rfl:=Option.some.inj h15
   obtain rfl:=Option.some.inj h7
   obtain rfl:=Option.some.inj h
   exact ⟨[],_,fm⟩
  rintro ⟨⟨v9,v10,v11,v12,v13,v14⟩,rfl⟩
  refine A2 _ _ ?_
  refine A1 _ _ ?_
  exact jn ⟨_,sj h7⟩ []
 rintro ⟨⟨v1,v2,v3,v4,v5,v6⟩,rfl⟩
 refine A0 _ _ ?_
 refine j6 hn ?_
 refine got hn ?_
 obtain rfl:=Option.some.inj h
 exact ⟨[],_,fm⟩

/- value.Prim$1 -/
set_option maxRecDepth 100000 in
set_option maxHeartbeats 8000000 in
theorem aU6 (N:Nat) (a0:Int) (r:V) (h:aE2 N a0=some r):Spec Try.prog 122 [] [.int a0] (.agg (eV r)) [] []:=by
 refine Spec.of z8 Try.func122 rfl Try.ntmps122 (by kernel_rfl) rfl rfl rfl fun Γ hn=>?_
 unfold aE2 at h
 refine j6 hn ?_
 refine j6 hn ?_
 obtain ⟨hg1,h⟩:=G5 h
 refine dC3 hg1 ?_
 refine got hn ?_
 obtain rfl:=Option.some.inj h
 exact ⟨[],_,fm⟩

/- value.Bool -/
set_option maxRecDepth 100000 in
set_option maxHeartbeats 8000000 in
theorem aZ5 (N:Nat) (a0:Bool) (r:V) (h:aP0 N a0=some r):Spec Try.prog 123 [] [.bool a0] (.agg (eV r)) [] []:=by
 refine Spec.of z8 Try.func123 rfl Try.ntmps123 (by kernel_rfl) rfl rfl rfl fun Γ hn=>?_
 unfold aP0 at h
 refine j6 hn ?_
 refine j5.seqQ fun _ A0 _ R0=>?_
 refine j6 hn ?_
 refine p8 hn ?_
 refine l5 h (fun hb1 h=>?_) (fun hb1 h=>?_)
 ·refine j6 hn ?_
  refine got hn ?_
  refine R0 _ _ ?_
  obtain rfl:=Option.some.inj h
  exact ⟨[],_,fm⟩
 refine p9 hn ?_
 refine A0 _ _ ?_
 refine j6 hn ?_
 refine got hn ?_
 obtain rfl:=Option.some.inj h
 exact ⟨[],_,fm⟩

/- value.Prim -/
set_option maxRecDepth 100000 in
set_option maxHeartbeats 8000000 in
theorem b78 (N:Nat) (a0:Int) (a1:V) (a2:V) (r:(V×Int)) (h:aU4 N a0 a1 a2=some r):Spec Try.prog 99 [] [.int a0,.agg (eV a1),.agg (eV a2)] (.tup [.agg (eV r.1),.int r.2]) [] []:=by
 refine Spec.of z8 Try.func99 rfl Try.ntmps99 (by kernel_rfl) rfl rfl rfl fun Γ hn=>?_
 unfold aU4 at h
 refine j6 hn ?_
 refine j5.seqQ fun _ A0 _ R0=>?_
 refine j5.seqQ fun _ A1 _ _=>?_
 obtain ⟨o3,h2,h⟩:=j4 h
 refine jk (ι:={ s // o3=s }) hn (fun s=>[(16,.bool s.1)]) (fun s=>[]) [(0,_),(4,_),(5,_),(6,_)] [(4,_),(5,_),(6,_)] (fun _ A2 _ _=>?_) ?_
 ·refine q8 hn ?_
  refine l5 h2 (fun hb4 h2=>?_) (fun hb4 h2=>?_)
  ·refine j3 hb4 ?_
   refine j3 hb4 ?_
   refine j3 hb4 ?_
   refine A2 _ _ ?_
   exact jn ⟨_,sj h2⟩ []
  refine d9 hb4 ?_
  refine d9 hb4 ?_
  refine d9 hb4 ?_
  refine A2 _ _ ?_
  exact jn ⟨_,sj h2⟩ []
 rintro ⟨v1,hv_⟩
 replace hv_:=hv_.symm
 subst hv_
 refine A1 _ _ ?_
 refine p8 hn ?_
 refine l5 h (fun hb5 h=>?_) (fun hb5 h=>?_)
 ·refine j6 hn ?_
  refine got hn ?_
  refine R0 _ _ ?_
  obtain rfl:=Option.some.inj h
  exact ⟨[],_,fm⟩
 refine p9 hn ?_
 refine A0 _ _ ?_
 refine j6 hn ?_
 refine j5.seqQ fun _ A3 _ R3=>?_
 refine j6 hn ?_
 refine j5.blkQ fun _ A4 _ _ R4=>?_
 refine j6 hn ?_
 refine p8 hn ?_
 refine l5 h (fun hb6 h=>?_) (fun hb6 h=>?_)
 ·refine j6 hn ?_
  refine Or.inr ?_
  obtain ⟨r7,hr8,h⟩:=j4 h
  show l8 Try.prog _ _ _ _
  refine cA (aU6 N (wr (a1.n+a2.n)) r7 hr8) ?_
  refine got hn ?_
  refine R4 _ _ ?_
  refine R3 _ _ ?_
  obtain rfl:=Option.some.inj h
  exact ⟨[],_,fm⟩
 refine j6 hn ?_
 refine p8 hn ?_
 refine l5 h (fun hb9 h=>?_) (fun hb9 h=>?_)
 ·refine j6 hn ?_
  refine Or.inr ?_
  obtain ⟨r10,hr11,h⟩:=j4 h
  show l8 Try.prog _ _ _ _
  refine cA (aU6 N (wr (a1.n - a2.n)) r10 hr11) ?_
  refine got hn ?_
  refine R4 _ _ ?_
  refine R3 _ _ ?_
  obtain rfl:=Option.some.inj h
  exact ⟨[],_,fm⟩
 refine j6 hn ?_
 refine p8 hn ?_
 refine l5 h (fun hb12 h=>?_) (fun hb12 h=>?_)
 ·refine j6 hn ?_
  refine Or.inr ?_
  obtain ⟨r13,hr14,h⟩:=j4 h
  show l8 Try.prog _ _ _ _
  refine cA (aU6 N (wr (a1.n*a2.n)) r13 hr14) ?_
  refine got hn ?_
  refine R4 _ _ ?_
  refine R3 _ _ ?_
  obtain rfl:=Option.some.inj h
  exact ⟨[],_,fm⟩
 refine j6 hn ?_
 refine p8 hn ?_
 refine l5 h (fun hb15 h=>?_) (fun hb15 h=>?_)
 ·refine j6 hn ?_
  obtain ⟨r16,hr17,h⟩:=j4 h
  show l8 Try.prog _ _ _ _
  refine cA (aZ5 N (decide (a1.n < a2.n)) r16 hr17) ?_
  refine got hn ?_
  refine R4 _ _ ?_
  refine R3 _ _ ?_
  obtain rfl:=Option.some.inj h
  exact ⟨[],_,fm⟩
 refine j6 hn ?_
 refine p8 hn ?_
 refine l5 h (fun hb18 h=>?_) (fun hb18 h=>?_)
 ·refine kp [(4,_),(5,_),(6,_)] [(4,_),(5,_),(6,_)] ?_
  refine j6 hn ?_
  obtain ⟨r19,hr20,h⟩:=j4 h
  show l8 Try.prog _ _ _ _
  refine cA (aZ5 N (decide (a1.n=a2.n)) r19 hr20) ?_
  refine got hn ?_
  refine R4 _ _ ?_
  refine R3 _ _ ?_
  obtain rfl:=Option.some.inj h
  exact ⟨[],_,fm⟩
 refine p9 hn ?_
 refine A4 _ _ ?_
 refine A3 _ _ ?_
 refine kp [(6,_)] [(6,_)] ?_
 refine j6 hn ?_
 refine got hn ?_
 obtain rfl:=Option.some.inj h
 exact ⟨[],_,fm⟩

/- (*run.machine).give -/
set_option maxRecDepth 100000 in
set_option maxHeartbeats 8000000 in
theorem aM1 (N:Nat) (a0:l7) (a1:V) {Kl:Nat} {cl_1:List AV} {Kq:Nat} (r:l7) (h:V7 N a0 a1=some r):Spec Try.prog 100 [(1000,.box [.ptr 1001 0,.fn Kl [.ptr 1007 0,.fp cl_1],.fn Kq [],.int a0.fuel,.int a0.sends,.int a0.turns,.own 1003,.int a0.back.k,.int a0.back.n,.int a0.err] 145),(1003,.deep 10 170 [(7,(2,39)),(8,(2,39))] (List.map u7 a0.frames) [] 1005)] [.ptr 1000 0,.agg (eV a1)] (.tup []) [(1000,.box [.ptr 1001 0,.fn Kl [.ptr 1007 0,.fp cl_1],.fn Kq [],.int r.fuel,.int r.sends,.int r.turns,.own 1003,.int r.back.k,.int r.back.n,.int r.err] 145),(1003,.deep 10 170 [(7,(2,39)),(8,(2,39))] (List.map u7 r.frames) [] 5),(5,.gone)] [5]:=by
 refine Spec.of z8 Try.func100 rfl Try.ntmps100 (by kernel_rfl) rfl rfl rfl fun Γ hn=>?_
 unfold V7 at h
 refine j5.snoc ?_
 refine j6 hn ?_
 refine j5.seqQ fun _ A0 _ R0=>?_
 refine j6 hn ?_
 refine D5 (fun _=>?_)
 refine p8 hn ?_
 refine l5 h (fun hb2 h=>?_) (fun hb2 h=>?_)
 ·refine j6 hn ?_
  refine j5.gh (Gh.resh 1003 501 rfl rfl rfl rfl) (fun _=>?_)
  refine got hn ?_
  refine R0 _ _ ?_
  obtain rfl:=Option.some.inj h
  exact ⟨[(5,501)],_,fm⟩
 refine p9 hn ?_
 refine A0 _ _ ?_
 refine j5.seqQ fun _ A1 _ _=>?_
 refine P5 hn (by kernel_rfl) ?_
 refine D5 (fun _=>?_)
 refine Or.inr ?_
 obtain ⟨x4,hx5,h⟩:=j4 h
 refine ixD hx5 rfl rfl ?_
 refine A1 _ _ ?_
 refine j5.gh (Gh.detach 1003 502 503 ((wr ((a0.frames.length:Int) - (1:Int))).toNat) 8 rfl rfl (atD (C8 hx5).2) rfl rfl rfl rfl rfl rfl rfl rfl) (fun _=>?_)
 refine kp [(0,_),(3,_),(4,_)] [(3,_),(502,_),(503,_),(1000,_),(1003,_)] ?_
 refine P5 hn (by kernel_rfl) ?_
 refine Q6 (C8 hx5).2 rfl rfl (by decide) rfl ?_
 refine Exists.intro (List.map eV [a1]) (And.intro (by repeat (first|exact trivial|exact rfl|(refine And.intro ?_ ?_))) ?_)
 obtain ⟨hg6,h⟩:=G5 h
 refine aJ7 (l2:=[a1]) hg6 (D8 _) ?_
 refine aX9 (C8 hx5).2 rfl rfl (by decide) ?_
 refine F4.gh (Gh.attach (l':=List.map u7 (a0.frames.set ((wr ((a0.frames.length:Int) - (1:Int))).toNat) (⟨x4.class_,x4.method,x4.fast,x4.code,x4.self_,x4.args,x4.temps,(x4.stack++[a1]),x4.at_⟩:l6))) 1003 33 504 ((wr ((a0.frames.length:Int) - (1:Int))).toNat) 8 rfl rfl rfl (atD (C8 hx5).2) rfl rfl (aL6 rfl) rfl rfl rfl rfl rfl rfl) (fun _=>?_)
 refine F4.done ?_
 obtain rfl:=Option.some.inj h
 exact ⟨[(5,504)],_,fm⟩

/- (*run.machine).enter -/
set_option maxRecDepth 100000 in
set_option maxHeartbeats 8000000 in
theorem aK7 (N:Nat) (a0:l7) (gq:Int→Int→Option (Fs×Bool)) (a1:Int) (a2:Int) (a3:V) (a4:(List V)) {Kl:Nat} {cl_1:List AV} {Kq:Nat} (hgq:∀x0_ x1_ y_,gq x0_ x1_=some y_→Spec Try.prog Kq [] [.int x0_,.int x1_] (.tup [.agg (eFs y_.1),.bool y_.2]) [] []) (r:l7) (h:Y6 N a0 gq a1 a2 a3 a4=some r):Spec Try.prog 81 [(1000,.box [.ptr 1001 0,.fn Kl [.ptr 1007 0,.fp cl_1],.fn Kq [],.int a0.fuel,.int a0.sends,.int a0.turns,.own 1003,.int a0.back.k,.int a0.back.n,.int a0.err] 145),(1001,.box [.sl 4 (List.map O8 a0.w.classes),.own 1002,.int a0.w.epoch] 37),(1003,.deep 10 170 [(7,(2,39)),(8,(2,39))] (List.map u7 a0.frames) [] 1005)] [.ptr 1000 0,.int a1,.int a2,.agg (eV a3),.sl 2 (List.map eV a4)] (.tup []) [(1000,.box [.ptr 1001 0,.fn Kl [.ptr 1007 0,.fp cl_1],.fn Kq [],.int r.fuel,.int r.sends,.int r.turns,.own 4,.int r.back.k,.int r.back.n,.int r.err] 145),(1001,.box [.sl 4 (List.map O8 a0.w.classes),.own 1002,.int a0.w.epoch] 37),(4,.deep 10 170 [(7,(2,39)),(8,(2,39))] (List.map u7 r.frames) [] 5),(5,.gone),(1003,.gone)] [5,4]:=by
 refine Spec.of z8 Try.func81 rfl Try.ntmps81 (by kernel_rfl) rfl rfl rfl fun Γ hn=>?_
 unfold Y6 at h
 refine j5.snoc ?_
 refine j6 hn ?_
 refine j6 hn ?_
 obtain ⟨x1,hx2,h⟩:=j4 h
 refine V5 hx2 ?_
 obtain ⟨x3,hx4,h⟩:=j4 h
 refine V5 hx4 ?_
 refine j5.seqQ fun _ A0 _ R0=>?_
 refine kp [(0,_),(1,_),(2,_),(4,_),(8,_),(10,_)] [(8,_),(1000,_),(1001,_),(1003,_)] ?_
 refine j6 hn ?_
 refine D5 (fun _=>?_)
 refine p8 hn ?_
 refine l5 h (fun hb6 h=>?_) (fun hb6 h=>?_)
 ·refine j6 hn ?_
  obtain ⟨r7,hr8,h⟩:=j4 h
  show l8 Try.prog _ _ _ _
  refine cA (H5 N (⟨(⟨a0.w.classes,a0.w.heap,a0.w.epoch⟩:Wd),a0.fuel,a0.sends,a0.turns,a0.frames,a0.back,a0.err⟩:l7) (8:Int) r7 hr8) ?_
  refine j5.gh (Gh.reidD 1000 6 1003 501 502 rfl rfl rfl rfl rfl rfl rfl rfl rfl rfl rfl rfl) (fun _=>?_)
  refine got hn ?_
  refine R0 _ _ ?_
  obtain rfl:=Option.some.inj h
  exact ⟨[(4,501),(5,502)],_,fm⟩
 refine p9 hn ?_
 refine A0 _ _ ?_
 refine j5.seqQ fun _ A1 _ R1=>?_
 refine j6 hn ?_
 refine p8 hn ?_
 refine l5 h (fun hb9 h=>?_) (fun hb9 h=>?_)
 ·refine j5.seqQ fun _ A2 _ R2=>?_
  refine kp [(0,_),(4,_),(8,_),(10,_)] [(8,_),(1000,_),(1001,_),(1003,_)] ?_
  refine j6 hn ?_
  obtain ⟨r10,hr11,h⟩:=j4 h
  show l8 Try.prog _ _ _ _
  refine cA (aC6 N (⟨(⟨a0.w.classes,a0.w.heap,a0.w.epoch⟩:Wd),a0.fuel,a0.sends,a0.turns,a0.frames,a0.back,a0.err⟩:l7) false r10 hr11) ?_
  refine p8 hn ?_
  refine l5 h (fun hb12 h=>?_) (fun hb12 h=>?_)
  ·refine j5.gh (Gh.reidD 1000 6 1003 503 504 rfl rfl rfl rfl rfl rfl rfl rfl rfl rfl rfl rfl) (fun _=>?_)
   refine got hn ?_
   refine R2 _ _ ?_
   refine R1 _ _ ?_
   obtain rfl:=Option.some.inj h
   exact ⟨[(4,503),(5,504)],_,fm⟩
  refine p9 hn ?_
  refine A2 _ _ ?_
  refine j5.seqQ fun _ A3 _ _=>?_
  refine P5 hn (by kernel_rfl) ?_
  obtain ⟨x13,hx14,h⟩:=j4 h
  refine V5 hx14 ?_
  obtain ⟨r15,hr16,h⟩:=j4 h
  show l8 Try.prog _ _ _ _
  refine cA (b78 N x3.prim a3 x13 r15 hr16) ?_
  refine A3 _ _ ?_
  refine j5.seqQ fun _ A4 _ R4=>?_
  refine kp [(0,_),(11,_),(12,_)] [(11,_),(1000,_),(1001,_),(1003,_)] ?_
  refine j6 hn ?_
  refine p8 hn ?_
  refine l5 h (fun hb17 h=>?_) (fun hb17 h=>?_)
  ·refine j6 hn ?_
   obtain ⟨r18,hr19,h⟩:=j4 h
   show l8 Try.prog _ _ _ _
   refine cA (H5 N (⟨(⟨a0.w.classes,a0.w.heap,a0.w.epoch⟩:Wd),r10.2.fuel,r10.2.sends,r10.2.turns,a0.frames,r10.2.back,r10.2.err⟩:l7) r15.2 r18 hr19) ?_
   refine j5.gh (Gh.reidD 1000 6 1003 505 506 rfl rfl rfl rfl rfl rfl rfl rfl rfl rfl rfl rfl) (fun _=>?_)
   refine got hn ?_
   refine R4 _ _ ?_
   refine R1 _ _ ?_
   obtain rfl:=Option.some.inj h
   exact ⟨[(4,505),(5,506)],_,fm⟩
  refine p9 hn ?_
  refine A4 _ _ ?_
  refine j6 hn ?_
  obtain ⟨r20,hr21,h⟩:=j4 h
  show l8 Try.prog _ _ _ _
  refine cA ((aM1 N (⟨(⟨a0.w.classes,a0.w.heap,a0.w.epoch⟩:Wd),r10.2.fuel,r10.2.sends,r10.2.turns,a0.frames,r10.2.back,r10.2.err⟩:l7) r15.1 r20 hr21).sw 5 507) ?_
  refine j5.gh (Gh.reidD 1000 6 1003 508 509 rfl rfl rfl rfl rfl rfl rfl rfl rfl rfl rfl rfl) (fun _=>?_)
  refine got hn ?_
  refine R1 _ _ ?_
  obtain rfl:=Option.some.inj h
  exact ⟨[(4,508),(5,509)],_,fm⟩
 refine p9 hn ?_
 refine A1 _ _ ?_
 refine j5.seqQ fun _ A5 _ R5=>?_
 refine kp [(0,_),(1,_),(2,_),(4,_),(8,_),(10,_)] [(8,_),(1000,_),(1001,_),(1003,_)] ?_
 refine j6 hn ?_
 obtain ⟨r22,hr23,h⟩:=j4 h
 show l8 Try.prog _ _ _ _
 refine cA (aC6 N (⟨(⟨a0.w.classes,a0.w.heap,a0.w.epoch⟩:Wd),a0.fuel,a0.sends,a0.turns,a0.frames,a0.back,a0.err⟩:l7) true r22 hr23) ?_
 refine p8 hn ?_
 refine l5 h (fun hb24 h=>?_) (fun hb24 h=>?_)
 ·refine j5.gh (Gh.reidD 1000 6 1003 510 511 rfl rfl rfl rfl rfl rfl rfl rfl rfl rfl rfl rfl) (fun _=>?_)
  refine got hn ?_
  refine R5 _ _ ?_
  obtain rfl:=Option.some.inj h
  exact ⟨[(4,510),(5,511)],_,fm⟩
 refine p9 hn ?_
 refine A5 _ _ ?_
 refine j5.seqQ fun _ A6 _ _=>?_
 refine kp [(0,_),(1,_),(2,_),(4,_),(8,_),(10,_)] [(8,_),(1000,_),(1001,_),(1003,_)] ?_
 refine P5 hn (by kernel_rfl) ?_
 obtain ⟨r25,hr26,h⟩:=j4 h
 show l8 Try.prog _ _ _ _
 refine cA ((aP9 N a4 r25 hr26).sw 0 77) ?_
 obtain ⟨hg27,h⟩:=G5 h
 refine mkM (enc:=eV) (x:=(⟨(0:Int),(0:Int)⟩:V)) hg27 (by repeat (first|exact trivial|exact rfl|(refine And.intro ?_ ?_))) ?_
 refine A6 _ _ ?_
 refine j5.seqQ fun _ A7 _ _=>?_
 refine kp [(0,_),(1,_),(2,_),(13,_)] [(13,_),(77,_),(82,_),(1000,_),(1001,_),(1003,_)] ?_
 refine j6 hn ?_
 obtain ⟨r28,hr29,h⟩:=j4 h
 show l8 Try.prog _ _ _ _
 refine cA (hgq _ _ _ hr29) ?_
 refine j6 hn ?_
 obtain ⟨o34,h33,h⟩:=j4 h
 refine jk (ι:={ s // o34=s }) hn (fun s=>[]) (fun s=>[(13,.box [.int a1,.int a2,.bool s.1.1,.sl 5 (List.map aO2 s.1.2.1),.int a3.k,.int a3.n,.own 77,.own 99,.nilsl,.int (0:Int)] 170),(99,.row 2 (List.map eV s.1.2.2) 39)]) [(0,_),(13,_)] [(77,_),(1000,_),(1001,_),(1003,_)] (fun _ A8 _ _=>?_) ?_
 ·refine p8 hn ?_
  refine l5 h33 (fun hb35 h33=>?_) (fun hb35 h33=>?_)
  ·refine kp [(0,_),(13,_),(14,_)] [(13,_),(14,_),(77,_),(82,_),(1000,_),(1001,_),(1003,_)] ?_
   refine P5 hn (by kernel_rfl) ?_
   obtain ⟨hg36,h33⟩:=G5 h33
   refine mkM (enc:=eV) (x:=(⟨(0:Int),(0:Int)⟩:V)) hg36 (by repeat (first|exact trivial|exact rfl|(refine And.intro ?_ ?_))) ?_
   refine A8 _ _ ?_
   exact jn ⟨_,sj h33⟩ []
  refine p9 hn ?_
  refine A8 _ _ ?_
  exact jn ⟨_,sj h33⟩ [(99,82)]
 rintro ⟨⟨v30,v31,v32⟩,rfl⟩
 refine A7 _ _ ?_
 refine j5.fzAll 77 rfl ?_
 refine kp [(0,_),(13,_)] [(13,_),(99,_),(1000,_),(1001,_),(1003,_)] ?_
 refine P5 hn (by kernel_rfl) ?_
 refine Or.inl ?_
 refine Exists.intro [(7,(2,39)),(8,(2,39))] (Exists.intro (u7 (⟨a1,a2,v30,v31,a3,r25,v32,[],(0:Int)⟩:l6)) (Exists.intro [(99,.row 2 (List.map eV v32) 39)] (And.intro rfl (And.intro rfl (And.intro rfl (And.intro (by decide) (And.intro (by decide) (And.intro rfl (And.intro rfl ?_)))))))))
 obtain ⟨hg37,h⟩:=G5 h
 refine cV9 (l2:=[(⟨a1,a2,v30,v31,a3,r25,v32,[],(0:Int)⟩:l6)]) hg37 rfl rfl rfl rfl rfl (by decide) (by decide) ?_
 refine F4.done ?_
 obtain rfl:=Option.some.inj h
 exact ⟨[(4,110),(5,810)],_,fm⟩

/- (*run.machine).send -/
set_option maxRecDepth 100000 in
set_option maxHeartbeats 8000000 in
theorem a10 (N:Nat) (a0:l7) (gl:St→Int→ByteArray→q9→Option (Int×Int×q9)) (gq:Int→Int→Option (Fs×Bool)) (sb:q9) (a1:Nat) (a2:Ins) (a3:Int) {Kl:Nat} {cl_1:List AV} (hgl:∀x0_ x1_ x2_ s_ y_,gl x0_ x1_ x2_ s_=some y_→Spec Try.prog Kl [(1007,.box (O7 s_) 50)] [.agg (eSt x0_),.int x1_,.str x2_,.ptr 1007 0,.fp cl_1] (.tup [.int y_.1,.int y_.2.1]) [(1007,.box (O7 y_.2.2) 50)] []) {Kq:Nat} (hgq:∀x0_ x1_ y_,gq x0_ x1_=some y_→Spec Try.prog Kq [] [.int x0_,.int x1_] (.tup [.agg (eFs y_.1),.bool y_.2]) [] []) (r:(q9×l7)) (h:aB8 N a0 gl gq sb a1 a2 a3=some r):Spec Try.prog 101 [(1000,.box [.ptr 1001 0,.fn Kl [.ptr 1007 0,.fp cl_1],.fn Kq [],.int a0.fuel,.int a0.sends,.int a0.turns,.own 1003,.int a0.back.k,.int a0.back.n,.int a0.err] 145),(1001,.box [.sl 4 (List.map O8 a0.w.classes),.own 1002,.int a0.w.epoch] 37),(1002,.deep 2 97 [(1,(2,39))] (List.map L6 a0.w.heap) [] 1004),(1003,.deep 10 170 [(7,(2,39)),(8,(2,39))] (List.map u7 a0.frames) [] 1005),(1007,.box (O7 sb) 50)] [.ptr 1000 0,.ep 1003 a1 10 0,.agg (aO2 a2),.int a3] (.tup []) [(1000,.box [.ptr 1001 0,.fn Kl [.ptr 1007 0,.fp cl_1],.fn Kq [],.int r.2.fuel,.int r.2.sends,.int r.2.turns,.own 4,.int r.2.back.k,.int r.2.back.n,.int r.2.err] 145),(1001,.box [.sl 4 (List.map O8 a0.w.classes),.own 1002,.int a0.w.epoch] 37),(1002,.deep 2 97 [(1,(2,39))] (List.map L6 a0.w.heap) [] 1004),(4,.deep 10 170 [(7,(2,39)),(8,(2,39))] (List.map u7 r.2.frames) [] 5),(5,.gone),(1003,.gone),(1007,.box (O7 r.1) 50)] [5,4]:=by
 refine Spec.of z8 Try.func101 rfl Try.ntmps101 (by kernel_rfl) rfl rfl rfl fun Γ hn=>?_
 unfold aB8 at h
 refine j5.snoc ?_
 refine j6 hn ?_
 refine j5.seqQ fun _ A0 _ _=>?_
 obtain ⟨x1,hx2,h⟩:=j4 h
 refine j5.gh (Gh.detach 1003 501 502 a1 8 rfl rfl (atD hx2) rfl rfl rfl rfl rfl rfl rfl rfl) (fun _=>?_)
 refine kp [(0,_),(1,_),(3,_),(6,_)] [(6,_),(501,_),(502,_),(1000,_),(1001,_),(1002,_),(1003,_),(1007,_)] ?_
 refine P5 hn (by kernel_rfl) ?_
 refine Q6 hx2 rfl rfl (by decide) rfl ?_
 refine D5 (fun _=>?_)
 refine Or.inr ?_
 refine A0 _ _ ?_
 refine j5.seqQ fun _ A1 _ _=>?_
 refine kp [(0,_),(1,_),(3,_),(6,_),(8,_)] [(6,_),(501,_),(502,_),(1000,_),(1001,_),(1002,_),(1003,_),(1007,_)] ?_
 refine P5 hn (by kernel_rfl) ?_
 refine Q6 hx2 rfl rfl (by decide) rfl ?_
 obtain ⟨hg4,h⟩:=G5 h
 refine dC4 hg4 rfl rfl ?_
 obtain ⟨r5,hr6,h⟩:=j4 h
 show l8 Try.prog _ _ _ _
 refine cDf ((Spec.drop1 (aP9 N (x1.stack.drop ((wr ((x1.stack.length:Int) - a2.a)).toNat)) r5 hr6)).sw 0 28) ⟨dB3 _,trivial⟩ ?_
 refine Q6 hx2 rfl rfl (by decide) rfl ?_
 refine Or.inr ?_
 obtain ⟨x7,hx8,h⟩:=j4 h
 refine aE6 hx8 ?_
 refine Y8 (C8 hx8).2 ?_
 refine A1 _ _ ?_
 refine j5.seqQ fun _ A2 _ _=>?_
 refine j5.gh (Gh.attach (l':=List.map u7 a0.frames) 1003 501 503 a1 8 rfl rfl rfl (atD hx2) rfl rfl (aW4 hx2 rfl) rfl rfl rfl rfl rfl rfl) (fun _=>?_)
 refine kp [(0,_),(1,_),(3,_),(6,_),(8,_),(9,_),(10,_)] [(6,_),(10,_),(28,_),(503,_),(1000,_),(1001,_),(1002,_),(1003,_),(1007,_)] ?_
 refine P5 hn (by kernel_rfl) ?_
 refine Y8 hx2 ?_
 refine Y8 hx2 ?_
 obtain ⟨x9,hx10,h⟩:=j4 h
 refine V5 hx10 ?_
 refine Y8 hx2 ?_
 obtain ⟨x11,hx12,h⟩:=j4 h
 refine V5 hx12 ?_
 refine A2 _ _ ?_
 refine j5.seqQ fun _ A3 _ _=>?_
 refine kp [(0,_),(1,_),(6,_),(8,_),(9,_),(10,_),(11,_)] [(6,_),(10,_),(11,_),(28,_),(503,_),(1000,_),(1001,_),(1002,_),(1003,_),(1007,_)] ?_
 refine j6 hn ?_
 refine Y8 hx2 ?_
 obtain ⟨o15,h14,h⟩:=j4 h
 refine jk (ι:={ s // o15=s }) hn (fun s=>[]) (fun s=>[(11,.box [.int x1.class_,.str x11.name,.int s.1] 23)]) [(0,_),(1,_),(6,_),(8,_),(9,_),(10,_),(11,_)] [(6,_),(10,_),(28,_),(503,_),(1000,_),(1001,_),(1002,_),(1003,_),(1007,_)] (fun _ A4 _ _=>?_) ?_
 ·refine p8 hn ?_
  refine l5 h14 (fun hb16 h14=>?_) (fun hb16 h14=>?_)
  ·refine q8 hn ?_
   refine A4 _ _ ?_
   exact jn ⟨_,sj h14⟩ []
  refine p9 hn ?_
  refine A4 _ _ ?_
  exact jn ⟨_,sj h14⟩ []
 rintro ⟨v13,hv_⟩
 replace hv_:=hv_.symm
 subst hv_
 refine A3 _ _ ?_
 refine j5.seqQ fun _ A5 _ _=>?_
 refine kp [(0,_),(1,_),(6,_),(8,_),(9,_),(10,_),(11,_)] [(6,_),(10,_),(11,_),(28,_),(503,_),(1000,_),(1001,_),(1002,_),(1003,_),(1007,_)] ?_
 refine P5 hn (by kernel_rfl) ?_
 obtain ⟨r17,hr18,h⟩:=j4 h
 show l8 Try.prog _ _ _ _
 refine cD (aV7 N a0.w.heap x7 r17 hr18) ?_
 obtain ⟨r19,hr20,h⟩:=j4 h
 show l8 Try.prog _ _ _ _
 refine cA (hgl _ _ _ _ _ hr20) ?_
 refine A5 _ _ ?_
 refine j5.seqQ fun _ A6 _ R6=>?_
 refine kp [(0,_),(1,_),(8,_),(9,_),(10,_),(12,_),(13,_)] [(10,_),(28,_),(503,_),(1000,_),(1001,_),(1002,_),(1003,_),(1007,_)] ?_
 refine j6 hn ?_
 refine p8 hn ?_
 refine l5 h (fun hb21 h=>?_) (fun hb21 h=>?_)
 ·refine j6 hn ?_
  obtain ⟨r22,hr23,h⟩:=j4 h
  show l8 Try.prog _ _ _ _
  refine cA (H5 N (⟨(⟨a0.w.classes,a0.w.heap,a0.w.epoch⟩:Wd),a0.fuel,a0.sends,a0.turns,a0.frames,a0.back,a0.err⟩:l7) (10:Int) r22 hr23) ?_
  refine j5.gh (Gh.reidD 1000 6 1003 504 505 rfl rfl rfl rfl rfl rfl rfl rfl rfl rfl rfl rfl) (fun _=>?_)
  refine got hn ?_
  refine R6 _ _ ?_
  obtain rfl:=Option.some.inj h
  exact ⟨[(4,504),(5,505)],_,fm⟩
 refine p9 hn ?_
 refine A6 _ _ ?_
 refine j5.gh (Gh.detach 1003 506 507 a1 8 rfl rfl (atD hx2) rfl rfl rfl rfl rfl rfl rfl rfl) (fun _=>?_)
 refine kp [(0,_),(1,_),(8,_),(9,_),(10,_),(12,_),(13,_)] [(10,_),(28,_),(506,_),(507,_),(1000,_),(1001,_),(1002,_),(1003,_),(1007,_)] ?_
 refine j6 hn ?_
 refine Q6 hx2 rfl rfl (by decide) rfl ?_
 refine Or.inr ?_
 obtain ⟨hg24,h⟩:=G5 h
 refine bP5 hg24 rfl rfl ?_
 refine aX9 hx2 rfl rfl (by decide) ?_
 refine j5.gh (Gh.attach (l':=List.map u7 (a0.frames.set a1 (⟨x1.class_,x1.method,x1.fast,x1.code,x1.self_,x1.args,x1.temps,(x1.stack.take (wr ((wr ((x1.stack.length:Int) - a2.a)) - (1:Int))).toNat),x1.at_⟩:l6))) 1003 102 508 a1 8 rfl rfl rfl (atD hx2) rfl rfl (aL6 rfl) rfl rfl rfl rfl rfl rfl) (fun _=>?_)
 refine kp [(0,_),(1,_),(9,_),(10,_),(12,_),(13,_)] [(10,_),(28,_),(508,_),(1000,_),(1001,_),(1002,_),(1003,_),(1007,_)] ?_
 refine q8 hn ?_
 obtain ⟨r25,hr26,h⟩:=j4 h
 show l8 Try.prog _ _ _ _
 refine cF ((((aK7 N (⟨(⟨a0.w.classes,a0.w.heap,a0.w.epoch⟩:Wd),a0.fuel,a0.sends,a0.turns,(a0.frames.set a1 (⟨x1.class_,x1.method,x1.fast,x1.code,x1.self_,x1.args,x1.temps,(x1.stack.take (wr ((wr ((x1.stack.length:Int) - a2.a)) - (1:Int))).toNat),x1.at_⟩:l6)),a0.back,a0.err⟩:l7) gq r19.1 r19.2.1 x7 r5 hgq r25 hr26).sw 1005 508).sw 5 509).sw 4 510) ?_
 refine F4.done ?_
 obtain rfl:=Option.some.inj h
 exact ⟨[(4,510),(5,509)],_,fm⟩

/- (*run.machine).jump -/
set_option maxRecDepth 100000 in
set_option maxHeartbeats 8000000 in
theorem aM4 (N:Nat) (a0:l7) (a1:Nat) (a2:Int) {Kl:Nat} {cl_1:List AV} {Kq:Nat} (r:l7) (h:aA3 N a0 a1 a2=some r):Spec Try.prog 102 [(1000,.box [.ptr 1001 0,.fn Kl [.ptr 1007 0,.fp cl_1],.fn Kq [],.int a0.fuel,.int a0.sends,.int a0.turns,.own 1003,.int a0.back.k,.int a0.back.n,.int a0.err] 145),(1003,.deep 10 170 [(7,(2,39)),(8,(2,39))] (List.map u7 a0.frames) [] 1005)] [.ptr 1000 0,.ep 1003 a1 10 0,.int a2] (.tup []) [(1000,.box [.ptr 1001 0,.fn Kl [.ptr 1007 0,.fp cl_1],.fn Kq [],.int r.fuel,.int r.sends,.int r.turns,.own 1003,.int r.back.k,.int r.back.n,.int r.err] 145),(1003,.deep 10 170 [(7,(2,39)),(8,(2,39))] (List.map u7 r.frames) [] 5),(5,.gone)] [5]:=by
 refine Spec.of z8 Try.func102 rfl Try.ntmps102 (by kernel_rfl) rfl rfl rfl fun Γ hn=>?_
 unfold aA3 at h
 refine j5.snoc ?_
 refine j5.seqQ fun _ A0 _ _=>?_
 refine j6 hn ?_
 obtain ⟨x1,hx2,h⟩:=j4 h
 refine Y8 hx2 ?_
 obtain ⟨o10,h9,h⟩:=j4 h
 refine jk (ι:={ s // o10=s }) hn (fun s=>[]) (fun s=>[(1000,.box [.ptr 1001 0,.fn Kl [.ptr 1007 0,.fp cl_1],.fn Kq [],.int s.1.1,.int s.1.2.1,.int s.1.2.2.1,.own 1003,.int s.1.2.2.2.1,.int s.1.2.2.2.2.1,.int s.1.2.2.2.2.2] 145)]) [(0,_),(1,_),(2,_)] [(1003,_)] (fun _ A1 _ _=>?_) ?_
 ·refine p8 hn ?_
  refine l5 h9 (fun hb11 h9=>?_) (fun hb11 h9=>?_)
  ·refine j6 hn ?_
   refine Or.inr ?_
   refine j6 hn ?_
   obtain ⟨o19,h18,h9⟩:=j4 h9
   refine jk (ι:={ s // o19=s }) hn (fun s=>[]) (fun s=>[(1000,.box [.ptr 1001 0,.fn Kl [.ptr 1007 0,.fp cl_1],.fn Kq [],.int s.1.1,.int s.1.2.1,.int s.1.2.2.1,.own 1003,.int s.1.2.2.2.1,.int s.1.2.2.2.2.1,.int s.1.2.2.2.2.2] 145)]) [(0,_),(1,_),(2,_)] [(1003,_)] (fun _ A2 _ _=>?_) ?_
   ·refine p8 hn ?_
    refine l5 h18 (fun hb20 h18=>?_) (fun hb20 h18=>?_)
    ·refine kp [(0,_),(1,_),(2,_)] [(1000,_),(1003,_)] ?_
     refine q8 hn ?_
     obtain ⟨r21,hr22,h18⟩:=j4 h18
     show l8 Try.prog _ _ _ _
     refine cA (H5 N (⟨(⟨a0.w.classes,a0.w.heap,a0.w.epoch⟩:Wd),a0.fuel,a0.sends,(wr (a0.turns+(1:Int))),a0.frames,a0.back,a0.err⟩:l7) (16:Int) r21 hr22) ?_
     refine A2 _ _ ?_
     exact jn ⟨_,sj h18⟩ []
    refine p9 hn ?_
    refine A2 _ _ ?_
    exact jn ⟨_,sj h18⟩ []
   rintro ⟨⟨v12,v13,v14,v15,v16,v17⟩,rfl⟩
   refine A1 _ _ ?_
   exact jn ⟨_,sj h9⟩ []
  refine p9 hn ?_
  refine A1 _ _ ?_
  exact jn ⟨_,sj h9⟩ []
 rintro ⟨⟨v3,v4,v5,v6,v7,v8⟩,rfl⟩
 refine A0 _ _ ?_
 refine q8 hn ?_
 refine stD hx2 rfl rfl rfl ?_
 refine Exists.intro (List.map u7 (a0.frames.set a1 (⟨x1.class_,x1.method,x1.fast,x1.code,x1.self_,x1.args,x1.temps,x1.stack,a2⟩:l6))) (And.intro (aL6 rfl) ?_)
 refine F4.gh (Gh.resh 1003 501 rfl rfl rfl rfl) (fun _=>?_)
 refine F4.done ?_
 obtain rfl:=Option.some.inj h
 exact ⟨[(5,501)],_,fm⟩

/- (*run.frame).pop -/
set_option maxRecDepth 100000 in
set_option maxHeartbeats 8000000 in
theorem aJ9 (N:Nat) (fr:(List l6)) (a0:Nat) (r:(V×(List l6))) (h:U0 N fr a0=some r):Spec Try.prog 103 [(1003,.deep 10 170 [(7,(2,39)),(8,(2,39))] (List.map u7 fr) [] 1005)] [.ep 1003 a0 10 0] (.agg (eV r.1)) [(1003,.deep 10 170 [(7,(2,39)),(8,(2,39))] (List.map u7 r.2) [] 5),(5,.gone)] [5]:=by
 refine Spec.of z8 Try.func103 rfl Try.ntmps103 (by kernel_rfl) rfl rfl rfl fun Γ hn=>?_
 unfold U0 at h
 refine j6 hn ?_
 refine j5.seqQ fun _ A0 _ _=>?_
 obtain ⟨x1,hx2,h⟩:=j4 h
 refine j5.gh (Gh.detach 1003 501 502 a0 8 rfl rfl (atD hx2) rfl rfl rfl rfl rfl rfl rfl rfl) (fun _=>?_)
 refine kp [(0,_),(2,_)] [(2,_),(501,_),(502,_),(1003,_)] ?_
 refine P5 hn (by kernel_rfl) ?_
 refine Q6 hx2 rfl rfl (by decide) rfl ?_
 refine Q6 hx2 rfl rfl (by decide) rfl ?_
 refine D5 (fun _=>?_)
 refine Or.inr ?_
 obtain ⟨x4,hx5,h⟩:=j4 h
 refine aE6 hx5 ?_
 refine Y8 (C8 hx5).2 ?_
 refine A0 _ _ ?_
 refine j5.seqQ fun _ A1 _ _=>?_
 refine P5 hn (by kernel_rfl) ?_
 refine Q6 hx2 rfl rfl (by decide) rfl ?_
 refine Q6 hx2 rfl rfl (by decide) rfl ?_
 refine D5 (fun _=>?_)
 refine Or.inr ?_
 obtain ⟨hg7,h⟩:=G5 h
 refine bP5 hg7 rfl rfl ?_
 refine aX9 hx2 rfl rfl (by decide) ?_
 refine A1 _ _ ?_
 refine j5.gh (Gh.attach (l':=List.map u7 (fr.set a0 (⟨x1.class_,x1.method,x1.fast,x1.code,x1.self_,x1.args,x1.temps,(x1.stack.take (wr ((x1.stack.length:Int) - (1:Int))).toNat),x1.at_⟩:l6))) 1003 27 503 a0 8 rfl rfl rfl (atD hx2) rfl rfl (aL6 rfl) rfl rfl rfl rfl rfl rfl) (fun _=>?_)
 refine kp [(0,_),(2,_),(3,_)] [(2,_),(3,_),(503,_),(1003,_)] ?_
 refine j6 hn ?_
 refine got hn ?_
 obtain rfl:=Option.some.inj h
 exact ⟨[(5,503)],_,fm⟩

/- (*run.machine).guard -/
set_option maxRecDepth 100000 in
set_option maxHeartbeats 8000000 in
theorem aZ6 (N:Nat) (a0:l7) (a1:Nat) (a2:Ins) {Kl:Nat} {cl_1:List AV} {Kq:Nat} (r:l7) (h:aC9 N a0 a1 a2=some r):Spec Try.prog 104 [(1000,.box [.ptr 1001 0,.fn Kl [.ptr 1007 0,.fp cl_1],.fn Kq [],.int a0.fuel,.int a0.sends,.int a0.turns,.own 1003,.int a0.back.k,.int a0.back.n,.int a0.err] 145),(1001,.box [.sl 4 (List.map O8 a0.w.classes),.own 1002,.int a0.w.epoch] 37),(1002,.deep 2 97 [(1,(2,39))] (List.map L6 a0.w.heap) [] 1004),(1003,.deep 10 170 [(7,(2,39)),(8,(2,39))] (List.map u7 a0.frames) [] 1005)] [.ptr 1000 0,.ep 1003 a1 10 0,.agg (aO2 a2)] (.tup []) [(1000,.box [.ptr 1001 0,.fn Kl [.ptr 1007 0,.fp cl_1],.fn Kq [],.int r.fuel,.int r.sends,.int r.turns,.own 1003,.int r.back.k,.int r.back.n,.int r.err] 145),(1001,.box [.sl 4 (List.map O8 a0.w.classes),.own 1002,.int a0.w.epoch] 37),(1002,.deep 2 97 [(1,(2,39))] (List.map L6 a0.w.heap) [] 1004),(1003,.deep 10 170 [(7,(2,39)),(8,(2,39))] (List.map u7 r.frames) [] 5),(5,.gone)] [5]:=by
 refine Spec.of z8 Try.func104 rfl Try.ntmps104 (by kernel_rfl) rfl rfl rfl fun Γ hn=>?_
 unfold aC9 at h
 refine j5.snoc ?_
 refine j6 hn ?_
 refine j5.seqQ fun _ A0 _ R0=>?_
 refine j5.seqQ fun _ A1 _ _=>?_
 obtain ⟨x1,hx2,h⟩:=j4 h
 refine j5.gh (Gh.detach 1003 501 502 a1 8 rfl rfl (atD hx2) rfl rfl rfl rfl rfl rfl rfl rfl) (fun _=>?_)
 refine kp [(0,_),(1,_),(5,_)] [(5,_),(501,_),(502,_),(1000,_),(1001,_),(1002,_),(1003,_)] ?_
 refine P5 hn (by kernel_rfl) ?_
 refine Q6 hx2 rfl rfl (by decide) rfl ?_
 refine Q6 hx2 rfl rfl (by decide) rfl ?_
 refine D5 (fun _=>?_)
 refine Or.inr ?_
 refine Or.inr ?_
 obtain ⟨x4,hx5,h⟩:=j4 h
 refine aE6 hx5 ?_
 refine Y8 (C8 hx5).2 ?_
 obtain ⟨r6,hr7,h⟩:=j4 h
 show l8 Try.prog _ _ _ _
 refine cD (aV7 N a0.w.heap x4 r6 hr7) ?_
 refine A1 _ _ ?_
 refine p8 hn ?_
 refine l5 h (fun hb8 h=>?_) (fun hb8 h=>?_)
 ·refine j5.gh (Gh.attach (l':=List.map u7 a0.frames) 1003 501 503 a1 8 rfl rfl rfl (atD hx2) rfl rfl (aW4 hx2 rfl) rfl rfl rfl rfl rfl rfl) (fun _=>?_)
  refine got hn ?_
  refine R0 _ _ ?_
  obtain rfl:=Option.some.inj h
  exact ⟨[(5,503)],_,fm⟩
 refine p9 hn ?_
 refine A0 _ _ ?_
 refine j5.seqQ fun _ A2 _ _=>?_
 refine j5.gh (Gh.attach (l':=List.map u7 a0.frames) 1003 501 504 a1 8 rfl rfl rfl (atD hx2) rfl rfl (aW4 hx2 rfl) rfl rfl rfl rfl rfl rfl) (fun _=>?_)
 refine kp [(0,_),(1,_),(5,_)] [(5,_),(504,_),(1000,_),(1001,_),(1002,_),(1003,_)] ?_
 refine P5 hn (by kernel_rfl) ?_
 refine Y8 hx2 ?_
 obtain ⟨x9,hx10,h⟩:=j4 h
 refine V5 hx10 ?_
 refine Y8 hx2 ?_
 obtain ⟨x11,hx12,h⟩:=j4 h
 refine V5 hx12 ?_
 refine A2 _ _ ?_
 refine j5.gh (Gh.detach 1003 505 506 a1 7 rfl rfl (atD hx2) rfl rfl rfl rfl rfl rfl rfl rfl) (fun _=>?_)
 refine kp [(0,_),(1,_),(5,_),(6,_)] [(5,_),(505,_),(506,_),(1000,_),(1001,_),(1002,_),(1003,_)] ?_
 refine P5 hn (by kernel_rfl) ?_
 refine Q6 hx2 rfl rfl (by decide) rfl ?_
 obtain ⟨hg13,h⟩:=G5 h
 refine bP5 hg13 rfl rfl ?_
 refine stD hx2 rfl rfl rfl ?_
 refine Exists.intro (List.map u7 (a0.frames.set a1 (⟨x1.class_,x1.method,false,x1.code,x1.self_,x1.args,x1.temps,x1.stack,x1.at_⟩:l6))) (And.intro (aL6 rfl) ?_)
 refine stD (setAt hx2) rfl rfl rfl ?_
 refine Exists.intro (List.map u7 ((a0.frames.set a1 (⟨x1.class_,x1.method,false,x1.code,x1.self_,x1.args,x1.temps,x1.stack,x1.at_⟩:l6)).set a1 (⟨x1.class_,x1.method,false,x11.code,x1.self_,x1.args,x1.temps,x1.stack,x1.at_⟩:l6))) (And.intro (aL6 rfl) ?_)
 refine aX9 (setAt (setAt hx2)) rfl rfl (by decide) ?_
 refine stD (setAt (setAt hx2)) rfl rfl rfl ?_
 refine Exists.intro (List.map u7 (((a0.frames.set a1 (⟨x1.class_,x1.method,false,x1.code,x1.self_,x1.args,x1.temps,x1.stack,x1.at_⟩:l6)).set a1 (⟨x1.class_,x1.method,false,x11.code,x1.self_,x1.args,x1.temps,x1.stack,x1.at_⟩:l6)).set a1 (⟨x1.class_,x1.method,false,x11.code,x1.self_,x1.args,x1.temps,x1.stack,a2.c⟩:l6))) (And.intro (aL6 rfl) ?_)
 refine F4.gh (Gh.attach (l':=List.map u7 ((((a0.frames.set a1 (⟨x1.class_,x1.method,false,x1.code,x1.self_,x1.args,x1.temps,x1.stack,x1.at_⟩:l6)).set a1 (⟨x1.class_,x1.method,false,x11.code,x1.self_,x1.args,x1.temps,x1.stack,x1.at_⟩:l6)).set a1 (⟨x1.class_,x1.method,false,x11.code,x1.self_,x1.args,x1.temps,x1.stack,a2.c⟩:l6)).set a1 (⟨x1.class_,x1.method,false,x11.code,x1.self_,x1.args,(x1.temps.take x11.temps.toNat),x1.stack,a2.c⟩:l6))) 1003 68 507 a1 7 rfl rfl rfl (atD (setAt (setAt (setAt hx2)))) rfl rfl (aL6 rfl) rfl rfl rfl rfl rfl rfl) (fun _=>?_)
 refine F4.done ?_
 obtain rfl:=Option.some.inj h
 exact ⟨[(5,507)],_,fm⟩

/- (*run.machine).move$1 -/
set_option maxRecDepth 100000 in
set_option maxHeartbeats 8000000 in
theorem N8 (N:Nat) (a0:V) (fr:(List l6)) (b0:Nat) (r:(List l6)) (h:I9 N a0 fr b0=some r):Spec Try.prog 124 [(1016,.box [.ep 1019 b0 10 0] 172),(1019,.deep 10 170 [(7,(2,39)),(8,(2,39))] (List.map u7 fr) [] 1021)] [.agg (eV a0),.ptr 1016 0] (.tup []) [(1016,.box [.ep 1019 b0 10 0] 172),(1019,.deep 10 170 [(7,(2,39)),(8,(2,39))] (List.map u7 r) [] 21),(21,.gone)] [21]:=by
 refine Spec.of z8 Try.func124 rfl Try.ntmps124 (by kernel_rfl) rfl rfl rfl fun Γ hn=>?_
 unfold I9 at h
 refine j5.snoc ?_
 refine j6 hn ?_
 obtain ⟨x1,hx2,h⟩:=j4 h
 refine j5.gh (Gh.detach 1019 501 502 b0 8 rfl rfl (atD hx2) rfl rfl rfl rfl rfl rfl rfl rfl) (fun _=>?_)
 refine kp [(1,_),(2,_)] [(2,_),(501,_),(502,_),(1016,_),(1019,_)] ?_
 refine P5 hn (by kernel_rfl) ?_
 refine Q6 hx2 rfl rfl (by decide) rfl ?_
 refine Exists.intro (List.map eV [a0]) (And.intro (by repeat (first|exact trivial|exact rfl|(refine And.intro ?_ ?_))) ?_)
 obtain ⟨hg3,h⟩:=G5 h
 refine aJ7 (l2:=[a0]) hg3 (D8 _) ?_
 refine aX9 hx2 rfl rfl (by decide) ?_
 refine F4.gh (Gh.attach (l':=List.map u7 (fr.set b0 (⟨x1.class_,x1.method,x1.fast,x1.code,x1.self_,x1.args,x1.temps,(x1.stack++[a0]),x1.at_⟩:l6))) 1019 10 503 b0 8 rfl rfl rfl (atD hx2) rfl rfl (aL6 rfl) rfl rfl rfl rfl rfl rfl) (fun _=>?_)
 refine F4.done ?_
 obtain rfl:=Option.some.inj h
 exact ⟨[(21,503)],_,fm⟩

/- (*run.machine).move$1 -/
set_option maxRecDepth 100000 in
set_option maxHeartbeats 8000000 in
theorem aP6 (N:Nat) (a0:V) (fr:(List l6)) (b0:Nat) (r:(List l6)) (h:U1 N a0 fr b0=some r):Spec Try.prog 124 [(1016,.box [.ep 1019 b0 10 0] 172),(1019,.deep 10 170 [(7,(2,39)),(8,(2,39))] (List.map u7 fr) [(b0,7,1022)] 1021)] [.agg (eV a0),.ptr 1016 0] (.tup []) [(1016,.box [.ep 1019 b0 10 0] 172),(1019,.deep 10 170 [(7,(2,39)),(8,(2,39))] (List.map u7 r) [(b0,7,1022)] 21),(21,.gone)] [21]:=by
 refine Spec.of z8 Try.func124 rfl Try.ntmps124 (by kernel_rfl) rfl rfl rfl fun Γ hn=>?_
 unfold U1 at h
 refine j5.snoc ?_
 refine j6 hn ?_
 obtain ⟨x1,hx2,h⟩:=j4 h
 refine j5.gh (Gh.detach 1019 501 502 b0 8 rfl rfl (atD hx2) rfl rfl rfl rfl rfl rfl rfl rfl) (fun _=>?_)
 refine kp [(1,_),(2,_)] [(2,_),(501,_),(502,_),(1016,_),(1019,_)] ?_
 refine P5 hn (by kernel_rfl) ?_
 refine Q6 hx2 rfl rfl (by decide) rfl ?_
 refine Exists.intro (List.map eV [a0]) (And.intro (by repeat (first|exact trivial|exact rfl|(refine And.intro ?_ ?_))) ?_)
 obtain ⟨hg3,h⟩:=G5 h
 refine aJ7 (l2:=[a0]) hg3 (D8 _) ?_
 refine aX9 hx2 rfl rfl (by decide) ?_
 refine F4.gh (Gh.attach (l':=List.map u7 (fr.set b0 (⟨x1.class_,x1.method,x1.fast,x1.code,x1.self_,x1.args,x1.temps,(x1.stack++[a0]),x1.at_⟩:l6))) 1019 10 503 b0 8 rfl rfl rfl (atD hx2) rfl rfl (aL6 rfl) rfl rfl rfl rfl rfl rfl) (fun _=>?_)
 refine F4.done ?_
 obtain rfl:=Option.some.inj h
 exact ⟨[(21,503)],_,fm⟩

/- value.Slot -/
set_option maxRecDepth 100000 in
set_option maxHeartbeats 8000000 in
theorem bK1 (N:Nat) (a0:(List Ob)) (a1:V) (a2:Int) (r:V) (h:aO5 N a0 a1 a2=some r):Spec Try.prog 125 [] [.sl 2 (List.map L6 a0),.agg (eV a1),.int a2] (.agg (eV r)) [] []:=by
 refine Spec.of z8 Try.func125 rfl Try.ntmps125 (by kernel_rfl) rfl rfl rfl fun Γ hn=>?_
 unfold aO5 at h
 refine j6 hn ?_
 refine j5.seqQ fun _ A0 _ R0=>?_
 refine j5.seqQ fun _ A1 _ _=>?_
 obtain ⟨o3,h2,h⟩:=j4 h
 refine jk (ι:={ s // o3=s }) hn (fun s=>[(36,.bool s.1)]) (fun s=>[]) [(0,_),(2,_),(4,_),(6,_)] [(4,_),(6,_)] (fun _ A2 _ _=>?_) ?_
 ·refine q8 hn ?_
  refine l5 h2 (fun hb4 h2=>?_) (fun hb4 h2=>?_)
  ·refine j3 hb4 ?_
   refine j3 hb4 ?_
   refine j3 hb4 ?_
   refine A2 _ _ ?_
   exact jn ⟨_,sj h2⟩ []
  refine d9 hb4 ?_
  refine d9 hb4 ?_
  refine d9 hb4 ?_
  refine l5 h2 (fun hb5 h2=>?_) (fun hb5 h2=>?_)
  ·refine j3 hb5 ?_
   refine j3 hb5 ?_
   refine j3 hb5 ?_
   refine j3 hb5 ?_
   refine j3 hb5 ?_
   refine A2 _ _ ?_
   exact jn ⟨_,sj h2⟩ []
  refine d9 hb5 ?_
  refine d9 hb5 ?_
  refine d9 hb5 ?_
  refine D5 (fun _=>?_)
  refine d9 hb5 ?_
  refine d9 hb5 ?_
  refine l5 h2 (fun hb7 h2=>?_) (fun hb7 h2=>?_)
  ·refine j3 hb7 ?_
   refine j3 hb7 ?_
   refine A2 _ _ ?_
   exact jn ⟨_,sj h2⟩ []
  refine d9 hb7 ?_
  refine d9 hb7 ?_
  refine l5 h2 (fun hb8 h2=>?_) (fun hb8 h2=>?_)
  ·refine j3 hb8 ?_
   refine j3 hb8 ?_
   refine j3 hb8 ?_
   refine j3 hb8 ?_
   refine j3 hb8 ?_
   refine j3 hb8 ?_
   refine j3 hb8 ?_
   refine j3 hb8 ?_
   refine j3 hb8 ?_
   refine A2 _ _ ?_
   exact jn ⟨_,sj h2⟩ []
  refine d9 hb8 ?_
  refine d9 hb8 ?_
  refine d9 hb8 ?_
  refine d9 hb8 ?_
  obtain ⟨x9,hx10,h2⟩:=j4 h2
  refine V5 hx10 ?_
  refine d9 hb8 ?_
  refine d9 hb8 ?_
  refine d9 hb8 ?_
  refine D5 (fun _=>?_)
  refine d9 hb8 ?_
  refine d9 hb8 ?_
  refine A2 _ _ ?_
  exact jn ⟨_,sj h2⟩ []
 rintro ⟨v1,hv_⟩
 replace hv_:=hv_.symm
 subst hv_
 refine A1 _ _ ?_
 refine p8 hn ?_
 refine l5 h (fun hb12 h=>?_) (fun hb12 h=>?_)
 ·refine j6 hn ?_
  refine got hn ?_
  refine R0 _ _ ?_
  obtain rfl:=Option.some.inj h
  exact ⟨[],_,fm⟩
 refine p9 hn ?_
 refine A0 _ _ ?_
 refine j6 hn ?_
 obtain ⟨x13,hx14,h⟩:=j4 h
 refine V5 hx14 ?_
 obtain ⟨x15,hx16,h⟩:=j4 h
 refine V5 hx16 ?_
 refine got hn ?_
 obtain rfl:=Option.some.inj h
 exact ⟨[],_,fm⟩

/- (*run.machine).move$1 -/
set_option maxRecDepth 100000 in
set_option maxHeartbeats 8000000 in
theorem bB4 (N:Nat) (a0:V) (sk:(List V)) (fr:(List l6)) (b0:Nat) (r:(List V)) (h:Y5 N a0 sk fr b0=some r):Spec Try.prog 124 [(1016,.box [.ep 1019 b0 10 0] 172),(1019,.deep 10 170 [(7,(2,39)),(8,(2,39))] (List.map u7 fr) [(b0,8,1022)] 1021),(1022,.row 2 (List.map eV sk) 39)] [.agg (eV a0),.ptr 1016 0] (.tup []) [(1016,.box [.ep 1019 b0 10 0] 172),(1019,.deep 10 170 [(7,(2,39)),(8,(2,39))] (List.map u7 fr) [(b0,8,22)] 1021),(22,.row 2 (List.map eV r) 39),(1022,.gone)] [22]:=by
 refine Spec.of z8 Try.func124 rfl Try.ntmps124 (by kernel_rfl) rfl rfl rfl fun Γ hn=>?_
 unfold Y5 at h
 refine j5.snoc ?_
 refine j6 hn ?_
 refine P5 hn (by kernel_rfl) ?_
 obtain ⟨x1,hx2,h⟩:=j4 h
 refine Q6 hx2 rfl rfl (by decide) rfl ?_
 refine Exists.intro (List.map eV [a0]) (And.intro (by repeat (first|exact trivial|exact rfl|(refine And.intro ?_ ?_))) ?_)
 obtain ⟨hg3,h⟩:=G5 h
 refine aJ7 (l2:=[a0]) hg3 (D8 _) ?_
 refine aX9 hx2 rfl rfl (by decide) ?_
 refine F4.done ?_
 obtain rfl:=Option.some.inj h
 exact ⟨[(22,10)],_,fm⟩

/- (*run.frame).pop -/
set_option maxRecDepth 100000 in
set_option maxHeartbeats 8000000 in
theorem aY3 (N:Nat) (fr:(List l6)) (a0:Nat) (r:(V×(List l6))) (h:aC3 N fr a0=some r):Spec Try.prog 103 [(1003,.deep 10 170 [(7,(2,39)),(8,(2,39))] (List.map u7 fr) [(a0,7,1006)] 1005)] [.ep 1003 a0 10 0] (.agg (eV r.1)) [(1003,.deep 10 170 [(7,(2,39)),(8,(2,39))] (List.map u7 r.2) [(a0,7,1006)] 5),(5,.gone)] [5]:=by
 refine Spec.of z8 Try.func103 rfl Try.ntmps103 (by kernel_rfl) rfl rfl rfl fun Γ hn=>?_
 unfold aC3 at h
 refine j6 hn ?_
 refine j5.seqQ fun _ A0 _ _=>?_
 obtain ⟨x1,hx2,h⟩:=j4 h
 refine j5.gh (Gh.detach 1003 501 502 a0 8 rfl rfl (atD hx2) rfl rfl rfl rfl rfl rfl rfl rfl) (fun _=>?_)
 refine kp [(0,_),(2,_)] [(2,_),(501,_),(502,_),(1003,_)] ?_
 refine P5 hn (by kernel_rfl) ?_
 refine Q6 hx2 rfl rfl (by decide) rfl ?_
 refine Q6 hx2 rfl rfl (by decide) rfl ?_
 refine D5 (fun _=>?_)
 refine Or.inr ?_
 obtain ⟨x4,hx5,h⟩:=j4 h
 refine aE6 hx5 ?_
 refine Y8 (C8 hx5).2 ?_
 refine A0 _ _ ?_
 refine j5.seqQ fun _ A1 _ _=>?_
 refine P5 hn (by kernel_rfl) ?_
 refine Q6 hx2 rfl rfl (by decide) rfl ?_
 refine Q6 hx2 rfl rfl (by decide) rfl ?_
 refine D5 (fun _=>?_)
 refine Or.inr ?_
 obtain ⟨hg7,h⟩:=G5 h
 refine bP5 hg7 rfl rfl ?_
 refine aX9 hx2 rfl rfl (by decide) ?_
 refine A1 _ _ ?_
 refine j5.gh (Gh.attach (l':=List.map u7 (fr.set a0 (⟨x1.class_,x1.method,x1.fast,x1.code,x1.self_,x1.args,x1.temps,(x1.stack.take (wr ((x1.stack.length:Int) - (1:Int))).toNat),x1.at_⟩:l6))) 1003 27 503 a0 8 rfl rfl rfl (atD hx2) rfl rfl (aL6 rfl) rfl rfl rfl rfl rfl rfl) (fun _=>?_)
 refine kp [(0,_),(2,_),(3,_)] [(2,_),(3,_),(503,_),(1003,_)] ?_
 refine j6 hn ?_
 refine got hn ?_
 obtain rfl:=Option.some.inj h
 exact ⟨[(5,503)],_,fm⟩

/- (*run.machine).put -/
set_option maxRecDepth 100000 in
set_option maxHeartbeats 8000000 in
theorem aN6 (N:Nat) (a0:l7) (a1:V) (a2:Int) (a3:V) {Kl:Nat} {cl_1:List AV} {Kq:Nat} (r:l7) (h:aC0 N a0 a1 a2 a3=some r):Spec Try.prog 126 [(1000,.box [.ptr 1001 0,.fn Kl [.ptr 1007 0,.fp cl_1],.fn Kq [],.int a0.fuel,.int a0.sends,.int a0.turns,.own 1003,.int a0.back.k,.int a0.back.n,.int a0.err] 145),(1001,.box [.sl 4 (List.map O8 a0.w.classes),.own 1002,.int a0.w.epoch] 37),(1002,.deep 2 97 [(1,(2,39))] (List.map L6 a0.w.heap) [] 1004)] [.ptr 1000 0,.agg (eV a1),.int a2,.agg (eV a3)] (.tup []) [(1000,.box [.ptr 1001 0,.fn Kl [.ptr 1007 0,.fp cl_1],.fn Kq [],.int r.fuel,.int r.sends,.int r.turns,.own 1003,.int r.back.k,.int r.back.n,.int r.err] 145),(1001,.box [.sl 4 (List.map O8 a0.w.classes),.own 1002,.int a0.w.epoch] 37),(1002,.deep 2 97 [(1,(2,39))] (List.map L6 r.w.heap) [] 3),(3,.gone)] [3]:=by
 refine Spec.of z8 Try.func126 rfl Try.ntmps126 (by kernel_rfl) rfl rfl rfl fun Γ hn=>?_
 unfold aC0 at h
 refine j5.snoc ?_
 refine j6 hn ?_
 refine j5.seqQ fun _ A0 _ _=>?_
 obtain ⟨o3,h2,h⟩:=j4 h
 refine jk (ι:={ s // o3=s }) hn (fun s=>[(40,.bool s.1)]) (fun s=>[(501,.gone),(1002,.deep 2 97 [(1,(2,39))] (List.map L6 a0.w.heap) [] 501)]) [(0,_),(2,_),(5,_),(7,_)] [(5,_),(7,_),(1000,_),(1001,_)] (fun _ A1 _ _=>?_) ?_
 ·rcases dA4 h2 with ⟨hx5,h2⟩|⟨x4,hx5,h2⟩
  ·refine kp [(0,_),(2,_),(5,_),(7,_)] [(5,_),(7,_),(1000,_),(1001,_),(1002,_)] ?_
   refine P5 hn (by kernel_rfl) ?_
   refine l5 h2 (fun hb6 h2=>?_) (fun hb6 h2=>?_)
   ·refine j3 hb6 ?_
    refine j3 hb6 ?_
    refine j3 hb6 ?_
    refine j3 hb6 ?_
    refine j3 hb6 ?_
    refine j3 hb6 ?_
    refine j3 hb6 ?_
    refine j3 hb6 ?_
    refine j3 hb6 ?_
    refine D5 (fun _=>?_)
    refine j3 hb6 ?_
    refine j3 hb6 ?_
    refine l5 h2 (fun hb8 h2=>?_) (fun hb8 h2=>?_)
    ·refine j3 hb8 ?_
     refine j3 hb8 ?_
     refine j3 hb8 ?_
     refine j3 hb8 ?_
     refine j3 hb8 ?_
     refine j3 hb8 ?_
     refine j3 hb8 ?_
     refine j3 hb8 ?_
     refine j3 hb8 ?_
     refine j3 hb8 ?_
     cases h2
    refine d9 hb8 ?_
    refine d9 hb8 ?_
    refine d9 hb8 ?_
    refine d9 hb8 ?_
    refine d9 hb8 ?_
    refine d9 hb8 ?_
    refine d9 hb8 ?_
    refine d9 hb8 ?_
    refine d9 hb8 ?_
    refine d9 hb8 ?_
    refine d9 hb8 ?_
    refine d9 hb8 ?_
    refine d9 hb8 ?_
    refine d9 hb8 ?_
    refine d9 hb8 ?_
    refine A1 _ _ ?_
    refine F4.gh (Gh.resh 1002 501 rfl rfl rfl rfl) (fun _=>?_)
    exact jn ⟨_,sj h2⟩ []
   refine d9 hb6 ?_
   refine d9 hb6 ?_
   refine d9 hb6 ?_
   refine d9 hb6 ?_
   refine d9 hb6 ?_
   refine d9 hb6 ?_
   refine d9 hb6 ?_
   refine d9 hb6 ?_
   refine d9 hb6 ?_
   refine d9 hb6 ?_
   refine d9 hb6 ?_
   refine A1 _ _ ?_
   refine F4.gh (Gh.resh 1002 502 rfl rfl rfl rfl) (fun _=>?_)
   exact jn ⟨_,sj h2⟩ [(501,502)]
  refine j5.gh (Gh.detach 1002 503 504 a1.n.toNat 1 rfl rfl (atD hx5) rfl rfl rfl rfl rfl rfl rfl rfl) (fun _=>?_)
  refine kp [(0,_),(2,_),(5,_),(7,_)] [(5,_),(7,_),(503,_),(504,_),(1000,_),(1001,_),(1002,_)] ?_
  refine P5 hn (by kernel_rfl) ?_
  refine l5 h2 (fun hb9 h2=>?_) (fun hb9 h2=>?_)
  ·refine j3 hb9 ?_
   refine j3 hb9 ?_
   refine j3 hb9 ?_
   refine j3 hb9 ?_
   refine j3 hb9 ?_
   refine j3 hb9 ?_
   refine j3 hb9 ?_
   refine j3 hb9 ?_
   refine j3 hb9 ?_
   refine D5 (fun _=>?_)
   refine j3 hb9 ?_
   refine j3 hb9 ?_
   refine l5 h2 (fun hb11 h2=>?_) (fun hb11 h2=>?_)
   ·refine j3 hb11 ?_
    refine j3 hb11 ?_
    refine j3 hb11 ?_
    refine j3 hb11 ?_
    refine j3 hb11 ?_
    refine j3 hb11 ?_
    refine j3 hb11 ?_
    refine j3 hb11 ?_
    refine j3 hb11 ?_
    refine j3 hb11 ?_
    obtain ⟨x12,hx13,h2⟩:=j4 h2
    refine ixD hx13 rfl rfl ?_
    refine j3 hb11 ?_
    refine j3 hb11 ?_
    refine Q6 hx5 rfl rfl (by decide) rfl ?_
    refine j3 hb11 ?_
    refine D5 (fun _=>?_)
    refine j3 hb11 ?_
    refine j3 hb11 ?_
    refine A1 _ _ ?_
    refine F4.gh (Gh.attach (l':=List.map L6 a0.w.heap) 1002 503 505 a1.n.toNat 1 rfl rfl rfl (atD hx5) rfl rfl (aW4 hx5 rfl) rfl rfl rfl rfl rfl rfl) (fun _=>?_)
    exact jn ⟨_,sj h2⟩ [(501,505)]
   refine d9 hb11 ?_
   refine d9 hb11 ?_
   refine d9 hb11 ?_
   refine d9 hb11 ?_
   refine d9 hb11 ?_
   refine d9 hb11 ?_
   refine d9 hb11 ?_
   refine d9 hb11 ?_
   refine d9 hb11 ?_
   refine d9 hb11 ?_
   refine d9 hb11 ?_
   refine d9 hb11 ?_
   refine d9 hb11 ?_
   refine d9 hb11 ?_
   refine d9 hb11 ?_
   refine A1 _ _ ?_
   refine F4.gh (Gh.attach (l':=List.map L6 a0.w.heap) 1002 503 506 a1.n.toNat 1 rfl rfl rfl (atD hx5) rfl rfl (aW4 hx5 rfl) rfl rfl rfl rfl rfl rfl) (fun _=>?_)
   exact jn ⟨_,sj h2⟩ [(501,506)]
  refine d9 hb9 ?_
  refine d9 hb9 ?_
  refine d9 hb9 ?_
  refine d9 hb9 ?_
  refine d9 hb9 ?_
  refine d9 hb9 ?_
  refine d9 hb9 ?_
  refine d9 hb9 ?_
  refine d9 hb9 ?_
  refine d9 hb9 ?_
  refine d9 hb9 ?_
  refine A1 _ _ ?_
  refine F4.gh (Gh.attach (l':=List.map L6 a0.w.heap) 1002 503 507 a1.n.toNat 1 rfl rfl rfl (atD hx5) rfl rfl (aW4 hx5 rfl) rfl rfl rfl rfl rfl rfl) (fun _=>?_)
  exact jn ⟨_,sj h2⟩ [(501,507)]
 rintro ⟨v1,hv_⟩
 replace hv_:=hv_.symm
 subst hv_
 refine A0 _ _ ?_
 obtain ⟨o17,h16,h⟩:=j4 h
 refine jk (ι:={ s // o17=s }) hn (fun s=>[]) (fun s=>[(508,.gone),(1002,.deep 2 97 [(1,(2,39))] (List.map L6 s.1) [] 508)]) [(0,_)] [(1000,_),(1001,_)] (fun _ A2 _ _=>?_) ?_
 ·refine p8 hn ?_
  refine l5 h16 (fun hb18 h16=>?_) (fun hb18 h16=>?_)
  ·rcases dA4 h16 with ⟨hx20,h16⟩|⟨x19,hx20,h16⟩
   ·refine P5 hn (by kernel_rfl) ?_
    cases h16
   refine j5.gh (Gh.detach 1002 508 509 a1.n.toNat 1 rfl rfl (atD hx20) rfl rfl rfl rfl rfl rfl rfl rfl) (fun _=>?_)
   refine kp [(0,_),(2,_),(5,_),(7,_)] [(5,_),(7,_),(508,_),(509,_),(1000,_),(1001,_),(1002,_)] ?_
   refine P5 hn (by kernel_rfl) ?_
   obtain ⟨x21,hx22,h16⟩:=j4 h16
   refine ixD hx22 rfl rfl ?_
   refine Q6 hx20 rfl rfl (by decide) rfl ?_
   obtain ⟨x23,hx24,h16⟩:=j4 h16
   refine aE6 hx24 ?_
   refine Y8 (C8 hx24).2 ?_
   refine Exists.intro (List.map eV (x19.slots.set a2.toNat a3)) (And.intro (aV8 (C8 hx24).2 (by repeat (first|exact trivial|exact rfl|(refine And.intro ?_ ?_)))) ?_)
   refine A2 _ _ ?_
   refine F4.gh (Gh.attach (l':=List.map L6 (a0.w.heap.set a1.n.toNat (⟨x19.cls,(x19.slots.set a2.toNat a3)⟩:Ob))) 1002 508 510 a1.n.toNat 1 rfl rfl rfl (atD hx20) rfl rfl (aL6 rfl) rfl rfl rfl rfl rfl rfl) (fun _=>?_)
   exact jn ⟨_,sj h16⟩ [(508,510)]
  refine p9 hn ?_
  refine A2 _ _ ?_
  exact jn ⟨_,sj h16⟩ [(508,501)]
 rintro ⟨v15,hv_⟩
 replace hv_:=hv_.symm
 subst hv_
 refine F4.done ?_
 obtain rfl:=Option.some.inj h
 exact ⟨[(3,508)],_,fm⟩

/- class.Slots -/
set_option maxRecDepth 100000 in
set_option maxHeartbeats 8000000 in
theorem bY5 (N:Nat) (a0:Wd) (a1:Int) (r:Int) (h:aL3 N a0 a1=some r):Spec Try.prog 28 [] [.agg (eWd a0),.int a1] (.int r) [] []:=by
 refine Spec.of z8 Try.func28 rfl Try.ntmps28 (by kernel_rfl) rfl rfl rfl fun Γ hn=>?_
 unfold aL3 at h
 refine j6 hn ?_
 refine j6 hn ?_
 refine j5.seqQ fun _ A0 _ _=>?_
 refine j6 hn ?_
 obtain ⟨o9,h10,h⟩:=j4 h
 refine jk (ι:={ s // o9=s }) hn (fun s=>[(5,.int s.1)]) (fun s=>[]) [] [] (fun _ A1 _ _=>?_) ?_
 ·refine j5.blkQ fun _ _ E2 _ _=>?_
  refine lq (ι:={ q:(Nat×Int×Int×Int) // aA2 N a0 q.1 q.2.1 q.2.2.1 q.2.2.2=some o9 }) hn (fun q=>[(1,.int q.1.2.1),(5,.int q.1.2.2.1),(6,.int q.1.2.2.2)]) (fun q=>[]) (fun q=>q.1.1) [(2,_)] [(2,_)] ⟨(N,a1,(0:Int),(0:Int)),h10⟩ [] ?_
  rintro ⟨⟨n_,v2,v3,v4⟩,h10⟩ _ A3 X3 _
  rcases n_ with _|n13
  ·rw [aA2.eq_1] at h10
   cases h10
  ·replace h10:=(aA2.eq_2 _ _ _ _ _ _).symm.trans h10
   refine j5.seqQ fun _ A4 X4 _=>?_
   refine j5.seqQ fun _ A5 _ _=>?_
   obtain ⟨o16,h15,h10⟩:=j4 h10
   refine jk (ι:={ s // o16=s }) hn (fun s=>[(22,.bool s.1)]) (fun s=>[]) [(1,_),(2,_),(5,_),(6,_)] [(2,_)] (fun _ A6 _ _=>?_) ?_
   ·refine q8 hn ?_
    refine l5 h15 (fun hb17 h15=>?_) (fun hb17 h15=>?_)
    ·refine j3 hb17 ?_
     refine j3 hb17 ?_
     refine j3 hb17 ?_
     refine D5 (fun _=>?_)
     refine j3 hb17 ?_
     refine j3 hb17 ?_
     refine l5 h15 (fun hb19 h15=>?_) (fun hb19 h15=>?_)
     ·refine j3 hb19 ?_
      refine j3 hb19 ?_
      refine j3 hb19 ?_
      refine D5 (fun _=>?_)
      refine j3 hb19 ?_
      refine j3 hb19 ?_
      refine A6 _ _ ?_
      exact jn ⟨_,sj h15⟩ []
     refine d9 hb19 ?_
     refine d9 hb19 ?_
     refine d9 hb19 ?_
     refine d9 hb19 ?_
     refine d9 hb19 ?_
     refine A6 _ _ ?_
     exact jn ⟨_,sj h15⟩ []
    refine d9 hb17 ?_
    refine d9 hb17 ?_
    refine d9 hb17 ?_
    refine d9 hb17 ?_
    refine d9 hb17 ?_
    refine A6 _ _ ?_
    exact jn ⟨_,sj h15⟩ []
   rintro ⟨v14,hv_⟩
   replace hv_:=hv_.symm
   subst hv_
   refine A5 _ _ ?_
   refine p8 hn ?_
   refine l5 h10 (fun hb21 h10=>?_) (fun hb21 h10=>?_)
   ·refine p9 hn ?_
    refine A4 _ _ ?_
    refine j5.seqQ fun _ A7 _ _=>?_
    refine j5.blkQ fun _ A8 _ _ _=>?_
    refine j6 hn ?_
    obtain ⟨x22,hx23,h10⟩:=j4 h10
    refine V5 hx23 ?_
    refine Or.inr ?_
    refine q8 hn ?_
    obtain ⟨x24,hx25,h10⟩:=j4 h10
    refine V5 hx25 ?_
    refine A8 _ _ ?_
    refine A7 _ _ ?_
    refine kp [(1,_),(2,_),(5,_),(6,_)] [(2,_)] ?_
    refine q8 hn ?_
    refine Or.inr ?_
    refine A3 _ _ ?_
    exact jn ⟨(n13,x24.super,(wr (v3+x22.slots)),(wr (v4+(1:Int)))),h10⟩ [] (by show n13 < n13+1; omega)
   refine F6 hn ?_
   refine X4 _ _ _ ?_
   refine X3 _ _ _ ?_
   refine E2 _ _ ?_
   refine A1 _ _ ?_
   exact jn ⟨_,sj h10⟩ []
 rintro ⟨v8,hv_⟩
 replace hv_:=hv_.symm
 subst hv_
 refine A0 _ _ ?_
 refine j6 hn ?_
 refine got hn ?_
 obtain rfl:=Option.some.inj h
 exact ⟨[],_,fm⟩

/- value.New -/
set_option maxRecDepth 100000 in
set_option maxHeartbeats 8000000 in
theorem cA2 (N:Nat) (a0:(List Ob)) (a1:Int) (a2:Int) (r:((List Ob)×V×Int)) (h:aY9 N a0 a1 a2=some r):Spec Try.prog 127 [] [.sl 2 (List.map L6 a0),.int a1,.int a2] (.tup [.own 0,.agg (eV r.2.1),.int r.2.2]) [(0,.deep 2 97 [(1,(2,39))] (List.map L6 r.1) [] 1),(1,.gone)] [0,1]:=by
 refine Spec.of z8 Try.func127 rfl Try.ntmps127 (by kernel_rfl) rfl rfl rfl fun Γ hn=>?_
 unfold aY9 at h
 refine j6 hn ?_
 refine j5.seqQ fun _ A0 _ R0=>?_
 refine j6 hn ?_
 refine D5 (fun _=>?_)
 refine p8 hn ?_
 refine l5 h (fun hb2 h=>?_) (fun hb2 h=>?_)
 ·refine j6 hn ?_
  refine j5.nilrow 6 206 2 97 rfl rfl rfl ?_
  refine j5.gh (Gh.toDeep 206 501 [(1,(2,39))] rfl rfl rfl rfl) (fun _=>?_)
  refine got hn ?_
  refine R0 _ _ ?_
  obtain rfl:=Option.some.inj h
  exact ⟨[(0,206),(1,501)],_,fm⟩
 refine p9 hn ?_
 refine A0 _ _ ?_
 refine j5.seqQ fun _ A1 _ _=>?_
 refine P5 hn (by kernel_rfl) ?_
 obtain ⟨r3,hr4,h⟩:=j4 h
 show l8 Try.prog _ _ _ _
 refine cA (((bN2 N a0 r3 hr4).sw 0 14).sw 1 714) ?_
 obtain ⟨hg5,h⟩:=G5 h
 refine mkM (enc:=eV) (x:=(⟨(0:Int),(0:Int)⟩:V)) hg5 (by repeat (first|exact trivial|exact rfl|(refine And.intro ?_ ?_))) ?_
 refine Or.inl ?_
 refine Exists.intro [(1,(2,39))] (Exists.intro (L6 (⟨a1,(List.replicate (max a2 (0:Int)).toNat (⟨(0:Int),(0:Int)⟩:V))⟩:Ob)) (Exists.intro [(18,.row 2 (List.map eV (List.replicate (max a2 (0:Int)).toNat (⟨(0:Int),(0:Int)⟩:V))) 39)] (And.intro rfl (And.intro rfl (And.intro rfl (And.intro (by decide) (And.intro (by decide) (And.intro rfl (And.intro rfl ?_)))))))))
 obtain ⟨hg6,h⟩:=G5 h
 refine cV9 (l2:=[(⟨a1,(List.replicate (max a2 (0:Int)).toNat (⟨(0:Int),(0:Int)⟩:V))⟩:Ob)]) hg6 rfl rfl rfl rfl rfl (by decide) (by decide) ?_
 refine D5 (fun _=>?_)
 refine A1 _ _ ?_
 refine got hn ?_
 obtain rfl:=Option.some.inj h
 exact ⟨[(0,21),(1,721)],_,fm⟩

/- (*run.machine).move -/
set_option maxRecDepth 100000 in
set_option maxHeartbeats 8000000 in
theorem a14 (N:Nat) (a0:l7) (a1:Nat) (a2:Ins) {Kl:Nat} {cl_1:List AV} {Kq:Nat} (r:l7) (h:aF2 N a0 a1 a2=some r):Spec Try.prog 105 [(1000,.box [.ptr 1001 0,.fn Kl [.ptr 1007 0,.fp cl_1],.fn Kq [],.int a0.fuel,.int a0.sends,.int a0.turns,.own 1003,.int a0.back.k,.int a0.back.n,.int a0.err] 145),(1001,.box [.sl 4 (List.map O8 a0.w.classes),.own 1002,.int a0.w.epoch] 37),(1002,.deep 2 97 [(1,(2,39))] (List.map L6 a0.w.heap) [] 1004),(1003,.deep 10 170 [(7,(2,39)),(8,(2,39))] (List.map u7 a0.frames) [] 1005)] [.ptr 1000 0,.ep 1003 a1 10 0,.agg (aO2 a2)] (.tup []) [(1000,.box [.ptr 1001 0,.fn Kl [.ptr 1007 0,.fp cl_1],.fn Kq [],.int r.fuel,.int r.sends,.int r.turns,.own 1003,.int r.back.k,.int r.back.n,.int r.err] 145),(1001,.box [.sl 4 (List.map O8 r.w.classes),.own 2,.int r.w.epoch] 37),(2,.deep 2 97 [(1,(2,39))] (List.map L6 r.w.heap) [] 3),(3,.gone),(1002,.gone),(1003,.deep 10 170 [(7,(2,39)),(8,(2,39))] (List.map u7 r.frames) [] 5),(5,.gone)] [3,2,5]:=by
 refine Spec.of z8 Try.func105 rfl Try.ntmps105 (by kernel_rfl) rfl rfl rfl fun Γ hn=>?_
 unfold aF2 at h
 refine j5.snoc ?_
 refine j6 hn ?_
 refine j6 hn ?_
 refine j6 hn ?_
 obtain ⟨o10,h9,h⟩:=j4 h
 refine jk (ι:={ s // o10=D9.next s }) hn (fun s=>[]) (fun s=>[(186,.deep 2 97 [(1,(2,39))] (List.map L6 s.1.1) [] 518),(501,.gone),(518,.gone),(1000,.box [.ptr 1001 0,.fn Kl [.ptr 1007 0,.fp cl_1],.fn Kq [],.int s.1.2.1,.int s.1.2.2.1,.int s.1.2.2.2.1,.own 1003,.int s.1.2.2.2.2.2.1,.int s.1.2.2.2.2.2.2.1,.int s.1.2.2.2.2.2.2.2] 145),(1001,.box [.sl 4 (List.map O8 a0.w.classes),.own 186,.int a0.w.epoch] 37),(1002,.gone),(1003,.deep 10 170 [(7,(2,39)),(8,(2,39))] (List.map u7 s.1.2.2.2.2.1) [] 501)]) [(0,_),(1,_)] [] (fun _ A0 _ R0=>?_) ?_
 ·refine j5.blkQ fun _ A1 _ _ R1=>?_
  refine j6 hn ?_
  obtain ⟨o20,h19,h9⟩:=j4 h9
  refine jk (ι:={ s // o20=D9.next s }) hn (fun s=>[]) (fun s=>[(186,.deep 2 97 [(1,(2,39))] (List.map L6 s.1.1) [] 518),(501,.gone),(518,.gone),(1000,.box [.ptr 1001 0,.fn Kl [.ptr 1007 0,.fp cl_1],.fn Kq [],.int s.1.2.1,.int s.1.2.2.1,.int s.1.2.2.2.1,.own 1003,.int s.1.2.2.2.2.2.1,.int s.1.2.2.2.2.2.2.1,.int s.1.2.2.2.2.2.2.2] 145),(1001,.box [.sl 4 (List.map O8 a0.w.classes),.own 186,.int a0.w.epoch] 37),(1002,.gone),(1003,.deep 10 170 [(7,(2,39)),(8,(2,39))] (List.map u7 s.1.2.2.2.2.1) [] 501)]) [(0,_),(1,_)] [] (fun _ A2 _ R2=>?_) ?_
  ·refine p8 hn ?_
   refine l5 h19 (fun hb21 h19=>?_) (fun hb21 h19=>?_)
   ·refine q8 hn ?_
    obtain ⟨x22,hx23,h19⟩:=j4 h19
    refine Y8 hx23 ?_
    obtain ⟨r24,hr25,h19⟩:=j4 h19
    show l8 Try.prog _ _ _ _
    refine cA ((N8 N x22.self_ a0.frames a1 r24 hr25).swl [(1016,4),(1019,1003),(1021,1005),(21,501)] rfl) ?_
    refine A2 _ _ ?_
    refine F4.gh (Gh.reidD 1001 1 1002 502 503 rfl rfl rfl rfl rfl rfl rfl rfl rfl rfl rfl rfl) (fun _=>?_)
    exact jn ⟨_,sj h19⟩ [(186,502),(518,503)]
   refine j6 hn ?_
   obtain ⟨o35,h34,h19⟩:=j4 h19
   refine jk (ι:={ s // o35=D9.next s }) hn (fun s=>[]) (fun s=>[(186,.deep 2 97 [(1,(2,39))] (List.map L6 s.1.1) [] 520),(504,.gone),(520,.gone),(1000,.box [.ptr 1001 0,.fn Kl [.ptr 1007 0,.fp cl_1],.fn Kq [],.int s.1.2.1,.int s.1.2.2.1,.int s.1.2.2.2.1,.own 1003,.int s.1.2.2.2.2.2.1,.int s.1.2.2.2.2.2.2.1,.int s.1.2.2.2.2.2.2.2] 145),(1001,.box [.sl 4 (List.map O8 a0.w.classes),.own 186,.int a0.w.epoch] 37),(1002,.gone),(1003,.deep 10 170 [(7,(2,39)),(8,(2,39))] (List.map u7 s.1.2.2.2.2.1) [] 504)]) [(0,_),(1,_)] [] (fun _ A3 _ R3=>?_) ?_
   ·refine p8 hn ?_
    refine l5 h34 (fun hb36 h34=>?_) (fun hb36 h34=>?_)
    ·refine P5 hn (by kernel_rfl) ?_
     obtain ⟨x37,hx38,h34⟩:=j4 h34
     refine Y8 hx38 ?_
     obtain ⟨x39,hx40,h34⟩:=j4 h34
     refine V5 hx40 ?_
     obtain ⟨r41,hr42,h34⟩:=j4 h34
     show l8 Try.prog _ _ _ _
     refine cA ((N8 N x39 a0.frames a1 r41 hr42).swl [(1016,4),(1019,1003),(1021,1005),(21,504)] rfl) ?_
     refine A3 _ _ ?_
     refine F4.gh (Gh.reidD 1001 1 1002 505 506 rfl rfl rfl rfl rfl rfl rfl rfl rfl rfl rfl rfl) (fun _=>?_)
     exact jn ⟨_,sj h34⟩ [(186,505),(520,506)]
    refine j6 hn ?_
    obtain ⟨o52,h51,h34⟩:=j4 h34
    refine jk (ι:={ s // o52=D9.next s }) hn (fun s=>[]) (fun s=>[(186,.deep 2 97 [(1,(2,39))] (List.map L6 s.1.1) [] 522),(507,.gone),(522,.gone),(1000,.box [.ptr 1001 0,.fn Kl [.ptr 1007 0,.fp cl_1],.fn Kq [],.int s.1.2.1,.int s.1.2.2.1,.int s.1.2.2.2.1,.own 1003,.int s.1.2.2.2.2.2.1,.int s.1.2.2.2.2.2.2.1,.int s.1.2.2.2.2.2.2.2] 145),(1001,.box [.sl 4 (List.map O8 a0.w.classes),.own 186,.int a0.w.epoch] 37),(1002,.gone),(1003,.deep 10 170 [(7,(2,39)),(8,(2,39))] (List.map u7 s.1.2.2.2.2.1) [] 507)]) [(0,_),(1,_)] [] (fun _ A4 _ R4=>?_) ?_
    ·refine p8 hn ?_
     refine l5 h51 (fun hb53 h51=>?_) (fun hb53 h51=>?_)
     ·obtain ⟨x54,hx55,h51⟩:=j4 h51
      refine j5.gh (Gh.detach 1003 507 508 a1 7 rfl rfl (atD hx55) rfl rfl rfl rfl rfl rfl rfl rfl) (fun _=>?_)
      refine kp [(0,_),(1,_),(4,_),(5,_),(6,_)] [(4,_),(5,_),(507,_),(508,_),(1000,_),(1001,_),(1002,_),(1003,_)] ?_
      refine P5 hn (by kernel_rfl) ?_
      refine Q6 hx55 rfl rfl (by decide) rfl ?_
      obtain ⟨x56,hx57,h51⟩:=j4 h51
      refine aE6 hx57 ?_
      refine Y8 (C8 hx57).2 ?_
      obtain ⟨r58,hr59,h51⟩:=j4 h51
      show l8 Try.prog _ _ _ _
      refine cA ((aP6 N x56 a0.frames a1 r58 hr59).swl [(1022,507),(1016,4),(1019,1003),(1021,508),(21,509)] rfl) ?_
      obtain ⟨x60,hx61,h51⟩:=j4 h51
      refine A4 _ _ ?_
      refine F4.gh (Gh.attach (l':=List.map u7 (r58.set a1 (⟨x60.class_,x60.method,x60.fast,x60.code,x60.self_,x60.args,x54.temps,x60.stack,x60.at_⟩:l6))) 1003 507 510 a1 7 rfl rfl rfl (atD hx61) rfl rfl (aL6 rfl) rfl rfl rfl rfl rfl rfl) (fun _=>?_)
      refine F4.gh (Gh.reidD 1001 1 1002 511 512 rfl rfl rfl rfl rfl rfl rfl rfl rfl rfl rfl rfl) (fun _=>?_)
      exact jn ⟨_,sj h51⟩ [(186,511),(522,512),(507,510)]
     refine j6 hn ?_
     obtain ⟨o71,h70,h51⟩:=j4 h51
     refine jk (ι:={ s // o71=D9.next s }) hn (fun s=>[]) (fun s=>[(186,.deep 2 97 [(1,(2,39))] (List.map L6 s.1.1) [] 525),(513,.gone),(525,.gone),(1000,.box [.ptr 1001 0,.fn Kl [.ptr 1007 0,.fp cl_1],.fn Kq [],.int s.1.2.1,.int s.1.2.2.1,.int s.1.2.2.2.1,.own 1003,.int s.1.2.2.2.2.2.1,.int s.1.2.2.2.2.2.2.1,.int s.1.2.2.2.2.2.2.2] 145),(1001,.box [.sl 4 (List.map O8 a0.w.classes),.own 186,.int a0.w.epoch] 37),(1002,.gone),(1003,.deep 10 170 [(7,(2,39)),(8,(2,39))] (List.map u7 s.1.2.2.2.2.1) [] 513)]) [(0,_),(1,_)] [] (fun _ A5 _ R5=>?_) ?_
     ·refine p8 hn ?_
      refine l5 h70 (fun hb72 h70=>?_) (fun hb72 h70=>?_)
      ·refine kp [(0,_),(1,_),(4,_),(5,_),(6,_)] [(4,_),(5,_),(1000,_),(1001,_),(1002,_),(1003,_)] ?_
       refine P5 hn (by kernel_rfl) ?_
       obtain ⟨x73,hx74,h70⟩:=j4 h70
       refine Y8 hx74 ?_
       obtain ⟨r75,hr76,h70⟩:=j4 h70
       show l8 Try.prog _ _ _ _
       refine cD (bK1 N a0.w.heap x73.self_ a2.a r75 hr76) ?_
       obtain ⟨r77,hr78,h70⟩:=j4 h70
       show l8 Try.prog _ _ _ _
       refine cA ((N8 N r75 a0.frames a1 r77 hr78).swl [(1016,4),(1019,1003),(1021,1005),(21,513)] rfl) ?_
       refine A5 _ _ ?_
       refine F4.gh (Gh.reidD 1001 1 1002 514 515 rfl rfl rfl rfl rfl rfl rfl rfl rfl rfl rfl rfl) (fun _=>?_)
       exact jn ⟨_,sj h70⟩ [(186,514),(525,515)]
      refine kp [(0,_),(1,_),(4,_),(5,_),(6,_),(12,_)] [(4,_),(5,_),(1000,_),(1001,_),(1002,_),(1003,_)] ?_
      refine j6 hn ?_
      obtain ⟨o88,h87,h70⟩:=j4 h70
      refine jk (ι:={ s // o88=D9.next s }) hn (fun s=>[]) (fun s=>[(186,.deep 2 97 [(1,(2,39))] (List.map L6 s.1.1) [] 527),(516,.gone),(527,.gone),(1000,.box [.ptr 1001 0,.fn Kl [.ptr 1007 0,.fp cl_1],.fn Kq [],.int s.1.2.1,.int s.1.2.2.1,.int s.1.2.2.2.1,.own 1003,.int s.1.2.2.2.2.2.1,.int s.1.2.2.2.2.2.2.1,.int s.1.2.2.2.2.2.2.2] 145),(1001,.box [.sl 4 (List.map O8 a0.w.classes),.own 186,.int a0.w.epoch] 37),(1002,.gone),(1003,.deep 10 170 [(7,(2,39)),(8,(2,39))] (List.map u7 s.1.2.2.2.2.1) [] 516)]) [(0,_),(1,_)] [] (fun _ A6 _ R6=>?_) ?_
      ·refine p8 hn ?_
       refine l5 h87 (fun hb89 h87=>?_) (fun hb89 h87=>?_)
       ·refine q8 hn ?_
        obtain ⟨r90,hr91,h87⟩:=j4 h87
        show l8 Try.prog _ _ _ _
        refine cA ((N8 N (⟨(3:Int),a2.a⟩:V) a0.frames a1 r90 hr91).swl [(1016,4),(1019,1003),(1021,1005),(21,516)] rfl) ?_
        refine A6 _ _ ?_
        refine F4.gh (Gh.reidD 1001 1 1002 517 518 rfl rfl rfl rfl rfl rfl rfl rfl rfl rfl rfl rfl) (fun _=>?_)
        exact jn ⟨_,sj h87⟩ [(186,517),(527,518)]
       refine j6 hn ?_
       obtain ⟨o101,h100,h87⟩:=j4 h87
       refine jk (ι:={ s // o101=D9.next s }) hn (fun s=>[]) (fun s=>[(186,.deep 2 97 [(1,(2,39))] (List.map L6 s.1.1) [] 529),(519,.gone),(529,.gone),(1000,.box [.ptr 1001 0,.fn Kl [.ptr 1007 0,.fp cl_1],.fn Kq [],.int s.1.2.1,.int s.1.2.2.1,.int s.1.2.2.2.1,.own 1003,.int s.1.2.2.2.2.2.1,.int s.1.2.2.2.2.2.2.1,.int s.1.2.2.2.2.2.2.2] 145),(1001,.box [.sl 4 (List.map O8 a0.w.classes),.own 186,.int a0.w.epoch] 37),(1002,.gone),(1003,.deep 10 170 [(7,(2,39)),(8,(2,39))] (List.map u7 s.1.2.2.2.2.1) [] 519)]) [(0,_),(1,_)] [] (fun _ A7 _ R7=>?_) ?_
       ·refine p8 hn ?_
        refine l5 h100 (fun hb102 h100=>?_) (fun hb102 h100=>?_)
        ·refine q8 hn ?_
         obtain ⟨r103,hr104,h100⟩:=j4 h100
         show l8 Try.prog _ _ _ _
         refine cA ((N8 N (⟨(0:Int),(0:Int)⟩:V) a0.frames a1 r103 hr104).swl [(1016,4),(1019,1003),(1021,1005),(21,519)] rfl) ?_
         refine A7 _ _ ?_
         refine F4.gh (Gh.reidD 1001 1 1002 520 521 rfl rfl rfl rfl rfl rfl rfl rfl rfl rfl rfl rfl) (fun _=>?_)
         exact jn ⟨_,sj h100⟩ [(186,520),(529,521)]
        refine j5.seqQ fun _ A8 _ _=>?_
        refine j6 hn ?_
        obtain ⟨o107,h106,h100⟩:=j4 h100
        refine jk (ι:={ s // o107=s }) hn (fun s=>[(75,.bool s.1)]) (fun s=>[]) [(0,_),(1,_),(4,_),(5,_),(6,_),(12,_)] [(4,_),(5,_),(1000,_),(1001,_),(1002,_),(1003,_)] (fun _ A9 _ _=>?_) ?_
        ·refine p8 hn ?_
         refine l5 h106 (fun hb108 h106=>?_) (fun hb108 h106=>?_)
         ·refine p9 hn ?_
          refine A9 _ _ ?_
          exact jn ⟨_,sj h106⟩ []
         refine q8 hn ?_
         refine A9 _ _ ?_
         exact jn ⟨_,sj h106⟩ []
        rintro ⟨v105,hv_⟩
        replace hv_:=hv_.symm
        subst hv_
        refine A8 _ _ ?_
        obtain ⟨o118,h117,h100⟩:=j4 h100
        refine jk (ι:={ s // o118=D9.next s }) hn (fun s=>[]) (fun s=>[(186,.deep 2 97 [(1,(2,39))] (List.map L6 s.1.1) [] 531),(522,.gone),(531,.gone),(1000,.box [.ptr 1001 0,.fn Kl [.ptr 1007 0,.fp cl_1],.fn Kq [],.int s.1.2.1,.int s.1.2.2.1,.int s.1.2.2.2.1,.own 1003,.int s.1.2.2.2.2.2.1,.int s.1.2.2.2.2.2.2.1,.int s.1.2.2.2.2.2.2.2] 145),(1001,.box [.sl 4 (List.map O8 a0.w.classes),.own 186,.int a0.w.epoch] 37),(1002,.gone),(1003,.deep 10 170 [(7,(2,39)),(8,(2,39))] (List.map u7 s.1.2.2.2.2.1) [] 522)]) [(0,_),(1,_)] [] (fun _ A10 _ R10=>?_) ?_
        ·refine p8 hn ?_
         refine l5 h117 (fun hb119 h117=>?_) (fun hb119 h117=>?_)
         ·refine q8 hn ?_
          obtain ⟨r120,hr121,h117⟩:=j4 h117
          show l8 Try.prog _ _ _ _
          refine cA (aZ5 N (decide (a2.op=(8:Int))) r120 hr121) ?_
          obtain ⟨r122,hr123,h117⟩:=j4 h117
          show l8 Try.prog _ _ _ _
          refine cA ((N8 N r120 a0.frames a1 r122 hr123).swl [(1016,4),(1019,1003),(1021,1005),(21,522)] rfl) ?_
          refine A10 _ _ ?_
          refine F4.gh (Gh.reidD 1001 1 1002 523 524 rfl rfl rfl rfl rfl rfl rfl rfl rfl rfl rfl rfl) (fun _=>?_)
          exact jn ⟨_,sj h117⟩ [(186,523),(531,524)]
         refine j6 hn ?_
         obtain ⟨o133,h132,h117⟩:=j4 h117
         refine jk (ι:={ s // o133=D9.next s }) hn (fun s=>[]) (fun s=>[(186,.deep 2 97 [(1,(2,39))] (List.map L6 s.1.1) [] 533),(525,.gone),(533,.gone),(1000,.box [.ptr 1001 0,.fn Kl [.ptr 1007 0,.fp cl_1],.fn Kq [],.int s.1.2.1,.int s.1.2.2.1,.int s.1.2.2.2.1,.own 1003,.int s.1.2.2.2.2.2.1,.int s.1.2.2.2.2.2.2.1,.int s.1.2.2.2.2.2.2.2] 145),(1001,.box [.sl 4 (List.map O8 a0.w.classes),.own 186,.int a0.w.epoch] 37),(1002,.gone),(1003,.deep 10 170 [(7,(2,39)),(8,(2,39))] (List.map u7 s.1.2.2.2.2.1) [] 525)]) [(0,_),(1,_)] [] (fun _ A11 _ R11=>?_) ?_
         ·refine p8 hn ?_
          refine l5 h132 (fun hb134 h132=>?_) (fun hb134 h132=>?_)
          ·refine q8 hn ?_
           obtain ⟨r135,hr136,h132⟩:=j4 h132
           show l8 Try.prog _ _ _ _
           refine cA ((aJ9 N a0.frames a1 r135 hr136).sw 5 525) ?_
           refine A11 _ _ ?_
           refine F4.gh (Gh.reidD 1001 1 1002 526 527 rfl rfl rfl rfl rfl rfl rfl rfl rfl rfl rfl rfl) (fun _=>?_)
           exact jn ⟨_,sj h132⟩ [(186,526),(533,527)]
          refine j6 hn ?_
          obtain ⟨o146,h145,h132⟩:=j4 h132
          refine jk (ι:={ s // o146=D9.next s }) hn (fun s=>[]) (fun s=>[(186,.deep 2 97 [(1,(2,39))] (List.map L6 s.1.1) [] 535),(528,.gone),(535,.gone),(1000,.box [.ptr 1001 0,.fn Kl [.ptr 1007 0,.fp cl_1],.fn Kq [],.int s.1.2.1,.int s.1.2.2.1,.int s.1.2.2.2.1,.own 1003,.int s.1.2.2.2.2.2.1,.int s.1.2.2.2.2.2.2.1,.int s.1.2.2.2.2.2.2.2] 145),(1001,.box [.sl 4 (List.map O8 a0.w.classes),.own 186,.int a0.w.epoch] 37),(1002,.gone),(1003,.deep 10 170 [(7,(2,39)),(8,(2,39))] (List.map u7 s.1.2.2.2.2.1) [] 528)]) [(0,_),(1,_)] [] (fun _ A12 _ R12=>?_) ?_
          ·refine p8 hn ?_
           refine l5 h145 (fun hb147 h145=>?_) (fun hb147 h145=>?_)
           ·obtain ⟨x148,hx149,h145⟩:=j4 h145
            refine j5.gh (Gh.detach 1003 528 529 a1 8 rfl rfl (atD hx149) rfl rfl rfl rfl rfl rfl rfl rfl) (fun _=>?_)
            refine kp [(0,_),(1,_),(4,_),(6,_)] [(4,_),(528,_),(529,_),(1000,_),(1001,_),(1002,_),(1003,_)] ?_
            refine P5 hn (by kernel_rfl) ?_
            refine Q6 hx149 rfl rfl (by decide) rfl ?_
            refine Q6 hx149 rfl rfl (by decide) rfl ?_
            refine D5 (fun _=>?_)
            refine Or.inr ?_
            obtain ⟨x151,hx152,h145⟩:=j4 h145
            refine aE6 hx152 ?_
            refine Y8 (C8 hx152).2 ?_
            obtain ⟨r153,hr154,h145⟩:=j4 h145
            show l8 Try.prog _ _ _ _
            refine cA ((bB4 N x151 x148.stack a0.frames a1 r153 hr154).swl [(1022,528),(1016,4),(1019,1003),(1021,529),(22,530)] rfl) ?_
            refine A12 _ _ ?_
            refine F4.gh (Gh.attach (l':=List.map u7 (a0.frames.set a1 (⟨x148.class_,x148.method,x148.fast,x148.code,x148.self_,x148.args,x148.temps,r153,x148.at_⟩:l6))) 1003 530 531 a1 8 rfl rfl rfl (atD hx149) rfl rfl (aL6 rfl) rfl rfl rfl rfl rfl rfl) (fun _=>?_)
            refine F4.gh (Gh.reidD 1001 1 1002 532 533 rfl rfl rfl rfl rfl rfl rfl rfl rfl rfl rfl rfl) (fun _=>?_)
            exact jn ⟨_,sj h145⟩ [(186,532),(535,533),(528,531)]
           refine j6 hn ?_
           obtain ⟨o164,h163,h145⟩:=j4 h145
           refine jk (ι:={ s // o164=D9.next s }) hn (fun s=>[]) (fun s=>[(186,.deep 2 97 [(1,(2,39))] (List.map L6 s.1.1) [] 538),(534,.gone),(538,.gone),(1000,.box [.ptr 1001 0,.fn Kl [.ptr 1007 0,.fp cl_1],.fn Kq [],.int s.1.2.1,.int s.1.2.2.1,.int s.1.2.2.2.1,.own 1003,.int s.1.2.2.2.2.2.1,.int s.1.2.2.2.2.2.2.1,.int s.1.2.2.2.2.2.2.2] 145),(1001,.box [.sl 4 (List.map O8 a0.w.classes),.own 186,.int a0.w.epoch] 37),(1002,.gone),(1003,.deep 10 170 [(7,(2,39)),(8,(2,39))] (List.map u7 s.1.2.2.2.2.1) [] 534)]) [(0,_),(1,_)] [] (fun _ A13 _ R13=>?_) ?_
           ·refine p8 hn ?_
            refine l5 h163 (fun hb165 h163=>?_) (fun hb165 h163=>?_)
            ·obtain ⟨x166,hx167,h163⟩:=j4 h163
             refine j5.gh (Gh.detach 1003 534 535 a1 7 rfl rfl (atD hx167) rfl rfl rfl rfl rfl rfl rfl rfl) (fun _=>?_)
             refine kp [(0,_),(1,_),(4,_),(5,_)] [(4,_),(5,_),(534,_),(535,_),(1000,_),(1001,_),(1002,_),(1003,_)] ?_
             refine cU9 3 7 hn (by kernel_rfl) ?_
             refine Q6 hx167 rfl rfl (by decide) rfl ?_
             obtain ⟨r168,hr169,h163⟩:=j4 h163
             show l8 Try.prog _ _ _ _
             refine cA ((((aY3 N a0.frames a1 r168 hr169).sw 1005 535).sw 1006 534).sw 5 536) ?_
             obtain ⟨x170,hx171,h163⟩:=j4 h163
             refine And.intro ⟨rfl,⟨rfl,trivial⟩,Q6 hx171 rfl rfl (by decide) rfl ⟨rfl,rfl,rfl,rfl⟩⟩ ?_
             obtain ⟨x172,hx173,h163⟩:=j4 h163
             refine aE6 hx173 ?_
             refine Y8 (C8 hx173).2 ?_
             refine Exists.intro (List.map eV (x166.temps.set a2.a.toNat r168.1)) (And.intro (aV8 (C8 hx173).2 (by repeat (first|exact trivial|exact rfl|(refine And.intro ?_ ?_)))) ?_)
             refine A13 _ _ ?_
             refine F4.gh (Gh.attach (l':=List.map u7 (r168.2.set a1 (⟨x170.class_,x170.method,x170.fast,x170.code,x170.self_,x170.args,(x166.temps.set a2.a.toNat r168.1),x170.stack,x170.at_⟩:l6))) 1003 534 537 a1 7 rfl rfl rfl (atD hx171) rfl rfl (aL6 rfl) rfl rfl rfl rfl rfl rfl) (fun _=>?_)
             refine F4.gh (Gh.reidD 1001 1 1002 538 539 rfl rfl rfl rfl rfl rfl rfl rfl rfl rfl rfl rfl) (fun _=>?_)
             exact jn ⟨_,sj h163⟩ [(186,538),(538,539),(534,537)]
            refine j6 hn ?_
            obtain ⟨o183,h182,h163⟩:=j4 h163
            refine jk (ι:={ s // o183=D9.next s }) hn (fun s=>[]) (fun s=>[(186,.deep 2 97 [(1,(2,39))] (List.map L6 s.1.1) [] 541),(540,.gone),(541,.gone),(1000,.box [.ptr 1001 0,.fn Kl [.ptr 1007 0,.fp cl_1],.fn Kq [],.int s.1.2.1,.int s.1.2.2.1,.int s.1.2.2.2.1,.own 1003,.int s.1.2.2.2.2.2.1,.int s.1.2.2.2.2.2.2.1,.int s.1.2.2.2.2.2.2.2] 145),(1001,.box [.sl 4 (List.map O8 a0.w.classes),.own 186,.int a0.w.epoch] 37),(1002,.gone),(1003,.deep 10 170 [(7,(2,39)),(8,(2,39))] (List.map u7 s.1.2.2.2.2.1) [] 540)]) [(0,_),(1,_)] [] (fun _ A14 _ R14=>?_) ?_
            ·refine p8 hn ?_
             refine l5 h182 (fun hb184 h182=>?_) (fun hb184 h182=>?_)
             ·refine cU9 4 8 hn (by kernel_rfl) ?_
              obtain ⟨x185,hx186,h182⟩:=j4 h182
              refine Y8 hx186 ?_
              obtain ⟨r187,hr188,h182⟩:=j4 h182
              show l8 Try.prog _ _ _ _
              refine cA ((aJ9 N a0.frames a1 r187 hr188).sw 5 540) ?_
              obtain ⟨x189,hx190,h182⟩:=j4 h182
              refine And.intro ⟨rfl,⟨rfl,trivial⟩,Y8 hx190 ⟨congrArg (fun v=>AV.agg (eV v)) (bN1 hr188 hx186 hx190),rfl,rfl,rfl⟩⟩ ?_
              obtain ⟨r191,hr192,h182⟩:=j4 h182
              show l8 Try.prog _ _ _ _
              refine cA ((aN6 N (⟨(⟨a0.w.classes,a0.w.heap,a0.w.epoch⟩:Wd),a0.fuel,a0.sends,a0.turns,r187.2,a0.back,a0.err⟩:l7) x185.self_ a2.a r187.1 r191 hr192).sw 3 541) ?_
              refine A14 _ _ ?_
              refine F4.gh (Gh.reidD 1001 1 1002 542 543 rfl rfl rfl rfl rfl rfl rfl rfl rfl rfl rfl rfl) (fun _=>?_)
              exact jn ⟨_,sj h182⟩ [(186,542),(541,543)]
             refine j6 hn ?_
             obtain ⟨o202,h201,h182⟩:=j4 h182
             refine jk (ι:={ s // o202=D9.next s }) hn (fun s=>[]) (fun s=>[(186,.deep 2 97 [(1,(2,39))] (List.map L6 s.1.1) [] 550),(544,.gone),(550,.gone),(1000,.box [.ptr 1001 0,.fn Kl [.ptr 1007 0,.fp cl_1],.fn Kq [],.int s.1.2.1,.int s.1.2.2.1,.int s.1.2.2.2.1,.own 1003,.int s.1.2.2.2.2.2.1,.int s.1.2.2.2.2.2.2.1,.int s.1.2.2.2.2.2.2.2] 145),(1001,.box [.sl 4 (List.map O8 a0.w.classes),.own 186,.int a0.w.epoch] 37),(1002,.gone),(1003,.deep 10 170 [(7,(2,39)),(8,(2,39))] (List.map u7 s.1.2.2.2.2.1) [] 544)]) [(0,_),(1,_)] [] (fun _ A15 _ R15=>?_) ?_
             ·refine p8 hn ?_
              refine l5 h201 (fun hb203 h201=>?_) (fun hb203 h201=>?_)
              ·obtain ⟨x204,hx205,h201⟩:=j4 h201
               refine j5.gh (Gh.detach 1003 544 545 a1 7 rfl rfl (atD hx205) rfl rfl rfl rfl rfl rfl rfl rfl) (fun _=>?_)
               refine kp [(0,_),(1,_),(4,_),(5,_),(6,_)] [(4,_),(5,_),(544,_),(545,_),(1000,_),(1001,_),(1002,_),(1003,_)] ?_
               refine P5 hn (by kernel_rfl) ?_
               refine Q6 hx205 rfl rfl (by decide) rfl ?_
               obtain ⟨x206,hx207,h201⟩:=j4 h201
               refine aE6 hx207 ?_
               refine Y8 (C8 hx207).2 ?_
               obtain ⟨r208,hr209,h201⟩:=j4 h201
               show l8 Try.prog _ _ _ _
               refine cD (bK1 N a0.w.heap x206 a2.b r208 hr209) ?_
               obtain ⟨r210,hr211,h201⟩:=j4 h201
               show l8 Try.prog _ _ _ _
               refine cA ((aP6 N r208 a0.frames a1 r210 hr211).swl [(1022,544),(1016,4),(1019,1003),(1021,545),(21,546)] rfl) ?_
               obtain ⟨x212,hx213,h201⟩:=j4 h201
               refine A15 _ _ ?_
               refine F4.gh (Gh.attach (l':=List.map u7 (r210.set a1 (⟨x212.class_,x212.method,x212.fast,x212.code,x212.self_,x212.args,x204.temps,x212.stack,x212.at_⟩:l6))) 1003 544 547 a1 7 rfl rfl rfl (atD hx213) rfl rfl (aL6 rfl) rfl rfl rfl rfl rfl rfl) (fun _=>?_)
               refine F4.gh (Gh.reidD 1001 1 1002 548 549 rfl rfl rfl rfl rfl rfl rfl rfl rfl rfl rfl rfl) (fun _=>?_)
               exact jn ⟨_,sj h201⟩ [(186,548),(550,549),(544,547)]
              refine kp [(0,_),(1,_),(4,_),(5,_),(6,_),(12,_)] [(4,_),(5,_),(1000,_),(1001,_),(1002,_),(1003,_)] ?_
              refine j6 hn ?_
              obtain ⟨o223,h222,h201⟩:=j4 h201
              refine jk (ι:={ s // o223=D9.next s }) hn (fun s=>[]) (fun s=>[(186,.deep 2 97 [(1,(2,39))] (List.map L6 s.1.1) [] 553),(550,.gone),(553,.gone),(1000,.box [.ptr 1001 0,.fn Kl [.ptr 1007 0,.fp cl_1],.fn Kq [],.int s.1.2.1,.int s.1.2.2.1,.int s.1.2.2.2.1,.own 1003,.int s.1.2.2.2.2.2.1,.int s.1.2.2.2.2.2.2.1,.int s.1.2.2.2.2.2.2.2] 145),(1001,.box [.sl 4 (List.map O8 a0.w.classes),.own 186,.int a0.w.epoch] 37),(1002,.gone),(1003,.deep 10 170 [(7,(2,39)),(8,(2,39))] (List.map u7 s.1.2.2.2.2.1) [] 550)]) [(0,_),(1,_)] [] (fun _ A16 _ R16=>?_) ?_
              ·refine p8 hn ?_
               refine l5 h222 (fun hb224 h222=>?_) (fun hb224 h222=>?_)
               ·obtain ⟨x225,hx226,h222⟩:=j4 h222
                refine j5.gh (Gh.detach 1003 550 551 a1 7 rfl rfl (atD hx226) rfl rfl rfl rfl rfl rfl rfl rfl) (fun _=>?_)
                refine kp [(0,_),(1,_),(4,_),(5,_)] [(4,_),(5,_),(550,_),(551,_),(1000,_),(1001,_),(1002,_),(1003,_)] ?_
                refine cU9 4 12 hn (by kernel_rfl) ?_
                refine Q6 hx226 rfl rfl (by decide) rfl ?_
                obtain ⟨x227,hx228,h222⟩:=j4 h222
                refine aE6 hx228 ?_
                refine Y8 (C8 hx228).2 ?_
                obtain ⟨r229,hr230,h222⟩:=j4 h222
                show l8 Try.prog _ _ _ _
                refine cA ((((aY3 N a0.frames a1 r229 hr230).sw 1005 551).sw 1006 550).sw 5 552) ?_
                obtain ⟨x231,hx232,h222⟩:=j4 h222
                refine And.intro ⟨rfl,⟨rfl,trivial⟩,Q6 hx232 rfl rfl (by decide) rfl ⟨rfl,rfl,rfl,rfl⟩⟩ ?_
                obtain ⟨r233,hr234,h222⟩:=j4 h222
                show l8 Try.prog _ _ _ _
                refine cA ((aN6 N (⟨(⟨a0.w.classes,a0.w.heap,a0.w.epoch⟩:Wd),a0.fuel,a0.sends,a0.turns,r229.2,a0.back,a0.err⟩:l7) x227 a2.b r229.1 r233 hr234).sw 3 553) ?_
                refine A16 _ _ ?_
                refine F4.gh (Gh.attach (l':=List.map u7 (r229.2.set a1 (⟨x231.class_,x231.method,x231.fast,x231.code,x231.self_,x231.args,x225.temps,x231.stack,x231.at_⟩:l6))) 1003 550 554 a1 7 rfl rfl rfl (atD hx232) rfl rfl (aL6 rfl) rfl rfl rfl rfl rfl rfl) (fun _=>?_)
                refine F4.gh (Gh.reidD 1001 1 1002 555 556 rfl rfl rfl rfl rfl rfl rfl rfl rfl rfl rfl rfl) (fun _=>?_)
                exact jn ⟨_,sj h222⟩ [(186,555),(553,556),(550,554)]
               refine j6 hn ?_
               obtain ⟨o238,h237,h222⟩:=j4 h222
               refine jk (ι:={ s // o238=D9.next s }) hn (fun s=>[]) (fun s=>[(186,.deep 2 97 [(1,(2,39))] (List.map L6 s.1.1) [] 886),(560,.gone),(886,.gone),(1001,.box [.sl 4 (List.map O8 a0.w.classes),.own 186,.int a0.w.epoch] 37),(1002,.gone),(1003,.deep 10 170 [(7,(2,39)),(8,(2,39))] (List.map u7 s.1.2) [] 560)]) [(0,_),(1,_)] [(1000,_)] (fun _ A17 _ R17=>?_) ?_
               ·refine p8 hn ?_
                refine l5 h237 (fun hb239 h237=>?_) (fun hb239 h237=>?_)
                ·refine j5.seqQ fun _ A18 _ _=>?_
                 refine kp [(0,_),(1,_),(5,_),(6,_)] [(4,_),(5,_),(1000,_),(1001,_),(1002,_),(1003,_)] ?_
                 refine P5 hn (by kernel_rfl) ?_
                 obtain ⟨r240,hr241,h237⟩:=j4 h237
                 show l8 Try.prog _ _ _ _
                 refine cD (bY5 N (⟨a0.w.classes,a0.w.heap,a0.w.epoch⟩:Wd) a2.a r240 hr241) ?_
                 obtain ⟨r242,hr243,h237⟩:=j4 h237
                 show l8 Try.prog _ _ _ _
                 refine cDf (((cA2 N a0.w.heap a2.a r240 r242 hr243).sw 0 186).sw 1 886) ⟨c68 _,trivial,trivial⟩ ?_
                 refine A18 _ _ ?_
                 refine j5.seqQ fun _ A19 _ R19=>?_
                 refine kp [(0,_),(1,_),(6,_),(7,_),(8,_),(9,_)] [(4,_),(8,_),(186,_),(886,_),(1000,_),(1001,_),(1002,_),(1003,_)] ?_
                 refine j6 hn ?_
                 refine p8 hn ?_
                 refine l5 h237 (fun hb244 h237=>?_) (fun hb244 h237=>?_)
                 ·refine j6 hn ?_
                  obtain ⟨r245,hr246,h237⟩:=j4 h237
                  show l8 Try.prog _ _ _ _
                  refine cA (H5 N (⟨(⟨a0.w.classes,a0.w.heap,a0.w.epoch⟩:Wd),a0.fuel,a0.sends,a0.turns,a0.frames,a0.back,a0.err⟩:l7) r242.2.2 r245 hr246) ?_
                  refine j5.gh (Gh.reidD 1001 1 1002 557 558 rfl rfl rfl rfl rfl rfl rfl rfl rfl rfl rfl rfl) (fun _=>?_)
                  refine j5.gh (Gh.resh 1003 559 rfl rfl rfl rfl) (fun _=>?_)
                  refine got hn ?_
                  refine R19 _ _ ?_
                  refine R17 _ _ ?_
                  refine R16 _ _ ?_
                  refine R15 _ _ ?_
                  refine R14 _ _ ?_
                  refine R13 _ _ ?_
                  refine R12 _ _ ?_
                  refine R11 _ _ ?_
                  refine R10 _ _ ?_
                  refine R7 _ _ ?_
                  refine R6 _ _ ?_
                  refine R5 _ _ ?_
                  refine R4 _ _ ?_
                  refine R3 _ _ ?_
                  refine R2 _ _ ?_
                  refine R1 _ _ ?_
                  refine R0 _ _ ?_
                  obtain rfl:=Option.some.inj h237
                  obtain rfl:=Option.some.inj h222
                  obtain rfl:=Option.some.inj h201
                  obtain rfl:=Option.some.inj h182
                  obtain rfl:=Option.some.inj h163
                  obtain rfl:=Option.some.inj h145
                  obtain rfl:=Option.some.inj h132
                  obtain rfl:=Option.some.inj h117
                  obtain rfl:=Option.some.inj h100
                  obtain rfl:=Option.some.inj h87
                  obtain rfl:=Option.some.inj h70
                  obtain rfl:=Option.some.inj h51
                  obtain rfl:=Option.some.inj h34
                  obtain rfl:=Option.some.inj h19
                  obtain rfl:=Option.some.inj h9
                  obtain rfl:=Option.some.inj h
                  exact ⟨[(2,557),(3,558),(5,559)],_,fm⟩
                 refine p9 hn ?_
                 refine A19 _ _ ?_
                 refine j6 hn ?_
                 refine q8 hn ?_
                 obtain ⟨r247,hr248,h237⟩:=j4 h237
                 show l8 Try.prog _ _ _ _
                 refine cA ((N8 N r242.2.1 a0.frames a1 r247 hr248).swl [(1016,4),(1019,1003),(1021,1005),(21,560)] rfl) ?_
                 refine A17 _ _ ?_
                 refine F4.gh (Gh.drop 1002 rfl) (fun _=>?_)
                 exact jn ⟨_,sj h237⟩ []
                refine p9 hn ?_
                refine A17 _ _ ?_
                refine F4.gh (Gh.reidD 1001 1 1002 561 562 rfl rfl rfl rfl rfl rfl rfl rfl rfl rfl rfl rfl) (fun _=>?_)
                refine F4.gh (Gh.resh 1003 563 rfl rfl rfl rfl) (fun _=>?_)
                exact jn ⟨_,sj h237⟩ [(186,561),(886,562),(560,563)]
               rintro ⟨⟨v235,v236⟩,rfl⟩
               refine A16 _ _ ?_
               exact jn ⟨_,sj h222⟩ [(553,886),(550,560)]
              rintro ⟨⟨v214,v215,v216,v217,v218,v219,v220,v221⟩,rfl⟩
              refine A15 _ _ ?_
              exact jn ⟨_,sj h201⟩ [(550,553),(544,550)]
             rintro ⟨⟨v193,v194,v195,v196,v197,v198,v199,v200⟩,rfl⟩
             refine A14 _ _ ?_
             exact jn ⟨_,sj h182⟩ [(541,550),(540,544)]
            rintro ⟨⟨v174,v175,v176,v177,v178,v179,v180,v181⟩,rfl⟩
            refine A13 _ _ ?_
            exact jn ⟨_,sj h163⟩ [(538,541),(534,540)]
           rintro ⟨⟨v155,v156,v157,v158,v159,v160,v161,v162⟩,rfl⟩
           refine A12 _ _ ?_
           exact jn ⟨_,sj h145⟩ [(535,538),(528,534)]
          rintro ⟨⟨v137,v138,v139,v140,v141,v142,v143,v144⟩,rfl⟩
          refine A11 _ _ ?_
          exact jn ⟨_,sj h132⟩ [(533,535),(525,528)]
         rintro ⟨⟨v124,v125,v126,v127,v128,v129,v130,v131⟩,rfl⟩
         refine A10 _ _ ?_
         exact jn ⟨_,sj h117⟩ [(531,533),(522,525)]
        rintro ⟨⟨v109,v110,v111,v112,v113,v114,v115,v116⟩,rfl⟩
        refine A7 _ _ ?_
        exact jn ⟨_,sj h100⟩ [(529,531),(519,522)]
       rintro ⟨⟨v92,v93,v94,v95,v96,v97,v98,v99⟩,rfl⟩
       refine A6 _ _ ?_
       exact jn ⟨_,sj h87⟩ [(527,529),(516,519)]
      rintro ⟨⟨v79,v80,v81,v82,v83,v84,v85,v86⟩,rfl⟩
      refine A5 _ _ ?_
      exact jn ⟨_,sj h70⟩ [(525,527),(513,516)]
     rintro ⟨⟨v62,v63,v64,v65,v66,v67,v68,v69⟩,rfl⟩
     refine A4 _ _ ?_
     exact jn ⟨_,sj h51⟩ [(522,525),(507,513)]
    rintro ⟨⟨v43,v44,v45,v46,v47,v48,v49,v50⟩,rfl⟩
    refine A3 _ _ ?_
    exact jn ⟨_,sj h34⟩ [(520,522),(504,507)]
   rintro ⟨⟨v26,v27,v28,v29,v30,v31,v32,v33⟩,rfl⟩
   refine A2 _ _ ?_
   exact jn ⟨_,sj h19⟩ [(518,520),(501,504)]
  rintro ⟨⟨v11,v12,v13,v14,v15,v16,v17,v18⟩,rfl⟩
  refine A1 _ _ ?_
  refine A0 _ _ ?_
  exact jn ⟨_,sj h9⟩ []
 rintro ⟨⟨v1,v2,v3,v4,v5,v6,v7,v8⟩,rfl⟩
 refine F4.done ?_
 obtain rfl:=Option.some.inj h
 exact ⟨[(2,186),(3,518),(5,501)],_,fm⟩

/- (*run.machine).step -/
set_option maxRecDepth 100000 in
set_option maxHeartbeats 8000000 in
theorem a09 (N:Nat) (a0:l7) (gl:St→Int→ByteArray→q9→Option (Int×Int×q9)) (gq:Int→Int→Option (Fs×Bool)) (sb:q9) {Kl:Nat} {cl_1:List AV} (hgl:∀x0_ x1_ x2_ s_ y_,gl x0_ x1_ x2_ s_=some y_→Spec Try.prog Kl [(1007,.box (O7 s_) 50)] [.agg (eSt x0_),.int x1_,.str x2_,.ptr 1007 0,.fp cl_1] (.tup [.int y_.1,.int y_.2.1]) [(1007,.box (O7 y_.2.2) 50)] []) {Kq:Nat} (hgq:∀x0_ x1_ y_,gq x0_ x1_=some y_→Spec Try.prog Kq [] [.int x0_,.int x1_] (.tup [.agg (eFs y_.1),.bool y_.2]) [] []) (r:(q9×l7)) (h:aB4 N a0 gl gq sb=some r):Spec Try.prog 82 [(1000,.box [.ptr 1001 0,.fn Kl [.ptr 1007 0,.fp cl_1],.fn Kq [],.int a0.fuel,.int a0.sends,.int a0.turns,.own 1003,.int a0.back.k,.int a0.back.n,.int a0.err] 145),(1001,.box [.sl 4 (List.map O8 a0.w.classes),.own 1002,.int a0.w.epoch] 37),(1002,.deep 2 97 [(1,(2,39))] (List.map L6 a0.w.heap) [] 1004),(1003,.deep 10 170 [(7,(2,39)),(8,(2,39))] (List.map u7 a0.frames) [] 1005),(1007,.box (O7 sb) 50)] [.ptr 1000 0] (.tup []) [(1000,.box [.ptr 1001 0,.fn Kl [.ptr 1007 0,.fp cl_1],.fn Kq [],.int r.2.fuel,.int r.2.sends,.int r.2.turns,.own 4,.int r.2.back.k,.int r.2.back.n,.int r.2.err] 145),(1001,.box [.sl 4 (List.map O8 r.2.w.classes),.own 2,.int r.2.w.epoch] 37),(2,.deep 2 97 [(1,(2,39))] (List.map L6 r.2.w.heap) [] 3),(3,.gone),(1002,.gone),(4,.deep 10 170 [(7,(2,39)),(8,(2,39))] (List.map u7 r.2.frames) [] 5),(5,.gone),(1003,.gone),(1007,.box (O7 r.1) 50)] [3,2,5,4]:=by
 refine Spec.of z8 Try.func82 rfl Try.ntmps82 (by kernel_rfl) rfl rfl rfl fun Γ hn=>?_
 unfold aB4 at h
 refine j5.snoc ?_
 refine j5.seqQ fun _ A0 _ _=>?_
 refine P5 hn (by kernel_rfl) ?_
 refine D5 (fun _=>?_)
 refine Or.inr ?_
 obtain ⟨x2,hx3,h⟩:=j4 h
 refine ixD hx3 rfl rfl ?_
 refine A0 _ _ ?_
 refine j6 hn ?_
 refine Y8 (C8 hx3).2 ?_
 refine kp [(0,_),(2,_),(3,_)] [(1000,_),(1001,_),(1002,_),(1003,_),(1007,_)] ?_
 refine j6 hn ?_
 refine Y8 (C8 hx3).2 ?_
 obtain ⟨x4,hx5,h⟩:=j4 h
 refine V5 hx5 ?_
 refine j6 hn ?_
 refine Y8 (C8 hx3).2 ?_
 refine Or.inr ?_
 refine stD (C8 hx3).2 rfl rfl rfl ?_
 refine Exists.intro (List.map u7 (a0.frames.set ((wr ((a0.frames.length:Int) - (1:Int))).toNat) (⟨x2.class_,x2.method,x2.fast,x2.code,x2.self_,x2.args,x2.temps,x2.stack,(wr (x2.at_+(1:Int)))⟩:l6))) (And.intro (aL6 rfl) ?_)
 refine kp [(0,_),(2,_),(3,_),(4,_)] [(4,_),(1000,_),(1001,_),(1002,_),(1003,_),(1007,_)] ?_
 refine j6 hn ?_
 obtain ⟨o18,h17,h⟩:=j4 h
 refine jk (ι:={ s // o18=s }) hn (fun s=>[]) (fun s=>[(501,.gone),(502,.deep 10 170 [(7,(2,39)),(8,(2,39))] (List.map u7 s.1.2.2.2.2.2.2.2.1) [] 501),(509,.gone),(510,.deep 2 97 [(1,(2,39))] (List.map L6 s.1.2.1) [] 509),(1000,.box [.ptr 1001 0,.fn Kl [.ptr 1007 0,.fp cl_1],.fn Kq [],.int s.1.2.2.2.2.1,.int s.1.2.2.2.2.2.1,.int s.1.2.2.2.2.2.2.1,.own 502,.int s.1.2.2.2.2.2.2.2.2.1,.int s.1.2.2.2.2.2.2.2.2.2.1,.int s.1.2.2.2.2.2.2.2.2.2.2] 145),(1001,.box [.sl 4 (List.map O8 s.1.1),.own 510,.int s.1.2.2.1] 37),(1002,.gone),(1003,.gone),(1007,.box (O7 s.1.2.2.2.1) 50)]) [(0,_)] [] (fun _ A1 _ _=>?_) ?_
 ·refine j5.blkQ fun _ A2 _ _ _=>?_
  refine j6 hn ?_
  obtain ⟨o31,h30,h17⟩:=j4 h17
  refine jk (ι:={ s // o31=s }) hn (fun s=>[]) (fun s=>[(501,.gone),(502,.deep 10 170 [(7,(2,39)),(8,(2,39))] (List.map u7 s.1.2.2.2.2.2.2.2.1) [] 501),(509,.gone),(510,.deep 2 97 [(1,(2,39))] (List.map L6 s.1.2.1) [] 509),(1000,.box [.ptr 1001 0,.fn Kl [.ptr 1007 0,.fp cl_1],.fn Kq [],.int s.1.2.2.2.2.1,.int s.1.2.2.2.2.2.1,.int s.1.2.2.2.2.2.2.1,.own 502,.int s.1.2.2.2.2.2.2.2.2.1,.int s.1.2.2.2.2.2.2.2.2.2.1,.int s.1.2.2.2.2.2.2.2.2.2.2] 145),(1001,.box [.sl 4 (List.map O8 s.1.1),.own 510,.int s.1.2.2.1] 37),(1002,.gone),(1003,.gone),(1007,.box (O7 s.1.2.2.2.1) 50)]) [(0,_)] [] (fun _ A3 _ _=>?_) ?_
  ·refine p8 hn ?_
   refine l5 h30 (fun hb32 h30=>?_) (fun hb32 h30=>?_)
   ·refine q8 hn ?_
    obtain ⟨r33,hr34,h30⟩:=j4 h30
    show l8 Try.prog _ _ _ _
    refine cA (((a10 N (⟨(⟨a0.w.classes,a0.w.heap,a0.w.epoch⟩:Wd),a0.fuel,a0.sends,a0.turns,(a0.frames.set ((wr ((a0.frames.length:Int) - (1:Int))).toNat) (⟨x2.class_,x2.method,x2.fast,x2.code,x2.self_,x2.args,x2.temps,x2.stack,(wr (x2.at_+(1:Int)))⟩:l6)),a0.back,a0.err⟩:l7) gl gq sb ((wr ((a0.frames.length:Int) - (1:Int))).toNat) x4 x2.at_ hgl hgq r33 hr34).sw 5 501).sw 4 502) ?_
    refine A3 _ _ ?_
    refine F4.gh (Gh.reidD 1001 1 1002 503 504 rfl rfl rfl rfl rfl rfl rfl rfl rfl rfl rfl rfl) (fun _=>?_)
    exact jn ⟨_,sj h30⟩ [(510,503),(509,504)]
   refine j6 hn ?_
   obtain ⟨o46,h45,h30⟩:=j4 h30
   refine jk (ι:={ s // o46=s }) hn (fun s=>[]) (fun s=>[(88,.deep 10 170 [(7,(2,39)),(8,(2,39))] (List.map u7 s.1.2.2.2.2.2.2.1) [] 505),(505,.gone),(511,.gone),(512,.deep 2 97 [(1,(2,39))] (List.map L6 s.1.2.1) [] 511),(1000,.box [.ptr 1001 0,.fn Kl [.ptr 1007 0,.fp cl_1],.fn Kq [],.int s.1.2.2.2.1,.int s.1.2.2.2.2.1,.int s.1.2.2.2.2.2.1,.own 88,.int s.1.2.2.2.2.2.2.2.1,.int s.1.2.2.2.2.2.2.2.2.1,.int s.1.2.2.2.2.2.2.2.2.2] 145),(1001,.box [.sl 4 (List.map O8 s.1.1),.own 512,.int s.1.2.2.1] 37),(1002,.gone),(1003,.gone)]) [(0,_)] [(1007,_)] (fun _ A4 _ _=>?_) ?_
   ·refine p8 hn ?_
    refine l5 h45 (fun hb47 h45=>?_) (fun hb47 h45=>?_)
    ·refine q8 hn ?_
     obtain ⟨r48,hr49,h45⟩:=j4 h45
     show l8 Try.prog _ _ _ _
     refine cA ((aM4 N (⟨(⟨a0.w.classes,a0.w.heap,a0.w.epoch⟩:Wd),a0.fuel,a0.sends,a0.turns,(a0.frames.set ((wr ((a0.frames.length:Int) - (1:Int))).toNat) (⟨x2.class_,x2.method,x2.fast,x2.code,x2.self_,x2.args,x2.temps,x2.stack,(wr (x2.at_+(1:Int)))⟩:l6)),a0.back,a0.err⟩:l7) ((wr ((a0.frames.length:Int) - (1:Int))).toNat) x4.a r48 hr49).sw 5 505) ?_
     refine A4 _ _ ?_
     refine F4.gh (Gh.reidD 1001 1 1002 506 507 rfl rfl rfl rfl rfl rfl rfl rfl rfl rfl rfl rfl) (fun _=>?_)
     refine F4.gh (Gh.reidD 1000 6 1003 508 509 rfl rfl rfl rfl rfl rfl rfl rfl rfl rfl rfl rfl) (fun _=>?_)
     exact jn ⟨_,sj h45⟩ [(512,506),(511,507),(88,508),(505,509)]
    refine j6 hn ?_
    obtain ⟨o61,h60,h45⟩:=j4 h45
    refine jk (ι:={ s // o61=s }) hn (fun s=>[]) (fun s=>[(88,.deep 10 170 [(7,(2,39)),(8,(2,39))] (List.map u7 s.1.2.2.2.2.2.2.1) [] 511),(511,.gone),(515,.gone),(516,.deep 2 97 [(1,(2,39))] (List.map L6 s.1.2.1) [] 515),(1000,.box [.ptr 1001 0,.fn Kl [.ptr 1007 0,.fp cl_1],.fn Kq [],.int s.1.2.2.2.1,.int s.1.2.2.2.2.1,.int s.1.2.2.2.2.2.1,.own 88,.int s.1.2.2.2.2.2.2.2.1,.int s.1.2.2.2.2.2.2.2.2.1,.int s.1.2.2.2.2.2.2.2.2.2] 145),(1001,.box [.sl 4 (List.map O8 s.1.1),.own 516,.int s.1.2.2.1] 37),(1002,.gone),(1003,.gone)]) [(0,_)] [(1007,_)] (fun _ A5 _ _=>?_) ?_
    ·refine p8 hn ?_
     refine l5 h60 (fun hb62 h60=>?_) (fun hb62 h60=>?_)
     ·refine j6 hn ?_
      obtain ⟨r63,hr64,h60⟩:=j4 h60
      show l8 Try.prog _ _ _ _
      refine cA ((aJ9 N (a0.frames.set ((wr ((a0.frames.length:Int) - (1:Int))).toNat) (⟨x2.class_,x2.method,x2.fast,x2.code,x2.self_,x2.args,x2.temps,x2.stack,(wr (x2.at_+(1:Int)))⟩:l6)) ((wr ((a0.frames.length:Int) - (1:Int))).toNat) r63 hr64).sw 5 510) ?_
      refine j6 hn ?_
      obtain ⟨o73,h72,h60⟩:=j4 h60
      refine jk (ι:={ s // o73=s }) hn (fun s=>[]) (fun s=>[(511,.gone),(1000,.box [.ptr 1001 0,.fn Kl [.ptr 1007 0,.fp cl_1],.fn Kq [],.int s.1.1,.int s.1.2.1,.int s.1.2.2.1,.own 1003,.int s.1.2.2.2.2.1,.int s.1.2.2.2.2.2.1,.int s.1.2.2.2.2.2.2] 145),(1003,.deep 10 170 [(7,(2,39)),(8,(2,39))] (List.map u7 s.1.2.2.2.1) [] 511)]) [(0,_)] [(1001,_),(1002,_),(1007,_)] (fun _ A6 _ _=>?_) ?_
      ·refine j5.blkQ fun _ A7 _ _ _=>?_
       refine kp [(0,_),(2,_),(4,_),(61,_)] [(4,_),(510,_),(1000,_),(1001,_),(1002,_),(1003,_),(1007,_)] ?_
       refine j6 hn ?_
       obtain ⟨o82,h81,h72⟩:=j4 h72
       refine jk (ι:={ s // o82=s }) hn (fun s=>[]) (fun s=>[(511,.gone),(1000,.box [.ptr 1001 0,.fn Kl [.ptr 1007 0,.fp cl_1],.fn Kq [],.int s.1.1,.int s.1.2.1,.int s.1.2.2.1,.own 1003,.int s.1.2.2.2.2.1,.int s.1.2.2.2.2.2.1,.int s.1.2.2.2.2.2.2] 145),(1003,.deep 10 170 [(7,(2,39)),(8,(2,39))] (List.map u7 s.1.2.2.2.1) [] 511)]) [(0,_)] [(1001,_),(1002,_),(1007,_)] (fun _ A8 _ _=>?_) ?_
       ·refine p8 hn ?_
        refine l5 h81 (fun hb83 h81=>?_) (fun hb83 h81=>?_)
        ·refine q8 hn ?_
         obtain ⟨r84,hr85,h81⟩:=j4 h81
         show l8 Try.prog _ _ _ _
         refine cA (((aM4 N (⟨(⟨a0.w.classes,a0.w.heap,a0.w.epoch⟩:Wd),a0.fuel,a0.sends,a0.turns,r63.2,a0.back,a0.err⟩:l7) ((wr ((a0.frames.length:Int) - (1:Int))).toNat) x4.a r84 hr85).sw 1005 510).sw 5 511) ?_
         refine A8 _ _ ?_
         exact jn ⟨_,sj h81⟩ []
        refine j6 hn ?_
        obtain ⟨o93,h92,h81⟩:=j4 h81
        refine jk (ι:={ s // o93=s }) hn (fun s=>[]) (fun s=>[(1000,.box [.ptr 1001 0,.fn Kl [.ptr 1007 0,.fp cl_1],.fn Kq [],.int s.1.1,.int s.1.2.1,.int s.1.2.2.1,.own 1003,.int s.1.2.2.2.1,.int s.1.2.2.2.2.1,.int s.1.2.2.2.2.2] 145)]) [(0,_)] [(510,_),(1001,_),(1002,_),(1003,_),(1007,_)] (fun _ A9 _ _=>?_) ?_
        ·refine p8 hn ?_
         refine l5 h92 (fun hb94 h92=>?_) (fun hb94 h92=>?_)
         ·refine p9 hn ?_
          refine A9 _ _ ?_
          exact jn ⟨_,sj h92⟩ []
         refine q8 hn ?_
         obtain ⟨r95,hr96,h92⟩:=j4 h92
         show l8 Try.prog _ _ _ _
         refine cA (H5 N (⟨(⟨a0.w.classes,a0.w.heap,a0.w.epoch⟩:Wd),a0.fuel,a0.sends,a0.turns,r63.2,a0.back,a0.err⟩:l7) (11:Int) r95 hr96) ?_
         refine A9 _ _ ?_
         exact jn ⟨_,sj h92⟩ []
        rintro ⟨⟨v86,v87,v88,v89,v90,v91⟩,rfl⟩
        refine A8 _ _ ?_
        exact jn ⟨_,sj h81⟩ [(511,510)]
       rintro ⟨⟨v74,v75,v76,v77,v78,v79,v80⟩,rfl⟩
       refine A7 _ _ ?_
       refine A6 _ _ ?_
       exact jn ⟨_,sj h72⟩ []
      rintro ⟨⟨v65,v66,v67,v68,v69,v70,v71⟩,rfl⟩
      refine A5 _ _ ?_
      refine F4.gh (Gh.reidD 1001 1 1002 512 513 rfl rfl rfl rfl rfl rfl rfl rfl rfl rfl rfl rfl) (fun _=>?_)
      refine F4.gh (Gh.reidD 1000 6 1003 514 515 rfl rfl rfl rfl rfl rfl rfl rfl rfl rfl rfl rfl) (fun _=>?_)
      exact jn ⟨_,sj h60⟩ [(516,512),(515,513),(88,514),(511,515)]
     refine j6 hn ?_
     obtain ⟨o108,h107,h60⟩:=j4 h60
     refine jk (ι:={ s // o108=s }) hn (fun s=>[]) (fun s=>[(88,.deep 10 170 [(7,(2,39)),(8,(2,39))] (List.map u7 s.1.2.2.2.2.2.2.1) [] 517),(517,.gone),(519,.gone),(520,.deep 2 97 [(1,(2,39))] (List.map L6 s.1.2.1) [] 519),(1000,.box [.ptr 1001 0,.fn Kl [.ptr 1007 0,.fp cl_1],.fn Kq [],.int s.1.2.2.2.1,.int s.1.2.2.2.2.1,.int s.1.2.2.2.2.2.1,.own 88,.int s.1.2.2.2.2.2.2.2.1,.int s.1.2.2.2.2.2.2.2.2.1,.int s.1.2.2.2.2.2.2.2.2.2] 145),(1001,.box [.sl 4 (List.map O8 s.1.1),.own 520,.int s.1.2.2.1] 37),(1002,.gone),(1003,.gone)]) [(0,_)] [(1007,_)] (fun _ A10 _ _=>?_) ?_
     ·refine p8 hn ?_
      refine l5 h107 (fun hb109 h107=>?_) (fun hb109 h107=>?_)
      ·refine j6 hn ?_
       obtain ⟨r110,hr111,h107⟩:=j4 h107
       show l8 Try.prog _ _ _ _
       refine cA ((aJ9 N (a0.frames.set ((wr ((a0.frames.length:Int) - (1:Int))).toNat) (⟨x2.class_,x2.method,x2.fast,x2.code,x2.self_,x2.args,x2.temps,x2.stack,(wr (x2.at_+(1:Int)))⟩:l6)) ((wr ((a0.frames.length:Int) - (1:Int))).toNat) r110 hr111).sw 5 516) ?_
       refine j5.seqQ fun _ A11 _ _=>?_
       refine kp [(0,_),(6,_)] [(6,_),(516,_),(1000,_),(1001,_),(1002,_),(1003,_),(1007,_)] ?_
       refine P5 hn (by kernel_rfl) ?_
       refine D5 (fun _=>?_)
       refine Or.inr ?_
       obtain ⟨hg113,h107⟩:=G5 h107
       refine bP5 hg113 rfl rfl ?_
       refine A11 _ _ ?_
       refine q8 hn ?_
       obtain ⟨r114,hr115,h107⟩:=j4 h107
       show l8 Try.prog _ _ _ _
       refine cA ((((aM1 N (⟨(⟨a0.w.classes,a0.w.heap,a0.w.epoch⟩:Wd),a0.fuel,a0.sends,a0.turns,(r110.2.take (wr ((r110.2.length:Int) - (1:Int))).toNat),a0.back,a0.err⟩:l7) r110.1 r114 hr115).sw 1003 88).sw 1005 788).sw 5 517) ?_
       refine A10 _ _ ?_
       refine F4.gh (Gh.reidD 1001 1 1002 518 519 rfl rfl rfl rfl rfl rfl rfl rfl rfl rfl rfl rfl) (fun _=>?_)
       exact jn ⟨_,sj h107⟩ [(520,518)]
      refine j6 hn ?_
      obtain ⟨o127,h126,h107⟩:=j4 h107
      refine jk (ι:={ s // o127=s }) hn (fun s=>[]) (fun s=>[(520,.gone),(521,.gone),(522,.deep 2 97 [(1,(2,39))] (List.map L6 s.1.2.1) [] 521),(1000,.box [.ptr 1001 0,.fn Kl [.ptr 1007 0,.fp cl_1],.fn Kq [],.int s.1.2.2.2.1,.int s.1.2.2.2.2.1,.int s.1.2.2.2.2.2.1,.own 1003,.int s.1.2.2.2.2.2.2.2.1,.int s.1.2.2.2.2.2.2.2.2.1,.int s.1.2.2.2.2.2.2.2.2.2] 145),(1001,.box [.sl 4 (List.map O8 s.1.1),.own 522,.int s.1.2.2.1] 37),(1002,.gone),(1003,.deep 10 170 [(7,(2,39)),(8,(2,39))] (List.map u7 s.1.2.2.2.2.2.2.1) [] 520)]) [(0,_)] [(1007,_)] (fun _ A12 _ _=>?_) ?_
      ·refine p8 hn ?_
       refine l5 h126 (fun hb128 h126=>?_) (fun hb128 h126=>?_)
       ·refine q8 hn ?_
        obtain ⟨r129,hr130,h126⟩:=j4 h126
        show l8 Try.prog _ _ _ _
        refine cA ((aZ6 N (⟨(⟨a0.w.classes,a0.w.heap,a0.w.epoch⟩:Wd),a0.fuel,a0.sends,a0.turns,(a0.frames.set ((wr ((a0.frames.length:Int) - (1:Int))).toNat) (⟨x2.class_,x2.method,x2.fast,x2.code,x2.self_,x2.args,x2.temps,x2.stack,(wr (x2.at_+(1:Int)))⟩:l6)),a0.back,a0.err⟩:l7) ((wr ((a0.frames.length:Int) - (1:Int))).toNat) x4 r129 hr130).sw 5 520) ?_
        refine A12 _ _ ?_
        refine F4.gh (Gh.reidD 1001 1 1002 521 522 rfl rfl rfl rfl rfl rfl rfl rfl rfl rfl rfl rfl) (fun _=>?_)
        exact jn ⟨_,sj h126⟩ [(522,521),(521,522)]
       refine j6 hn ?_
       obtain ⟨o142,h141,h126⟩:=j4 h126
       refine jk (ι:={ s // o142=s }) hn (fun s=>[]) (fun s=>[(523,.gone),(524,.deep 2 97 [(1,(2,39))] (List.map L6 s.1.2.1) [] 523),(525,.gone),(1000,.box [.ptr 1001 0,.fn Kl [.ptr 1007 0,.fp cl_1],.fn Kq [],.int s.1.2.2.2.1,.int s.1.2.2.2.2.1,.int s.1.2.2.2.2.2.1,.own 1003,.int s.1.2.2.2.2.2.2.2.1,.int s.1.2.2.2.2.2.2.2.2.1,.int s.1.2.2.2.2.2.2.2.2.2] 145),(1001,.box [.sl 4 (List.map O8 s.1.1),.own 524,.int s.1.2.2.1] 37),(1002,.gone),(1003,.deep 10 170 [(7,(2,39)),(8,(2,39))] (List.map u7 s.1.2.2.2.2.2.2.1) [] 525)]) [(0,_)] [(1007,_)] (fun _ A13 _ _=>?_) ?_
       ·refine p8 hn ?_
        refine l5 h141 (fun hb143 h141=>?_) (fun hb143 h141=>?_)
        ·refine kp [(0,_)] [(1000,_),(1001,_),(1002,_),(1003,_),(1007,_)] ?_
         refine q8 hn ?_
         obtain ⟨r144,hr145,h141⟩:=j4 h141
         show l8 Try.prog _ _ _ _
         refine cA (aC6 N (⟨(⟨a0.w.classes,a0.w.heap,a0.w.epoch⟩:Wd),a0.fuel,a0.sends,a0.turns,(a0.frames.set ((wr ((a0.frames.length:Int) - (1:Int))).toNat) (⟨x2.class_,x2.method,x2.fast,x2.code,x2.self_,x2.args,x2.temps,x2.stack,(wr (x2.at_+(1:Int)))⟩:l6)),a0.back,a0.err⟩:l7) true r144 hr145) ?_
         refine A13 _ _ ?_
         refine F4.gh (Gh.reidD 1001 1 1002 523 524 rfl rfl rfl rfl rfl rfl rfl rfl rfl rfl rfl rfl) (fun _=>?_)
         refine F4.gh (Gh.resh 1003 525 rfl rfl rfl rfl) (fun _=>?_)
         exact jn ⟨_,sj h141⟩ [(524,523),(523,524)]
        refine kp [(0,_),(2,_),(4,_)] [(4,_),(1000,_),(1001,_),(1002,_),(1003,_),(1007,_)] ?_
        refine q8 hn ?_
        obtain ⟨r146,hr147,h141⟩:=j4 h141
        show l8 Try.prog _ _ _ _
        refine cA ((((a14 N (⟨(⟨a0.w.classes,a0.w.heap,a0.w.epoch⟩:Wd),a0.fuel,a0.sends,a0.turns,(a0.frames.set ((wr ((a0.frames.length:Int) - (1:Int))).toNat) (⟨x2.class_,x2.method,x2.fast,x2.code,x2.self_,x2.args,x2.temps,x2.stack,(wr (x2.at_+(1:Int)))⟩:l6)),a0.back,a0.err⟩:l7) ((wr ((a0.frames.length:Int) - (1:Int))).toNat) x4 r146 hr147).sw 3 526).sw 2 527).sw 5 528) ?_
        refine A13 _ _ ?_
        exact jn ⟨_,sj h141⟩ [(524,527),(523,526),(525,528)]
       rintro ⟨⟨v131,v132,v133,v134,v135,v136,v137,v138,v139,v140⟩,rfl⟩
       refine A12 _ _ ?_
       exact jn ⟨_,sj h126⟩ [(522,524),(521,523),(520,525)]
      rintro ⟨⟨v116,v117,v118,v119,v120,v121,v122,v123,v124,v125⟩,rfl⟩
      refine A10 _ _ ?_
      refine F4.gh (Gh.reidD 1000 6 1003 529 530 rfl rfl rfl rfl rfl rfl rfl rfl rfl rfl rfl rfl) (fun _=>?_)
      exact jn ⟨_,sj h107⟩ [(520,522),(519,521),(88,529),(517,530)]
     rintro ⟨⟨v97,v98,v99,v100,v101,v102,v103,v104,v105,v106⟩,rfl⟩
     refine A5 _ _ ?_
     exact jn ⟨_,sj h60⟩ [(516,520),(515,519),(511,517)]
    rintro ⟨⟨v50,v51,v52,v53,v54,v55,v56,v57,v58,v59⟩,rfl⟩
    refine A4 _ _ ?_
    exact jn ⟨_,sj h45⟩ [(512,516),(511,515),(505,511)]
   rintro ⟨⟨v35,v36,v37,v38,v39,v40,v41,v42,v43,v44⟩,rfl⟩
   refine A3 _ _ ?_
   exact jn ⟨_,sj h30⟩ [(510,512),(509,511),(502,88),(501,505)]
  rintro ⟨⟨v19,v20,v21,v22,v23,v24,v25,v26,v27,v28,v29⟩,rfl⟩
  refine A2 _ _ ?_
  refine A1 _ _ ?_
  exact jn ⟨_,sj h17⟩ []
 rintro ⟨⟨v6,v7,v8,v9,v10,v11,v12,v13,v14,v15,v16⟩,rfl⟩
 refine F4.done ?_
 obtain rfl:=Option.some.inj h
 exact ⟨[(2,510),(3,509),(4,502),(5,501)],_,fm⟩

/- run.With -/
set_option maxRecDepth 100000 in
set_option maxHeartbeats 8000000 in
theorem bR2 (N:Nat) (a0:Wd) (a1:O4) (a2:Int) (g3:St→Int→ByteArray→q9→Option (Int×Int×q9)) (sb:q9) (g4:Int→Int→Option (Fs×Bool)) {K3:Nat} {c3_1:List AV} (hg3:∀x0_ x1_ x2_ s_ y_,g3 x0_ x1_ x2_ s_=some y_→Spec Try.prog K3 [(1055,.box (O7 s_) 50)] [.agg (eSt x0_),.int x1_,.str x2_,.ptr 1055 0,.fp c3_1] (.tup [.int y_.1,.int y_.2.1]) [(1055,.box (O7 y_.2.2) 50)] []) {K4:Nat} (hg4:∀x0_ x1_ y_,g4 x0_ x1_=some y_→Spec Try.prog K4 [] [.int x0_,.int x1_] (.tup [.agg (eFs y_.1),.bool y_.2]) [] []) (r:(Wd×aK0×q9)) (h:aK4 N a0 a1 a2 g3 sb g4=some r):Spec Try.prog 47 [(1055,.box (O7 sb) 50)] [.agg (eWd a0),.agg (bF3 a1),.int a2,.fn K3 [.ptr 1055 0,.fp c3_1],.fn K4 []] (.tup [.agg (eWd r.1),.agg (bQ4 r.2.1)]) [(1055,.box (O7 r.2.2) 50)] []:=by
 refine Spec.of z8 Try.func47 rfl Try.ntmps47 (by kernel_rfl) rfl rfl rfl fun Γ hn=>?_
 unfold aK4 at h
 refine j6 hn ?_
 refine j5.seqQ fun _ A0 _ R0=>?_
 refine j6 hn ?_
 obtain ⟨r1,hr2,h⟩:=j4 h
 show l8 Try.prog _ _ _ _
 refine cA (cG9 N a0 a1 a2 r1 hr2) ?_
 refine j6 hn ?_
 refine p8 hn ?_
 refine l5 h (fun hb3 h=>?_) (fun hb3 h=>?_)
 ·refine j6 hn ?_
  obtain ⟨r4,hr5,h⟩:=j4 h
  show l8 Try.prog _ _ _ _
  refine cA (((a95 N a0 r4 hr5).sw 0 24).sw 1 724) ?_
  refine j5.fzAllD 24 rfl ?_
  refine got hn ?_
  refine R0 _ _ ?_
  obtain rfl:=Option.some.inj h
  exact ⟨[],_,fm⟩
 refine p9 hn ?_
 refine A0 _ _ ?_
 refine j6 hn ?_
 obtain ⟨r6,hr7,h⟩:=j4 h
 show l8 Try.prog _ _ _ _
 refine cA (((a95 N a0 r6 hr7).sw 0 28).sw 1 728) ?_
 refine kp [(2,_),(3,_),(4,_),(5,_),(6,_),(10,_),(11,_),(13,_)] [(5,_),(6,_),(10,_),(11,_),(13,_),(28,_),(728,_),(1055,_)] ?_
 refine j6 hn ?_
 refine j5.seqQ fun _ A1 _ _=>?_
 refine j5.seqQ fun _ A2 _ _=>?_
 refine P5 hn (by kernel_rfl) ?_
 obtain ⟨r8,hr9,h⟩:=j4 h
 show l8 Try.prog _ _ _ _
 refine cD (aV7 N r6.heap a1.self_ r8 hr9) ?_
 obtain ⟨r10,hr11,h⟩:=j4 h
 show l8 Try.prog _ _ _ _
 refine cD (aZ7 N (⟨r6.classes,r6.heap,r6.epoch⟩:Wd) r8 a1.name r10 hr11) ?_
 refine A2 _ _ ?_
 refine kp [(3,_),(4,_),(5,_),(6,_),(10,_),(11,_),(13,_),(14,_),(15,_),(16,_)] [(5,_),(6,_),(10,_),(11,_),(13,_),(28,_),(33,_),(728,_),(1055,_)] ?_
 refine j6 hn ?_
 refine j5.nilrowB 33 6 501 10 170 rfl rfl rfl rfl rfl rfl ?_
 refine j5.gh (Gh.toDeep 501 502 [(7,(2,39)),(8,(2,39))] rfl rfl rfl rfl) (fun _=>?_)
 obtain ⟨o20,h19,h⟩:=j4 h
 refine jk (ι:={ s // o20=s }) hn (fun s=>[]) (fun s=>[(33,.box [.ptr 13 0,.fn K3 [.ptr 1055 0,.fp c3_1],.fn K4 [],.int s.1.1,.int s.1.2.1,.int s.1.2.2.1,.own 501,.int s.1.2.2.2.2.1,.int s.1.2.2.2.2.2.1,.int s.1.2.2.2.2.2.2] 145),(501,.deep 10 170 [(7,(2,39)),(8,(2,39))] (List.map u7 s.1.2.2.2.1) [] 502)]) [(3,_),(4,_),(5,_),(10,_),(11,_),(13,_),(14,_)] [(5,_),(10,_),(11,_),(13,_),(28,_),(502,_),(728,_),(1055,_)] (fun _ A3 _ _=>?_) ?_
 ·refine p8 hn ?_
  refine l5 h19 (fun hb21 h19=>?_) (fun hb21 h19=>?_)
  ·refine q8 hn ?_
   obtain ⟨r22,hr23,h19⟩:=j4 h19
   show l8 Try.prog _ _ _ _
   refine cA ((H5 N (⟨(⟨r6.classes,r6.heap,r6.epoch⟩:Wd),a2,(0:Int),(0:Int),([]:List l6),(⟨(0:Int),(0:Int)⟩:V),(0:Int)⟩:l7) (10:Int) r22 hr23).swl [(1000,33),(1001,13),(1003,501),(1007,1055)] rfl) ?_
   refine A3 _ _ ?_
   exact jn ⟨_,sj h19⟩ []
  refine q8 hn ?_
  obtain ⟨r24,hr25,h19⟩:=j4 h19
  show l8 Try.prog _ _ _ _
  refine cA ((aK7 N (⟨(⟨r6.classes,r6.heap,r6.epoch⟩:Wd),a2,(0:Int),(0:Int),([]:List l6),(⟨(0:Int),(0:Int)⟩:V),(0:Int)⟩:l7) g4 r10.1 r10.2 a1.self_ a1.args hg4 r24 hr25).swl [(1000,33),(1001,13),(1003,501),(1002,28),(1005,502),(1007,1055),(5,503),(4,504)] rfl) ?_
  refine A3 _ _ ?_
  exact jn ⟨_,sj h19⟩ [(501,504),(502,503)]
 rintro ⟨⟨v12,v13,v14,v15,v16,v17,v18⟩,rfl⟩
 refine A1 _ _ ?_
 refine j5.seqQ fun _ A4 _ _=>?_
 obtain ⟨o60,h61,h⟩:=j4 h
 refine jk (ι:={ s // o60=s }) hn (fun s=>[]) (fun s=>[(13,.box [.sl 4 (List.map O8 s.1.2.1),.own 28,.int s.1.2.2.2.1] 37),(28,.deep 2 97 [(1,(2,39))] (List.map L6 s.1.2.2.1) [] 728),(33,.box [.ptr 13 0,.fn K3 [.ptr 1055 0,.fp c3_1],.fn K4 [],.int s.1.2.2.2.2.1,.int s.1.2.2.2.2.2.1,.int s.1.2.2.2.2.2.2.1,.own 501,.int s.1.2.2.2.2.2.2.2.2.1,.int s.1.2.2.2.2.2.2.2.2.2.1,.int s.1.2.2.2.2.2.2.2.2.2.2] 145),(501,.deep 10 170 [(7,(2,39)),(8,(2,39))] (List.map u7 s.1.2.2.2.2.2.2.2.1) [] 502),(1055,.box (O7 s.1.1) 50)]) [(3,_),(4,_),(5,_),(10,_),(11,_),(13,_),(14,_)] [(5,_),(10,_),(11,_),(502,_),(728,_)] (fun _ A5 _ _=>?_) ?_
 ·refine j5.blkQ fun _ _ E6 _ _=>?_
  refine lq (ι:={ q:(Nat×q9×(List Cl)×(List Ob)×Int×Int×Int×Int×(List l6)×Int×Int×Int) // Z0 N g3 g4 q.1 q.2.1 q.2.2.1 q.2.2.2.1 q.2.2.2.2.1 q.2.2.2.2.2.1 q.2.2.2.2.2.2.1 q.2.2.2.2.2.2.2.1 q.2.2.2.2.2.2.2.2.1 q.2.2.2.2.2.2.2.2.2.1 q.2.2.2.2.2.2.2.2.2.2.1 q.2.2.2.2.2.2.2.2.2.2.2=some o60 }) hn (fun q=>[]) (fun q=>[(13,.box [.sl 4 (List.map O8 q.1.2.2.1),.own 28,.int q.1.2.2.2.2.1] 37),(28,.deep 2 97 [(1,(2,39))] (List.map L6 q.1.2.2.2.1) [] 728),(33,.box [.ptr 13 0,.fn K3 [.ptr 1055 0,.fp c3_1],.fn K4 [],.int q.1.2.2.2.2.2.1,.int q.1.2.2.2.2.2.2.1,.int q.1.2.2.2.2.2.2.2.1,.own 501,.int q.1.2.2.2.2.2.2.2.2.2.1,.int q.1.2.2.2.2.2.2.2.2.2.2.1,.int q.1.2.2.2.2.2.2.2.2.2.2.2] 145),(501,.deep 10 170 [(7,(2,39)),(8,(2,39))] (List.map u7 q.1.2.2.2.2.2.2.2.2.1) [] 502),(1055,.box (O7 q.1.2.1) 50)]) (fun q=>q.1.1) [(3,_),(4,_),(5,_),(10,_),(11,_),(13,_),(14,_)] [(5,_),(10,_),(11,_),(502,_),(728,_)] ⟨(N,sb,r6.classes,r6.heap,r6.epoch,v12,v13,v14,v15,v16,v17,v18),h61⟩ [] ?_
  rintro ⟨⟨n_,v27,v28,v29,v30,v31,v32,v33,v34,v35,v36,v37⟩,h61⟩ _ A7 X7 _
  rcases n_ with _|n64
  ·rw [Z0.eq_1] at h61
   cases h61
  ·replace h61:=(Z0.eq_2 _ _ _ _ _ _ _ _ _ _ _ _ _ _ _).symm.trans h61
   refine j5.seqQ fun _ A8 X8 _=>?_
   refine j5.seqQ fun _ A9 _ _=>?_
   obtain ⟨o67,h66,h61⟩:=j4 h61
   refine jk (ι:={ s // o67=s }) hn (fun s=>[(70,.bool s.1)]) (fun s=>[]) [(3,_),(4,_),(5,_),(10,_),(11,_),(13,_),(14,_)] [(5,_),(10,_),(11,_),(13,_),(28,_),(33,_),(501,_),(502,_),(728,_),(1055,_)] (fun _ A10 _ _=>?_) ?_
   ·refine q8 hn ?_
    refine l5 h66 (fun hb68 h66=>?_) (fun hb68 h66=>?_)
    ·refine j3 hb68 ?_
     refine j3 hb68 ?_
     refine j3 hb68 ?_
     refine j3 hb68 ?_
     refine D5 (fun _=>?_)
     refine j3 hb68 ?_
     refine j3 hb68 ?_
     refine A10 _ _ ?_
     exact jn ⟨_,sj h66⟩ []
    refine d9 hb68 ?_
    refine d9 hb68 ?_
    refine d9 hb68 ?_
    refine d9 hb68 ?_
    refine d9 hb68 ?_
    refine d9 hb68 ?_
    refine A10 _ _ ?_
    exact jn ⟨_,sj h66⟩ []
   rintro ⟨v65,hv_⟩
   replace hv_:=hv_.symm
   subst hv_
   refine A9 _ _ ?_
   refine p8 hn ?_
   refine l5 h61 (fun hb70 h61=>?_) (fun hb70 h61=>?_)
   ·refine p9 hn ?_
    refine A8 _ _ ?_
    refine j5.blkQ fun _ A11 _ _ _=>?_
    refine q8 hn ?_
    obtain ⟨r71,hr72,h61⟩:=j4 h61
    show l8 Try.prog _ _ _ _
    refine cA ((a09 N (⟨(⟨v28,v29,v30⟩:Wd),v31,v32,v33,v34,(⟨v35,v36⟩:V),v37⟩:l7) g3 g4 v27 (fun x0_ x1_ x2_ s_ y_ h_=>(hg3 x0_ x1_ x2_ s_ y_ h_).sw 1055 1007) hg4 r71 hr72).swl [(1000,33),(1001,13),(1003,501),(1002,28),(1004,728),(1005,502),(1007,1055),(3,505),(2,506),(5,507),(4,508)] rfl) ?_
    refine A11 _ _ ?_
    refine A7 _ _ ?_
    exact jn ⟨(n64,r71.1,r71.2.w.classes,r71.2.w.heap,r71.2.w.epoch,r71.2.fuel,r71.2.sends,r71.2.turns,r71.2.frames,r71.2.back.k,r71.2.back.n,r71.2.err),h61⟩ [(28,506),(728,505),(501,508),(502,507)] (by show n64 < n64+1; omega)
   refine F6 hn ?_
   refine X8 _ _ _ ?_
   refine X7 _ _ _ ?_
   refine E6 _ _ ?_
   refine A5 _ _ ?_
   exact jn ⟨_,sj h61⟩ []
 rintro ⟨⟨v49,v50,v51,v52,v53,v54,v55,v56,v57,v58,v59⟩,rfl⟩
 refine A4 _ _ ?_
 refine j5.seqQ fun _ A12 _ R12=>?_
 refine j6 hn ?_
 refine p8 hn ?_
 refine l5 h (fun hb73 h=>?_) (fun hb73 h=>?_)
 ·refine j5.seqQ fun _ A13 _ _=>?_
  refine P5 hn (by kernel_rfl) ?_
  obtain ⟨r74,hr75,h⟩:=j4 h
  show l8 Try.prog _ _ _ _
  refine cA (((a95 N a0 r74 hr75).sw 0 79).sw 1 779) ?_
  refine A13 _ _ ?_
  refine j5.fzAllD 79 rfl ?_
  refine got hn ?_
  refine R12 _ _ ?_
  obtain rfl:=Option.some.inj h
  exact ⟨[],_,fm⟩
 refine p9 hn ?_
 refine A12 _ _ ?_
 refine j5.seqQ fun _ A14 _ _=>?_
 refine P5 hn (by kernel_rfl) ?_
 refine A14 _ _ ?_
 refine j5.fzAllD 28 rfl ?_
 refine got hn ?_
 obtain rfl:=Option.some.inj h
 exact ⟨[],_,fm⟩
end Go.Proofs.Ytahmeibkdhbngaa
