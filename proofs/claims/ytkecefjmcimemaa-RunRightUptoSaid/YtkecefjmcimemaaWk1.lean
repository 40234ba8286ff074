/- Walks after the mirrors. Printed by mir.py. -/
import Derived.Test.YtkecefjmcimemaaMir
import Derived.Test.YtkecefjmcimemaaYnew
namespace Go.Proofs.Ytkecefjmcimemaa
open Go.RowKit
set_option linter.unusedVariables false
/- qcref1.Name -/
set_option maxRecDepth 100000 in
set_option maxHeartbeats 8000000 in
theorem qcref1_Name_ok (N:Nat) (a0:ByteArray) (r:Bool) (h:qcref1_Name N a0=some r):Spec Try.prog 39 [] [.str a0] (.bool r) [] []:=by
 refine Spec.of tabOk Try.func39 rfl Try.ntmps39 (by kernel_rfl) rfl rfl rfl fun Γ hn=>?_
 unfold qcref1_Name at h
 refine gos hn ?_
 refine COk.seqQ fun _ A0 _ R0=>?_
 refine gos hn ?_
 intro _
 refine COk.rng 5 rfl (fun hrn=>?_)
 obtain ⟨o3,h4,h⟩:=bindM h
 refine jk (ι:={ s // o3=Ctl.next s }) hn (fun s=>[]) (fun s=>[]) [(0,_)] [] (fun _ A1 _ R1=>?_) ?_
 ·refine COk.blkQ fun _ _ E2 _ R2=>?_
  refine lq (ι:={ q:(Nat×Nat) // q.1=((a0.size:Int) - (q.2:Int)).toNat∧qcref1_Name_l1 N a0 q.1 q.2=some o3 }) hn (fun q=>[(6,.int (q.1.2:Int))]) (fun q=>[]) (fun q=>q.1.1) [(0,_),(5,_)] [] ⟨(((a0.size:Int) - ((0:Nat):Int)).toNat,0),rfl,h4⟩ [] ?_
  rintro ⟨⟨n_,k2⟩,hd6,h4⟩ _ A3 X3 R3
  replace hd6:n_=((a0.size:Int) - (k2:Int)).toNat:=hd6
  rcases n_ with _|n7
  ·have hlt10:=upNil hd6
   replace h4:=(qcref1_Name_l1.eq_1 _ _ _).symm.trans h4
   refine gos hn ?_
   refine COk.seqQ fun _ _ X4 _=>?_
   refine goc hn ?_
   refine bselF hlt10 ?_
   refine goe hn ?_
   refine X4 _ _ _ ?_
   refine X3 _ _ _ ?_
   refine E2 _ _ ?_
   refine A1 _ _ ?_
   exact jn ⟨_,sj h4⟩ []
  ·obtain ⟨hd2,hlt10⟩:=upCons hd6
   replace h4:=(qcref1_Name_l1.eq_2 _ _ _ _).symm.trans h4
   refine gos hn ?_
   refine COk.seqQ fun _ A5 _ _=>?_
   refine goc hn ?_
   refine bselT hlt10 ?_
   refine gok hn ?_
   refine A5 _ _ ?_
   refine COk.seqQ fun _ A6 _ R6=>?_
   refine COk.blkQ fun _ A7 _ _ R7=>?_
   refine gos hn ?_
   refine COk.seqQ fun _ A8 _ _=>?_
   obtain ⟨o13,h12,h4⟩:=bindM h4
   refine jk (ι:={ s // o13=s }) hn (fun s=>[(18,.bool s.1)]) (fun s=>[]) [(0,_),(5,_),(6,_)] [] (fun _ A9 _ _=>?_) ?_
   ·refine gor hn ?_
    obtain ⟨u14,hx15,h12⟩:=bindM h12
    refine byM hx15 ?_
    refine And.intro rfl ?_
    refine bselM h12 (fun hb16 h12=>?_) (fun hb16 h12=>?_)
    ·refine bselT hb16 ?_
     refine bselT hb16 ?_
     refine bselT hb16 ?_
     refine bselT hb16 ?_
     refine A9 _ _ ?_
     exact jn ⟨_,sj h12⟩ []
    refine bselF hb16 ?_
    refine bselF hb16 ?_
    obtain ⟨u17,hx18,h12⟩:=bindM h12
    refine byM hx18 ?_
    refine bselF hb16 ?_
    refine And.intro rfl ?_
    refine bselF hb16 ?_
    refine A9 _ _ ?_
    exact jn ⟨_,sj h12⟩ []
   rintro ⟨v11,hv_⟩
   replace hv_:=hv_.symm
   subst hv_
   refine A8 _ _ ?_
   refine goc hn ?_
   refine bselM h4 (fun hb19 h4=>?_) (fun hb19 h4=>?_)
   ·refine gos hn ?_
    refine got hn ?_
    refine R7 _ _ ?_
    refine R6 _ _ ?_
    refine R3 _ _ ?_
    refine R2 _ _ ?_
    refine R1 _ _ ?_
    refine R0 _ _ ?_
    obtain rfl:=Option.some.inj h4
    obtain rfl:=Option.some.inj h
    exact ⟨[],_,fm⟩
   refine gok hn ?_
   refine A7 _ _ ?_
   refine A6 _ _ ?_
   refine gor hn ?_
   refine Or.inl (And.intro (inrU hlt10 hrn) ?_)
   refine A3 _ _ ?_
   exact jn ⟨(n7,k2+1),hd2,h4⟩ [] (by show n7 < n7+1; omega)
 rintro ⟨⟨⟩,rfl⟩
 refine A0 _ _ ?_
 refine COk.seqQ fun _ A10 _ _=>?_
 obtain ⟨o22,h21,h⟩:=bindM h
 refine jk (ι:={ s // o22=s }) hn (fun s=>[(2,.bool s.1)]) (fun s=>[]) [] [] (fun _ A11 _ _=>?_) ?_
 ·refine gor hn ?_
  intro _
  refine bselM h21 (fun hb24 h21=>?_) (fun hb24 h21=>?_)
  ·refine bselT hb24 ?_
   intro _
   refine bselT hb24 ?_
   refine bselT hb24 ?_
   refine A11 _ _ ?_
   exact jn ⟨_,sj h21⟩ []
  refine bselF hb24 ?_
  refine bselF hb24 ?_
  refine bselF hb24 ?_
  refine A11 _ _ ?_
  exact jn ⟨_,sj h21⟩ []
 rintro ⟨v20,hv_⟩
 replace hv_:=hv_.symm
 subst hv_
 refine A10 _ _ ?_
 refine got hn ?_
 obtain rfl:=Option.some.inj h
 exact ⟨[],_,fm⟩

/- qcref1.Ups -/
set_option maxRecDepth 100000 in
set_option maxHeartbeats 8000000 in
theorem qcref1_Ups_ok (N:Nat) (a0:Wd) (a1:Int) (r:(List Int)) (h:qcref1_Ups N a0 a1=some r):Spec Try.prog 53 [] [.agg (eWd a0),.int a1] (.own 0) [(0,.row 1 (List.map eInt r) 3)] [0]:=by
 refine Spec.of tabOk Try.func53 rfl Try.ntmps53 (by kernel_rfl) rfl rfl rfl fun Γ hn=>?_
 unfold qcref1_Ups at h
 refine gos hn ?_
 refine gos hn ?_
 refine COk.seqQ fun _ A0 _ _=>?_
 refine COk.nilrow 5 205 1 3 rfl rfl rfl ?_
 obtain ⟨o7,h8,h⟩:=bindM h
 refine jk (ι:={ s // o7=s }) hn (fun s=>[]) (fun s=>[(205,.row 1 (List.map eInt s.1) 3)]) [(5,_)] [] (fun _ A1 _ _=>?_) ?_
 ·refine COk.blkQ fun _ _ E2 _ _=>?_
  refine lq (ι:={ q:(Nat×Int×(List Int)) // qcref1_Ups_l1 N a0 q.1 q.2.1 q.2.2=some o7 }) hn (fun q=>[(1,.int q.1.2.1)]) (fun q=>[(205,.row 1 (List.map eInt q.1.2.2) 3)]) (fun q=>q.1.1) [(2,_),(5,_)] [(2,_)] ⟨(N,a1,([]:List Int)),h8⟩ [] ?_
  rintro ⟨⟨n_,v2,v3⟩,h8⟩ _ A3 X3 _
  rcases n_ with _|n11
  ·rw [qcref1_Ups_l1.eq_1] at h8
   cases h8
  ·replace h8:=(qcref1_Ups_l1.eq_2 _ _ _ _ _).symm.trans h8
   refine COk.seqQ fun _ A4 X4 _=>?_
   refine COk.seqQ fun _ A5 _ _=>?_
   obtain ⟨o14,h13,h8⟩:=bindM h8
   refine jk (ι:={ s // o14=s }) hn (fun s=>[(22,.bool s.1)]) (fun s=>[]) [(1,_),(2,_),(5,_)] [(2,_),(205,_)] (fun _ A6 _ _=>?_) ?_
   ·refine gor hn ?_
    refine bselM h13 (fun hb15 h13=>?_) (fun hb15 h13=>?_)
    ·refine bselT hb15 ?_
     refine bselT hb15 ?_
     refine bselT hb15 ?_
     refine lenM (fun _=>?_)
     refine bselT hb15 ?_
     refine bselT hb15 ?_
     refine bselM h13 (fun hb17 h13=>?_) (fun hb17 h13=>?_)
     ·refine bselT hb17 ?_
      refine lenM (fun _=>?_)
      refine bselT hb17 ?_
      refine bselT hb17 ?_
      refine bselT hb17 ?_
      refine lenM (fun _=>?_)
      refine bselT hb17 ?_
      refine bselT hb17 ?_
      refine A6 _ _ ?_
      exact jn ⟨_,sj h13⟩ []
     refine bselF hb17 ?_
     refine bselF hb17 ?_
     refine bselF hb17 ?_
     refine bselF hb17 ?_
     refine bselF hb17 ?_
     refine bselF hb17 ?_
     refine A6 _ _ ?_
     exact jn ⟨_,sj h13⟩ []
    refine bselF hb15 ?_
    refine bselF hb15 ?_
    refine bselF hb15 ?_
    refine bselF hb15 ?_
    refine bselF hb15 ?_
    refine A6 _ _ ?_
    exact jn ⟨_,sj h13⟩ []
   rintro ⟨v12,hv_⟩
   replace hv_:=hv_.symm
   subst hv_
   refine A5 _ _ ?_
   refine goc hn ?_
   refine bselM h8 (fun hb20 h8=>?_) (fun hb20 h8=>?_)
   ·refine gok hn ?_
    refine A4 _ _ ?_
    refine COk.blkQ fun _ A7 _ _ _=>?_
    refine gos hn ?_
    refine Exists.intro (List.map eInt [v2]) (And.intro (by repeat (first|exact trivial|exact rfl|(refine And.intro ?_ ?_))) ?_)
    obtain ⟨hg21,h8⟩:=guardM h8
    refine appM (l2:=[v2]) hg21 (leLs_refl _) ?_
    refine gor hn ?_
    obtain ⟨x22,hx23,h8⟩:=bindM h8
    refine idxM hx23 ?_
    refine A7 _ _ ?_
    refine A3 _ _ ?_
    exact jn ⟨(n11,x22.super,(v3++[v2])),h8⟩ [(205,26)] (by show n11 < n11+1; omega)
   refine goe hn ?_
   refine X4 _ _ _ ?_
   refine X3 _ _ _ ?_
   refine E2 _ _ ?_
   refine A1 _ _ ?_
   exact jn ⟨_,sj h8⟩ []
 rintro ⟨v6,hv_⟩
 replace hv_:=hv_.symm
 subst hv_
 refine A0 _ _ ?_
 refine gos hn ?_
 refine got hn ?_
 obtain rfl:=Option.some.inj h
 exact ⟨[(0,205)],_,fm⟩

/- qcref1.Slots -/
set_option maxRecDepth 100000 in
set_option maxHeartbeats 8000000 in
theorem qcref1_Slots_ok (N:Nat) (a0:Wd) (a1:Int) (r:Int) (h:qcref1_Slots N a0 a1=some r):Spec Try.prog 40 [] [.agg (eWd a0),.int a1] (.int r) [] []:=by
 refine Spec.of tabOk Try.func40 rfl Try.ntmps40 (by kernel_rfl) rfl rfl rfl fun Γ hn=>?_
 unfold qcref1_Slots at h
 refine gos hn ?_
 refine gos hn ?_
 refine COk.seqQ fun _ A0 _ _=>?_
 refine gos hn ?_
 obtain ⟨r1,hr2,h⟩:=bindM h
 show CallOk Try.prog _ _ _ _
 refine cA ((qcref1_Ups_ok N a0 a1 r1 hr2).sw 0 10) ?_
 refine lenM (fun hl3=>?_)
 obtain ⟨o8,h9,h⟩:=bindM h
 refine jk (ι:={ s // o8=s }) hn (fun s=>[(5,.int s.1)]) (fun s=>[]) [] [] (fun _ A1 _ _=>?_) ?_
 ·refine COk.blkQ fun _ _ E2 _ _=>?_
  refine lq (ι:={ q:((List Int)×Nat×Int) // q.1=r1.drop q.2.1∧qcref1_Slots_l1 N a0 r1 q.1 q.2.1 q.2.2=some o8 }) hn (fun q=>[(5,.int q.1.2.2),(12,.int (q.1.2.1:Int))]) (fun q=>[]) (fun q=>q.1.1.length) [(2,_),(10,_),(11,_)] [(2,_),(10,_)] ⟨(r1,0,(0:Int)),rfl,h9⟩ [] ?_
  rintro ⟨⟨rest_,k4,v5⟩,hd11,h9⟩ _ A3 X3 _
  replace hd11:rest_=r1.drop k4:=hd11
  rcases rest_ with _|⟨x13,rest10⟩
  ·have hlt15:=restNil hd11
   replace h9:=(qcref1_Slots_l1.eq_1 _ _ _ _ _).symm.trans h9
   refine gos hn ?_
   refine COk.seqQ fun _ _ X4 _=>?_
   refine goc hn ?_
   refine bselF hlt15 ?_
   refine goe hn ?_
   refine X4 _ _ _ ?_
   refine X3 _ _ _ ?_
   refine E2 _ _ ?_
   refine A1 _ _ ?_
   exact jn ⟨_,sj h9⟩ []
  ·obtain ⟨hx14,hd2,hlt15⟩:=restCons hd11
   replace h9:=(qcref1_Slots_l1.eq_2 _ _ _ _ _ _ _).symm.trans h9
   refine gos hn ?_
   refine COk.seqQ fun _ A5 _ _=>?_
   refine goc hn ?_
   refine bselT hlt15 ?_
   refine gok hn ?_
   refine A5 _ _ ?_
   refine COk.seqQ fun _ A6 _ _=>?_
   refine COk.blkQ fun _ A7 _ _ _=>?_
   refine gos hn ?_
   obtain ⟨x16,hx17,h9⟩:=bindM h9
   refine ownM hx17 ?_
   refine ldM (nthO_some hx17).2 ?_
   refine gor hn ?_
   obtain ⟨x18,hx19,h9⟩:=bindM h9
   refine idxM hx19 ?_
   refine Or.inr ?_
   refine A7 _ _ ?_
   refine A6 _ _ ?_
   refine kp [(2,_),(5,_),(10,_),(11,_),(12,_)] [(2,_),(10,_)] ?_
   refine gor hn ?_
   refine Or.inl (And.intro (inrK hx14 hl3) ?_)
   refine A3 _ _ ?_
   exact jn ⟨(rest10,k4+1,(wr (v5+x18.slots))),hd2,h9⟩ [] (by show rest10.length < rest10.length+1; omega)
 rintro ⟨v7,hv_⟩
 replace hv_:=hv_.symm
 subst hv_
 refine A0 _ _ ?_
 refine gos hn ?_
 refine got hn ?_
 obtain rfl:=Option.some.inj h
 exact ⟨[],_,fm⟩

/- qcref1.Numbers -/
set_option maxRecDepth 100000 in
set_option maxHeartbeats 8000000 in
theorem qcref1_Numbers_ok (N:Nat) (a0:Wd) (a1:Int) (a2:Me) (a3:Ins) (r:Int) (h:qcref1_Numbers N a0 a1 a2 a3=some r):Spec Try.prog 78 [] [.agg (eWd a0),.int a1,.agg (eMe a2),.agg (eIns a3)] (.int r) [] []:=by
 refine Spec.of tabOk Try.func78 rfl Try.ntmps78 (by kernel_rfl) rfl rfl rfl fun Γ hn=>?_
 unfold qcref1_Numbers at h
 refine gos hn ?_
 refine gos hn ?_
 refine COk.seqQ fun _ A0 _ R0=>?_
 refine gos hn ?_
 obtain ⟨o4,h3,h⟩:=bindM h
 refine jk (ι:={ s // o4=Ctl.next s }) hn (fun s=>[(9,.int s.1.1),(10,.int s.1.2)]) (fun s=>[]) [(7,_)] [(7,_)] (fun _ A1 _ R1=>?_) ?_
 ·refine COk.blkQ fun _ A2 _ _ R2=>?_
  refine COk.seqQ fun _ A3 _ _=>?_
  refine gos hn ?_
  obtain ⟨o7,h6,h3⟩:=bindM h3
  refine jk (ι:={ s // o7=s }) hn (fun s=>[(13,.bool s.1)]) (fun s=>[]) [(1,_),(4,_),(6,_),(7,_),(9,_),(10,_),(12,_)] [(4,_),(6,_),(7,_)] (fun _ A4 _ _=>?_) ?_
  ·refine goc hn ?_
   refine bselM h6 (fun hb8 h6=>?_) (fun hb8 h6=>?_)
   ·refine gok hn ?_
    refine A4 _ _ ?_
    exact jn ⟨_,sj h6⟩ []
   refine gos hn ?_
   obtain ⟨o11,h10,h6⟩:=bindM h6
   refine jk (ι:={ s // o11=s }) hn (fun s=>[(13,.bool s.1)]) (fun s=>[]) [(1,_),(4,_),(6,_),(7,_),(9,_),(10,_),(12,_)] [(4,_),(6,_),(7,_)] (fun _ A5 _ _=>?_) ?_
   ·refine goc hn ?_
    refine bselM h10 (fun hb12 h10=>?_) (fun hb12 h10=>?_)
    ·refine gok hn ?_
     refine A5 _ _ ?_
     exact jn ⟨_,sj h10⟩ []
    refine gos hn ?_
    obtain ⟨o15,h14,h10⟩:=bindM h10
    refine jk (ι:={ s // o15=s }) hn (fun s=>[(13,.bool s.1)]) (fun s=>[]) [(1,_),(4,_),(6,_),(7,_),(9,_),(10,_),(12,_)] [(4,_),(6,_),(7,_)] (fun _ A6 _ _=>?_) ?_
    ·refine goc hn ?_
     refine bselM h14 (fun hb16 h14=>?_) (fun hb16 h14=>?_)
     ·refine gok hn ?_
      refine A6 _ _ ?_
      exact jn ⟨_,sj h14⟩ []
     refine gos hn ?_
     obtain ⟨o19,h18,h14⟩:=bindM h14
     refine jk (ι:={ s // o19=s }) hn (fun s=>[(13,.bool s.1)]) (fun s=>[]) [(1,_),(4,_),(6,_),(7,_),(9,_),(10,_),(12,_)] [(4,_),(6,_),(7,_)] (fun _ A7 _ _=>?_) ?_
     ·refine goc hn ?_
      refine bselM h18 (fun hb20 h18=>?_) (fun hb20 h18=>?_)
      ·refine gok hn ?_
       refine A7 _ _ ?_
       exact jn ⟨_,sj h18⟩ []
      refine kp [(1,_),(4,_),(6,_),(7,_),(9,_),(10,_),(12,_)] [(4,_),(6,_),(7,_)] ?_
      refine gos hn ?_
      obtain ⟨o23,h22,h18⟩:=bindM h18
      refine jk (ι:={ s // o23=s }) hn (fun s=>[(13,.bool s.1)]) (fun s=>[]) [(1,_),(4,_),(6,_),(7,_),(9,_),(10,_),(12,_)] [(4,_),(6,_),(7,_)] (fun _ A8 _ _=>?_) ?_
      ·refine goc hn ?_
       refine bselM h22 (fun hb24 h22=>?_) (fun hb24 h22=>?_)
       ·refine gok hn ?_
        refine A8 _ _ ?_
        exact jn ⟨_,sj h22⟩ []
       refine gos hn ?_
       obtain ⟨o27,h26,h22⟩:=bindM h22
       refine jk (ι:={ s // o27=s }) hn (fun s=>[(13,.bool s.1)]) (fun s=>[]) [(1,_),(4,_),(6,_),(7,_),(9,_),(10,_),(12,_)] [(4,_),(6,_),(7,_)] (fun _ A9 _ _=>?_) ?_
       ·refine goc hn ?_
        refine bselM h26 (fun hb28 h26=>?_) (fun hb28 h26=>?_)
        ·refine gok hn ?_
         refine A9 _ _ ?_
         exact jn ⟨_,sj h26⟩ []
        refine gor hn ?_
        refine A9 _ _ ?_
        exact jn ⟨_,sj h26⟩ []
       rintro ⟨v25,hv_⟩
       replace hv_:=hv_.symm
       subst hv_
       refine A8 _ _ ?_
       exact jn ⟨_,sj h22⟩ []
      rintro ⟨v21,hv_⟩
      replace hv_:=hv_.symm
      subst hv_
      refine A7 _ _ ?_
      exact jn ⟨_,sj h18⟩ []
     rintro ⟨v17,hv_⟩
     replace hv_:=hv_.symm
     subst hv_
     refine A6 _ _ ?_
     exact jn ⟨_,sj h14⟩ []
    rintro ⟨v13,hv_⟩
    replace hv_:=hv_.symm
    subst hv_
    refine A5 _ _ ?_
    exact jn ⟨_,sj h10⟩ []
   rintro ⟨v9,hv_⟩
   replace hv_:=hv_.symm
   subst hv_
   refine A4 _ _ ?_
   exact jn ⟨_,sj h6⟩ []
  rintro ⟨v5,hv_⟩
  replace hv_:=hv_.symm
  subst hv_
  refine A3 _ _ ?_
  obtain ⟨o32,h31,h3⟩:=bindM h3
  refine jk (ι:={ s // o32=Ctl.next s }) hn (fun s=>[(9,.int s.1.1),(10,.int s.1.2)]) (fun s=>[]) [(7,_)] [(7,_)] (fun _ A10 _ R10=>?_) ?_
  ·refine goc hn ?_
   refine bselM h31 (fun hb33 h31=>?_) (fun hb33 h31=>?_)
   ·refine gok hn ?_
    refine A10 _ _ ?_
    exact jn ⟨_,sj h31⟩ []
   refine gos hn ?_
   obtain ⟨o37,h36,h31⟩:=bindM h31
   refine jk (ι:={ s // o37=Ctl.next s }) hn (fun s=>[(9,.int s.1.1),(10,.int s.1.2)]) (fun s=>[]) [(7,_)] [(7,_)] (fun _ A11 _ R11=>?_) ?_
   ·refine goc hn ?_
    refine bselM h36 (fun hb38 h36=>?_) (fun hb38 h36=>?_)
    ·refine gor hn ?_
     refine Or.inr ?_
     refine A11 _ _ ?_
     exact jn ⟨_,sj h36⟩ []
    refine COk.seqQ fun _ A12 _ _=>?_
    refine gos hn ?_
    obtain ⟨o41,h40,h36⟩:=bindM h36
    refine jk (ι:={ s // o41=s }) hn (fun s=>[(26,.bool s.1)]) (fun s=>[]) [(1,_),(4,_),(6,_),(7,_),(9,_),(12,_)] [(4,_),(6,_),(7,_)] (fun _ A13 _ _=>?_) ?_
    ·refine goc hn ?_
     refine bselM h40 (fun hb42 h40=>?_) (fun hb42 h40=>?_)
     ·refine gok hn ?_
      refine A13 _ _ ?_
      exact jn ⟨_,sj h40⟩ []
     refine gor hn ?_
     refine A13 _ _ ?_
     exact jn ⟨_,sj h40⟩ []
    rintro ⟨v39,hv_⟩
    replace hv_:=hv_.symm
    subst hv_
    refine A12 _ _ ?_
    obtain ⟨o46,h45,h36⟩:=bindM h36
    refine jk (ι:={ s // o46=Ctl.next s }) hn (fun s=>[(9,.int s.1.1),(10,.int s.1.2)]) (fun s=>[]) [(7,_)] [(7,_)] (fun _ A14 _ R14=>?_) ?_
    ·refine goc hn ?_
     refine bselM h45 (fun hb47 h45=>?_) (fun hb47 h45=>?_)
     ·refine gor hn ?_
      refine Or.inr ?_
      refine A14 _ _ ?_
      exact jn ⟨_,sj h45⟩ []
     refine COk.seqQ fun _ A15 _ _=>?_
     refine gos hn ?_
     obtain ⟨o50,h49,h45⟩:=bindM h45
     refine jk (ι:={ s // o50=s }) hn (fun s=>[(32,.bool s.1)]) (fun s=>[]) [(1,_),(4,_),(6,_),(7,_),(9,_),(12,_)] [(4,_),(6,_),(7,_)] (fun _ A16 _ _=>?_) ?_
     ·refine goc hn ?_
      refine bselM h49 (fun hb51 h49=>?_) (fun hb51 h49=>?_)
      ·refine gok hn ?_
       refine A16 _ _ ?_
       exact jn ⟨_,sj h49⟩ []
      refine gor hn ?_
      refine A16 _ _ ?_
      exact jn ⟨_,sj h49⟩ []
     rintro ⟨v48,hv_⟩
     replace hv_:=hv_.symm
     subst hv_
     refine A15 _ _ ?_
     obtain ⟨o55,h54,h45⟩:=bindM h45
     refine jk (ι:={ s // o55=Ctl.next s }) hn (fun s=>[(9,.int s.1.1),(10,.int s.1.2)]) (fun s=>[]) [(7,_)] [(7,_)] (fun _ A17 _ R17=>?_) ?_
     ·refine goc hn ?_
      refine bselM h54 (fun hb56 h54=>?_) (fun hb56 h54=>?_)
      ·refine gor hn ?_
       obtain ⟨r57,hr58,h54⟩:=bindM h54
       show CallOk Try.prog _ _ _ _
       refine cA (qcref1_Slots_ok N a0 a1 r57 hr58) ?_
       refine Or.inr ?_
       refine A17 _ _ ?_
       exact jn ⟨_,sj h54⟩ []
      refine gos hn ?_
      obtain ⟨o62,h61,h54⟩:=bindM h54
      refine jk (ι:={ s // o62=Ctl.next s }) hn (fun s=>[(9,.int s.1.1),(10,.int s.1.2)]) (fun s=>[]) [(7,_)] [(7,_)] (fun _ A18 _ R18=>?_) ?_
      ·refine goc hn ?_
       refine bselM h61 (fun hb63 h61=>?_) (fun hb63 h61=>?_)
       ·refine gor hn ?_
        refine A18 _ _ ?_
        exact jn ⟨_,sj h61⟩ []
       refine gos hn ?_
       obtain ⟨o66,h65,h61⟩:=bindM h61
       refine jk (ι:={ s // o66=Ctl.next s }) hn (fun s=>[(10,.int s.1)]) (fun s=>[]) [(7,_),(9,_)] [(7,_)] (fun _ A19 _ R19=>?_) ?_
       ·refine goc hn ?_
        refine bselM h65 (fun hb67 h65=>?_) (fun hb67 h65=>?_)
        ·refine gos hn ?_
         refine lenM (fun _=>?_)
         refine Or.inr ?_
         refine COk.seqQ fun _ A20 _ _=>?_
         obtain ⟨o71,h70,h65⟩:=bindM h65
         refine jk (ι:={ s // o71=s }) hn (fun s=>[(54,.bool s.1)]) (fun s=>[]) [(7,_),(9,_),(10,_)] [(7,_)] (fun _ A21 _ _=>?_) ?_
         ·refine gor hn ?_
          refine bselM h70 (fun hb72 h70=>?_) (fun hb72 h70=>?_)
          ·refine bselT hb72 ?_
           refine bselT hb72 ?_
           refine bselT hb72 ?_
           refine A21 _ _ ?_
           exact jn ⟨_,sj h70⟩ []
          refine bselF hb72 ?_
          refine bselF hb72 ?_
          refine bselF hb72 ?_
          refine A21 _ _ ?_
          exact jn ⟨_,sj h70⟩ []
         rintro ⟨v69,hv_⟩
         replace hv_:=hv_.symm
         subst hv_
         refine A20 _ _ ?_
         refine goc hn ?_
         refine bselM h65 (fun hb73 h65=>?_) (fun hb73 h65=>?_)
         ·refine gos hn ?_
          refine got hn ?_
          refine R19 _ _ ?_
          refine R18 _ _ ?_
          refine R17 _ _ ?_
          refine R14 _ _ ?_
          refine R11 _ _ ?_
          refine R10 _ _ ?_
          refine R2 _ _ ?_
          refine R1 _ _ ?_
          refine R0 _ _ ?_
          obtain rfl:=Option.some.inj h65
          obtain rfl:=Option.some.inj h61
          obtain rfl:=Option.some.inj h54
          obtain rfl:=Option.some.inj h45
          obtain rfl:=Option.some.inj h36
          obtain rfl:=Option.some.inj h31
          obtain rfl:=Option.some.inj h3
          obtain rfl:=Option.some.inj h
          exact ⟨[],_,fm⟩
         refine gok hn ?_
         refine A19 _ _ ?_
         exact jn ⟨_,sj h65⟩ []
        refine gos hn ?_
        obtain ⟨o76,h75,h65⟩:=bindM h65
        refine jk (ι:={ s // o76=Ctl.next s }) hn (fun s=>[(10,.int s.1)]) (fun s=>[]) [(7,_),(9,_)] [(7,_)] (fun _ A22 _ R22=>?_) ?_
        ·refine goc hn ?_
         refine bselM h75 (fun hb77 h75=>?_) (fun hb77 h75=>?_)
         ·refine gor hn ?_
          refine A22 _ _ ?_
          exact jn ⟨_,sj h75⟩ []
         refine COk.seqQ fun _ A23 _ _=>?_
         refine gos hn ?_
         obtain ⟨o80,h79,h75⟩:=bindM h75
         refine jk (ι:={ s // o80=s }) hn (fun s=>[(57,.bool s.1)]) (fun s=>[]) [(6,_),(7,_),(9,_)] [(6,_),(7,_)] (fun _ A24 _ _=>?_) ?_
         ·refine goc hn ?_
          refine bselM h79 (fun hb81 h79=>?_) (fun hb81 h79=>?_)
          ·refine gok hn ?_
           refine A24 _ _ ?_
           exact jn ⟨_,sj h79⟩ []
          refine gor hn ?_
          refine A24 _ _ ?_
          exact jn ⟨_,sj h79⟩ []
         rintro ⟨v78,hv_⟩
         replace hv_:=hv_.symm
         subst hv_
         refine A23 _ _ ?_
         refine goc hn ?_
         refine bselM h75 (fun hb82 h75=>?_) (fun hb82 h75=>?_)
         ·refine gor hn ?_
          refine lenM (fun _=>?_)
          refine Or.inr ?_
          refine A22 _ _ ?_
          exact jn ⟨_,sj h75⟩ []
         refine gos hn ?_
         refine got hn ?_
         refine R22 _ _ ?_
         refine R19 _ _ ?_
         refine R18 _ _ ?_
         refine R17 _ _ ?_
         refine R14 _ _ ?_
         refine R11 _ _ ?_
         refine R10 _ _ ?_
         refine R2 _ _ ?_
         refine R1 _ _ ?_
         refine R0 _ _ ?_
         obtain rfl:=Option.some.inj h75
         obtain rfl:=Option.some.inj h65
         obtain rfl:=Option.some.inj h61
         obtain rfl:=Option.some.inj h54
         obtain rfl:=Option.some.inj h45
         obtain rfl:=Option.some.inj h36
         obtain rfl:=Option.some.inj h31
         obtain rfl:=Option.some.inj h3
         obtain rfl:=Option.some.inj h
         exact ⟨[],_,fm⟩
        rintro ⟨v74,rfl⟩
        refine A19 _ _ ?_
        exact jn ⟨_,sj h65⟩ []
       rintro ⟨v64,rfl⟩
       refine A18 _ _ ?_
       exact jn ⟨_,sj h61⟩ []
      rintro ⟨⟨v59,v60⟩,rfl⟩
      refine A17 _ _ ?_
      exact jn ⟨_,sj h54⟩ []
     rintro ⟨⟨v52,v53⟩,rfl⟩
     refine A14 _ _ ?_
     exact jn ⟨_,sj h45⟩ []
    rintro ⟨⟨v43,v44⟩,rfl⟩
    refine A11 _ _ ?_
    exact jn ⟨_,sj h36⟩ []
   rintro ⟨⟨v34,v35⟩,rfl⟩
   refine A10 _ _ ?_
   exact jn ⟨_,sj h31⟩ []
  rintro ⟨⟨v29,v30⟩,rfl⟩
  refine A2 _ _ ?_
  refine A1 _ _ ?_
  exact jn ⟨_,sj h3⟩ []
 rintro ⟨⟨v1,v2⟩,rfl⟩
 refine A0 _ _ ?_
 refine COk.seqQ fun _ A25 _ R25=>?_
 refine COk.seqQ fun _ A26 _ _=>?_
 obtain ⟨o86,h85,h⟩:=bindM h
 refine jk (ι:={ s // o86=s }) hn (fun s=>[(73,.bool s.1)]) (fun s=>[]) [(7,_)] [(7,_)] (fun _ A27 _ _=>?_) ?_
 ·refine gor hn ?_
  refine bselM h85 (fun hb87 h85=>?_) (fun hb87 h85=>?_)
  ·refine bselT hb87 ?_
   refine bselT hb87 ?_
   refine bselT hb87 ?_
   refine bselT hb87 ?_
   refine A27 _ _ ?_
   exact jn ⟨_,sj h85⟩ []
  refine bselF hb87 ?_
  refine bselF hb87 ?_
  refine bselF hb87 ?_
  refine bselF hb87 ?_
  refine A27 _ _ ?_
  exact jn ⟨_,sj h85⟩ []
 rintro ⟨v84,hv_⟩
 replace hv_:=hv_.symm
 subst hv_
 refine A26 _ _ ?_
 refine goc hn ?_
 refine bselM h (fun hb88 h=>?_) (fun hb88 h=>?_)
 ·refine gos hn ?_
  refine got hn ?_
  refine R25 _ _ ?_
  obtain rfl:=Option.some.inj h
  exact ⟨[],_,fm⟩
 refine gok hn ?_
 refine A25 _ _ ?_
 refine COk.seqQ fun _ A28 _ R28=>?_
 refine COk.seqQ fun _ A29 _ _=>?_
 obtain ⟨o91,h90,h⟩:=bindM h
 refine jk (ι:={ s // o91=s }) hn (fun s=>[(102,.bool s.1)]) (fun s=>[]) [] [] (fun _ A30 _ _=>?_) ?_
 ·refine gor hn ?_
  refine bselM h90 (fun hb92 h90=>?_) (fun hb92 h90=>?_)
  ·refine bselT hb92 ?_
   refine bselT hb92 ?_
   obtain ⟨r93,hr94,h90⟩:=bindM h90
   show CallOk Try.prog _ _ _ _
   refine cA (qcref1_Name_ok N a3.name r93 hr94) ?_
   refine bselT hb92 ?_
   refine bselT hb92 ?_
   refine bselM h90 (fun hb95 h90=>?_) (fun hb95 h90=>?_)
   ·refine bselT hb95 ?_
    refine bselT hb95 ?_
    refine bselT hb95 ?_
    refine bselT hb95 ?_
    refine bselT hb95 ?_
    refine A30 _ _ ?_
    exact jn ⟨_,sj h90⟩ []
   refine bselF hb95 ?_
   refine bselF hb95 ?_
   refine bselF hb95 ?_
   refine bselM h90 (fun hb96 h90=>?_) (fun hb96 h90=>?_)
   ·refine bselT hb96 ?_
    refine bselT hb96 ?_
    refine bselF hb95 ?_
    refine bselT hb96 ?_
    refine bselF hb95 ?_
    refine bselM h90 (fun hb97 h90=>?_) (fun hb97 h90=>?_)
    ·refine bselT hb97 ?_
     refine bselT hb97 ?_
     refine bselT hb97 ?_
     refine A30 _ _ ?_
     exact jn ⟨_,sj h90⟩ []
    refine bselF hb97 ?_
    refine bselF hb97 ?_
    refine bselF hb97 ?_
    refine bselM h90 (fun hb98 h90=>?_) (fun hb98 h90=>?_)
    ·refine bselT hb98 ?_
     refine bselT hb98 ?_
     refine bselT hb98 ?_
     refine A30 _ _ ?_
     exact jn ⟨_,sj h90⟩ []
    refine bselF hb98 ?_
    refine bselF hb98 ?_
    refine bselF hb98 ?_
    refine A30 _ _ ?_
    exact jn ⟨_,sj h90⟩ []
   refine bselF hb96 ?_
   refine bselF hb96 ?_
   refine bselF hb95 ?_
   refine bselF hb96 ?_
   refine bselF hb95 ?_
   refine bselM h90 (fun hb99 h90=>?_) (fun hb99 h90=>?_)
   ·refine bselT hb99 ?_
    refine bselT hb99 ?_
    refine bselT hb99 ?_
    refine A30 _ _ ?_
    exact jn ⟨_,sj h90⟩ []
   refine bselF hb99 ?_
   refine bselF hb99 ?_
   refine bselF hb99 ?_
   refine A30 _ _ ?_
   exact jn ⟨_,sj h90⟩ []
  refine bselF hb92 ?_
  refine bselF hb92 ?_
  refine bselF hb92 ?_
  refine bselF hb92 ?_
  refine bselM h90 (fun hb100 h90=>?_) (fun hb100 h90=>?_)
  ·refine bselT hb100 ?_
   refine bselT hb100 ?_
   refine bselT hb100 ?_
   refine bselM h90 (fun hb101 h90=>?_) (fun hb101 h90=>?_)
   ·refine bselT hb101 ?_
    refine bselT hb101 ?_
    refine bselT hb101 ?_
    refine A30 _ _ ?_
    exact jn ⟨_,sj h90⟩ []
   refine bselF hb101 ?_
   refine bselF hb101 ?_
   refine bselF hb101 ?_
   refine bselM h90 (fun hb102 h90=>?_) (fun hb102 h90=>?_)
   ·refine bselT hb102 ?_
    refine bselT hb102 ?_
    refine bselT hb102 ?_
    refine A30 _ _ ?_
    exact jn ⟨_,sj h90⟩ []
   refine bselF hb102 ?_
   refine bselF hb102 ?_
   refine bselF hb102 ?_
   refine A30 _ _ ?_
   exact jn ⟨_,sj h90⟩ []
  refine bselF hb100 ?_
  refine bselF hb100 ?_
  refine bselF hb100 ?_
  refine bselM h90 (fun hb103 h90=>?_) (fun hb103 h90=>?_)
  ·refine bselT hb103 ?_
   refine bselT hb103 ?_
   refine bselT hb103 ?_
   refine A30 _ _ ?_
   exact jn ⟨_,sj h90⟩ []
  refine bselF hb103 ?_
  refine bselF hb103 ?_
  refine bselF hb103 ?_
  refine A30 _ _ ?_
  exact jn ⟨_,sj h90⟩ []
 rintro ⟨v89,hv_⟩
 replace hv_:=hv_.symm
 subst hv_
 refine A29 _ _ ?_
 refine goc hn ?_
 refine bselM h (fun hb104 h=>?_) (fun hb104 h=>?_)
 ·refine gos hn ?_
  refine got hn ?_
  refine R28 _ _ ?_
  obtain rfl:=Option.some.inj h
  exact ⟨[],_,fm⟩
 refine gok hn ?_
 refine A28 _ _ ?_
 refine gos hn ?_
 refine got hn ?_
 obtain rfl:=Option.some.inj h
 exact ⟨[],_,fm⟩

/- qcref1.Next -/
set_option maxRecDepth 100000 in
set_option maxHeartbeats 8000000 in
theorem qcref1_Next_ok (N:Nat) (a0:Ins) (a1:Int) (r:(Int×Int×(List Int))) (h:qcref1_Next N a0 a1=some r):Spec Try.prog 107 [] [.agg (eIns a0),.int a1] (.tup [.int r.1,.int r.2.1,.own 0]) [(0,.row 1 (List.map eInt r.2.2) 3)] [0]:=by
 refine Spec.of tabOk Try.func107 rfl Try.ntmps107 (by kernel_rfl) rfl rfl rfl fun Γ hn=>?_
 unfold qcref1_Next at h
 refine gos hn ?_
 refine COk.seqQ fun _ A0 _ R0=>?_
 refine gos hn ?_
 refine COk.blkQ fun _ A1 _ _ R1=>?_
 refine COk.seqQ fun _ A2 _ _=>?_
 refine gos hn ?_
 obtain ⟨o3,h2,h⟩:=bindM h
 refine jk (ι:={ s // o3=s }) hn (fun s=>[(9,.bool s.1)]) (fun s=>[]) [(1,_),(2,_),(8,_)] [(2,_)] (fun _ A3 _ _=>?_) ?_
 ·refine goc hn ?_
  refine bselM h2 (fun hb4 h2=>?_) (fun hb4 h2=>?_)
  ·refine gok hn ?_
   refine A3 _ _ ?_
   exact jn ⟨_,sj h2⟩ []
  refine gos hn ?_
  obtain ⟨o7,h6,h2⟩:=bindM h2
  refine jk (ι:={ s // o7=s }) hn (fun s=>[(9,.bool s.1)]) (fun s=>[]) [(1,_),(2,_),(8,_)] [(2,_)] (fun _ A4 _ _=>?_) ?_
  ·refine goc hn ?_
   refine bselM h6 (fun hb8 h6=>?_) (fun hb8 h6=>?_)
   ·refine gok hn ?_
    refine A4 _ _ ?_
    exact jn ⟨_,sj h6⟩ []
   refine gor hn ?_
   refine A4 _ _ ?_
   exact jn ⟨_,sj h6⟩ []
  rintro ⟨v5,hv_⟩
  replace hv_:=hv_.symm
  subst hv_
  refine A3 _ _ ?_
  exact jn ⟨_,sj h2⟩ []
 rintro ⟨v1,hv_⟩
 replace hv_:=hv_.symm
 subst hv_
 refine A2 _ _ ?_
 refine goc hn ?_
 refine bselM h (fun hb9 h=>?_) (fun hb9 h=>?_)
 ·refine gos hn ?_
  refine Or.inr ?_
  refine Exists.intro (List.map eInt [(wr (a1+(1:Int)))]) (And.intro (by repeat (first|exact trivial|exact rfl|(refine And.intro ?_ ?_))) ?_)
  refine got hn ?_
  refine R1 _ _ ?_
  refine R0 _ _ ?_
  obtain rfl:=Option.some.inj h
  exact ⟨[(0,15)],_,fm⟩
 refine gos hn ?_
 refine goc hn ?_
 refine bselM h (fun hb10 h=>?_) (fun hb10 h=>?_)
 ·refine gos hn ?_
  refine Or.inr ?_
  refine Exists.intro (List.map eInt [(wr (a1+(1:Int)))]) (And.intro (by repeat (first|exact trivial|exact rfl|(refine And.intro ?_ ?_))) ?_)
  refine got hn ?_
  refine R1 _ _ ?_
  refine R0 _ _ ?_
  obtain rfl:=Option.some.inj h
  exact ⟨[(0,20)],_,fm⟩
 refine gos hn ?_
 refine goc hn ?_
 refine bselM h (fun hb11 h=>?_) (fun hb11 h=>?_)
 ·refine COk.seqQ fun _ A5 _ _=>?_
  refine god hn (by kernel_rfl) ?_
  refine Or.inr ?_
  obtain ⟨hg12,h⟩:=guardM h
  refine decM hg12 ?_
  refine Or.inr ?_
  refine Exists.intro (List.map eInt [(wr (a1+(1:Int)))]) (And.intro (by repeat (first|exact trivial|exact rfl|(refine And.intro ?_ ?_))) ?_)
  refine A5 _ _ ?_
  refine got hn ?_
  refine R1 _ _ ?_
  refine R0 _ _ ?_
  obtain rfl:=Option.some.inj h
  exact ⟨[(0,31)],_,fm⟩
 refine gos hn ?_
 refine goc hn ?_
 refine bselM h (fun hb13 h=>?_) (fun hb13 h=>?_)
 ·refine COk.seqQ fun _ A6 _ _=>?_
  refine god hn (by kernel_rfl) ?_
  refine Exists.intro (List.map eInt [a0.a]) (And.intro (by repeat (first|exact trivial|exact rfl|(refine And.intro ?_ ?_))) ?_)
  refine A6 _ _ ?_
  refine got hn ?_
  refine R1 _ _ ?_
  refine R0 _ _ ?_
  obtain rfl:=Option.some.inj h
  exact ⟨[(0,36)],_,fm⟩
 refine gos hn ?_
 refine goc hn ?_
 refine bselM h (fun hb14 h=>?_) (fun hb14 h=>?_)
 ·refine COk.seqQ fun _ A7 _ _=>?_
  refine god hn (by kernel_rfl) ?_
  refine Or.inr ?_
  refine Exists.intro (List.map eInt [(wr (a1+(1:Int))),a0.a]) (And.intro (by repeat (first|exact trivial|exact rfl|(refine And.intro ?_ ?_))) ?_)
  refine A7 _ _ ?_
  refine got hn ?_
  refine R1 _ _ ?_
  refine R0 _ _ ?_
  obtain rfl:=Option.some.inj h
  exact ⟨[(0,43)],_,fm⟩
 refine gos hn ?_
 refine goc hn ?_
 refine bselM h (fun hb15 h=>?_) (fun hb15 h=>?_)
 ·refine gos hn ?_
  refine COk.nilrow 6 206 1 3 rfl rfl rfl ?_
  refine got hn ?_
  refine R1 _ _ ?_
  refine R0 _ _ ?_
  obtain rfl:=Option.some.inj h
  exact ⟨[(0,206)],_,fm⟩
 refine gok hn ?_
 refine A1 _ _ ?_
 refine A0 _ _ ?_
 refine gos hn ?_
 refine Or.inr ?_
 refine Exists.intro (List.map eInt [(wr (a1+(1:Int)))]) (And.intro (by repeat (first|exact trivial|exact rfl|(refine And.intro ?_ ?_))) ?_)
 refine got hn ?_
 obtain rfl:=Option.some.inj h
 exact ⟨[(0,48)],_,fm⟩

/- qcref1.Heights -/
set_option maxRecDepth 100000 in
set_option maxHeartbeats 8000000 in
theorem qcref1_Heights_ok (N:Nat) (a0:Me) (r:((List Int)×TFault)) (h:qcref1_Heights N a0=some r):Spec Try.prog 79 [] [.agg (eMe a0)] (.tup [.own 0,.agg (eTFault r.2)]) [(0,.row 1 (List.map eInt r.1) 3)] [0]:=by
 refine Spec.of tabOk Try.func79 rfl Try.ntmps79 (by kernel_rfl) rfl rfl rfl fun Γ hn=>?_
 unfold qcref1_Heights at h
 refine gos hn ?_
 refine gos hn ?_
 refine lenM (fun _=>?_)
 obtain ⟨hg2,h⟩:=guardM h
 refine mkM (enc:=eInt) (x:=(0:Int)) hg2 (by repeat (first|exact trivial|exact rfl|(refine And.intro ?_ ?_))) ?_
 refine COk.seqQ fun _ A0 _ _=>?_
 refine gos hn ?_
 refine lenM (fun _=>?_)
 refine COk.rng 21 rfl (fun hrn=>?_)
 obtain ⟨o8,h9,h⟩:=bindM h
 refine jk (ι:={ s // o8=s }) hn (fun s=>[]) (fun s=>[(19,.row 1 (List.map eInt s.1) 3)]) [(1,_),(3,_),(4,_)] [(1,_),(3,_)] (fun _ A1 _ _=>?_) ?_
 ·refine COk.blkQ fun _ _ E2 _ _=>?_
  refine lq (ι:={ q:(Nat×Nat×(List Int)) // q.1=(((List.replicate (a0.code.length:Int).toNat (0:Int)).length:Int) - (q.2.1:Int)).toNat∧qcref1_Heights_l1 N q.1 q.2.1 q.2.2=some o8 }) hn (fun q=>[(22,.int (q.1.2.1:Int))]) (fun q=>[(19,.row 1 (List.map eInt q.1.2.2) 3)]) (fun q=>q.1.1) [(1,_),(3,_),(4,_),(21,_)] [(1,_),(3,_)] ⟨((((List.replicate (a0.code.length:Int).toNat (0:Int)).length:Int) - ((0:Nat):Int)).toNat,0,(List.replicate (a0.code.length:Int).toNat (0:Int))),rfl,h9⟩ [] ?_
  rintro ⟨⟨n_,k4,v5⟩,hd11,h9⟩ _ A3 X3 _
  replace hd11:n_=(((List.replicate (a0.code.length:Int).toNat (0:Int)).length:Int) - (k4:Int)).toNat:=hd11
  rcases n_ with _|n12
  ·have hlt15:=upNil hd11
   replace h9:=(qcref1_Heights_l1.eq_1 _ _ _).symm.trans h9
   refine gos hn ?_
   refine COk.seqQ fun _ _ X4 _=>?_
   refine goc hn ?_
   refine bselF hlt15 ?_
   refine goe hn ?_
   refine X4 _ _ _ ?_
   refine X3 _ _ _ ?_
   refine E2 _ _ ?_
   refine A1 _ _ ?_
   exact jn ⟨_,sj h9⟩ []
  ·obtain ⟨hd2,hlt15⟩:=upCons hd11
   replace h9:=(qcref1_Heights_l1.eq_2 _ _ _ _).symm.trans h9
   refine gos hn ?_
   refine COk.seqQ fun _ A5 _ _=>?_
   refine goc hn ?_
   refine bselT hlt15 ?_
   refine gok hn ?_
   refine A5 _ _ ?_
   refine COk.seqQ fun _ A6 _ _=>?_
   refine COk.blkQ fun _ A7 _ _ _=>?_
   refine gos hn ?_
   refine gor hn ?_
   obtain ⟨x16,hx17,h9⟩:=bindM h9
   refine ownM hx17 ?_
   refine ldM (nthO_some hx17).2 ?_
   refine Exists.intro (List.map eInt (v5.set ((k4:Int).toNat) (-1:Int))) (And.intro (leLs_set (nthO_some hx17).2 (by repeat (first|exact trivial|exact rfl|(refine And.intro ?_ ?_)))) ?_)
   refine A7 _ _ ?_
   refine A6 _ _ ?_
   refine gor hn ?_
   refine Or.inl (And.intro (inrU hlt15 hrn) ?_)
   refine A3 _ _ ?_
   exact jn ⟨(n12,k4+1,(v5.set ((k4:Int).toNat) (-1:Int))),hd2,h9⟩ [] (by show n12 < n12+1; omega)
 rintro ⟨v7,hv_⟩
 replace hv_:=hv_.symm
 subst hv_
 refine A0 _ _ ?_
 refine gos hn ?_
 refine Exists.intro (List.map eInt [(0:Int)]) (And.intro (by repeat (first|exact trivial|exact rfl|(refine And.intro ?_ ?_))) ?_)
 refine Exists.intro (List.map eInt [(0:Int)]) (And.intro (by repeat (first|exact trivial|exact rfl|(refine And.intro ?_ ?_))) ?_)
 refine COk.seqQ fun _ A8 _ R8=>?_
 refine gos hn ?_
 obtain ⟨o28,h29,h⟩:=bindM h
 refine jk (ι:={ s // o28=Ctl.next s }) hn (fun s=>[]) (fun s=>[(19,.row 1 (List.map eInt s.1) 3)]) [(3,_),(4,_)] [(3,_)] (fun _ A9 _ R9=>?_) ?_
 ·refine COk.blkQ fun _ _ E10 _ R10=>?_
  refine lq (ι:={ q:(Nat×(List Int)×(List Int)×(List Int)×Int) // qcref1_Heights_l2 N a0 q.1 q.2.1 q.2.2.1 q.2.2.2.1 q.2.2.2.2=some o28 }) hn (fun q=>[(8,.int q.1.2.2.2.2)]) (fun q=>[(19,.row 1 (List.map eInt q.1.2.1) 3),(29,.row 1 (List.map eInt q.1.2.2.1) 3),(30,.row 1 (List.map eInt q.1.2.2.2.1) 3)]) (fun q=>q.1.1) [(1,_),(3,_),(4,_),(6,_),(7,_)] [(1,_),(3,_)] ⟨(N,v7,[(0:Int)],[(0:Int)],(0:Int)),h29⟩ [] ?_
  rintro ⟨⟨n_,v19,v20,v21,v22⟩,h29⟩ _ A11 X11 R11
  rcases n_ with _|n32
  ·rw [qcref1_Heights_l2.eq_1] at h29
   cases h29
  ·replace h29:=(qcref1_Heights_l2.eq_2 _ _ _ _ _ _ _).symm.trans h29
   refine COk.seqQ fun _ A12 X12 _=>?_
   refine gos hn ?_
   refine lenM (fun _=>?_)
   refine goc hn ?_
   refine bselM h29 (fun hb34 h29=>?_) (fun hb34 h29=>?_)
   ·refine gok hn ?_
    refine A12 _ _ ?_
    refine COk.seqQ fun _ A13 _ R13=>?_
    obtain ⟨o39,h38,h29⟩:=bindM h29
    refine jk (ι:={ s // o39=Ctl.next s }) hn (fun s=>[]) (fun s=>[(19,.row 1 (List.map eInt s.1.1) 3),(29,.row 1 (List.map eInt s.1.2.1) 3),(30,.row 1 (List.map eInt s.1.2.2) 3)]) [(1,_),(3,_),(4,_),(6,_),(7,_),(8,_)] [(1,_),(3,_)] (fun _ A14 _ R14=>?_) ?_
    ·refine COk.blkQ fun _ A15 E15 _ R15=>?_
     refine COk.seqQ fun _ A16 _ _=>?_
     refine god hn (by kernel_rfl) ?_
     obtain ⟨x40,hx41,h38⟩:=bindM h38
     refine ownM hx41 ?_
     refine ldM (nthO_some hx41).2 ?_
     obtain ⟨x42,hx43,h38⟩:=bindM h38
     refine ownM hx43 ?_
     refine ldM (nthO_some hx43).2 ?_
     refine A16 _ _ ?_
     refine COk.seqQ fun _ A17 _ R17=>?_
     refine COk.seqQ fun _ A18 _ _=>?_
     obtain ⟨o46,h45,h38⟩:=bindM h38
     refine jk (ι:={ s // o46=s }) hn (fun s=>[(53,.bool s.1)]) (fun s=>[]) [(1,_),(3,_),(4,_),(6,_),(7,_),(8,_),(9,_),(10,_)] [(1,_),(3,_),(19,_),(29,_),(30,_)] (fun _ A19 _ _=>?_) ?_
     ·refine kp [(1,_),(3,_),(4,_),(6,_),(7,_),(8,_),(9,_),(10,_)] [(1,_),(3,_),(19,_),(29,_),(30,_)] ?_
      refine gor hn ?_
      refine lenM (fun _=>?_)
      refine bselM h45 (fun hb48 h45=>?_) (fun hb48 h45=>?_)
      ·refine bselT hb48 ?_
       refine bselT hb48 ?_
       refine A19 _ _ ?_
       exact jn ⟨_,sj h45⟩ []
      refine bselF hb48 ?_
      refine bselF hb48 ?_
      refine A19 _ _ ?_
      exact jn ⟨_,sj h45⟩ []
     rintro ⟨v44,hv_⟩
     replace hv_:=hv_.symm
     subst hv_
     refine A18 _ _ ?_
     refine goc hn ?_
     refine bselM h38 (fun hb49 h38=>?_) (fun hb49 h38=>?_)
     ·refine COk.seqQ fun _ A20 _ _=>?_
      refine god hn (by kernel_rfl) ?_
      refine lenM (fun _=>?_)
      refine A20 _ _ ?_
      refine COk.nilrow 2 202 1 3 rfl rfl rfl ?_
      refine got hn ?_
      refine R17 _ _ ?_
      refine R15 _ _ ?_
      refine R14 _ _ ?_
      refine R13 _ _ ?_
      refine R11 _ _ ?_
      refine R10 _ _ ?_
      refine R9 _ _ ?_
      refine R8 _ _ ?_
      obtain rfl:=Option.some.inj h38
      obtain rfl:=Option.some.inj h29
      obtain rfl:=Option.some.inj h
      exact ⟨[(0,202)],_,fm⟩
     refine gok hn ?_
     refine A17 _ _ ?_
     refine COk.seqQ fun _ A21 X21 R21=>?_
     refine gos hn ?_
     obtain ⟨x51,hx52,h38⟩:=bindM h38
     refine ownM hx52 ?_
     refine ldM (nthO_some hx52).2 ?_
     refine goc hn ?_
     refine bselM h38 (fun hb53 h38=>?_) (fun hb53 h38=>?_)
     ·refine COk.seqQ fun _ A22 _ R22=>?_
      refine gos hn ?_
      obtain ⟨x54,hx55,h38⟩:=bindM h38
      refine ownM hx55 ?_
      refine ldM (nthO_some hx55).2 ?_
      refine goc hn ?_
      refine bselM h38 (fun hb56 h38=>?_) (fun hb56 h38=>?_)
      ·refine kp [(3,_),(9,_)] [(3,_)] ?_
       refine gos hn ?_
       refine COk.nilrow 2 202 1 3 rfl rfl rfl ?_
       refine got hn ?_
       refine R22 _ _ ?_
       refine R21 _ _ ?_
       refine R15 _ _ ?_
       refine R14 _ _ ?_
       refine R13 _ _ ?_
       refine R11 _ _ ?_
       refine R10 _ _ ?_
       refine R9 _ _ ?_
       refine R8 _ _ ?_
       obtain rfl:=Option.some.inj h38
       obtain rfl:=Option.some.inj h29
       obtain rfl:=Option.some.inj h
       exact ⟨[(0,202)],_,fm⟩
      refine gok hn ?_
      refine A22 _ _ ?_
      refine goe hn ?_
      refine X21 _ _ _ ?_
      refine E15 _ _ ?_
      refine A14 _ _ ?_
      exact jn ⟨_,sj h38⟩ []
     refine gok hn ?_
     refine A21 _ _ ?_
     refine gos hn ?_
     obtain ⟨x57,hx58,h38⟩:=bindM h38
     refine ownM hx58 ?_
     refine ldM (nthO_some hx58).2 ?_
     refine Exists.intro (List.map eInt (v19.set x40.toNat x42)) (And.intro (leLs_set (nthO_some hx58).2 (by repeat (first|exact trivial|exact rfl|(refine And.intro ?_ ?_)))) ?_)
     refine kp [(1,_),(3,_),(4,_),(6,_),(7,_),(8,_),(9,_),(10,_)] [(1,_),(3,_),(19,_),(29,_),(30,_)] ?_
     refine gos hn ?_
     obtain ⟨x59,hx60,h38⟩:=bindM h38
     refine idxM hx60 ?_
     obtain ⟨r61,hr62,h38⟩:=bindM h38
     show CallOk Try.prog _ _ _ _
     refine cA ((qcref1_Next_ok N x59 x40 r61 hr62).sw 0 82) ?_
     refine COk.seqQ fun _ A23 _ R23=>?_
     refine COk.seqQ fun _ A24 _ _=>?_
     obtain ⟨o65,h64,h38⟩:=bindM h38
     refine jk (ι:={ s // o65=s }) hn (fun s=>[(101,.bool s.1)]) (fun s=>[]) [(1,_),(3,_),(4,_),(6,_),(7,_),(8,_),(9,_),(10,_),(12,_),(13,_)] [(1,_),(3,_),(19,_),(29,_),(30,_),(82,_)] (fun _ A25 _ _=>?_) ?_
     ·refine kp [(1,_),(3,_),(4,_),(6,_),(7,_),(8,_),(9,_),(10,_),(11,_),(12,_),(13,_)] [(1,_),(3,_),(19,_),(29,_),(30,_),(82,_)] ?_
      refine gor hn ?_
      refine bselM h64 (fun hb66 h64=>?_) (fun hb66 h64=>?_)
      ·refine bselT hb66 ?_
       refine bselT hb66 ?_
       refine bselT hb66 ?_
       refine bselT hb66 ?_
       refine bselT hb66 ?_
       refine bselT hb66 ?_
       refine bselT hb66 ?_
       refine bselT hb66 ?_
       refine bselT hb66 ?_
       refine A25 _ _ ?_
       exact jn ⟨_,sj h64⟩ []
      refine bselF hb66 ?_
      refine bselF hb66 ?_
      refine bselF hb66 ?_
      obtain ⟨x67,hx68,h64⟩:=bindM h64
      refine idxM hx68 ?_
      refine bselF hb66 ?_
      refine bselF hb66 ?_
      refine bselF hb66 ?_
      refine bselF hb66 ?_
      refine bselM h64 (fun hb69 h64=>?_) (fun hb69 h64=>?_)
      ·refine bselT hb69 ?_
       refine bselF hb66 ?_
       refine bselT hb69 ?_
       refine bselF hb66 ?_
       refine A25 _ _ ?_
       exact jn ⟨_,sj h64⟩ []
      refine bselF hb69 ?_
      refine bselF hb66 ?_
      refine bselF hb69 ?_
      refine bselF hb66 ?_
      refine A25 _ _ ?_
      exact jn ⟨_,sj h64⟩ []
     rintro ⟨v63,hv_⟩
     replace hv_:=hv_.symm
     subst hv_
     refine A24 _ _ ?_
     refine goc hn ?_
     refine bselM h38 (fun hb70 h38=>?_) (fun hb70 h38=>?_)
     ·refine gos hn ?_
      refine COk.nilrow 2 202 1 3 rfl rfl rfl ?_
      refine got hn ?_
      refine R23 _ _ ?_
      refine R15 _ _ ?_
      refine R14 _ _ ?_
      refine R13 _ _ ?_
      refine R11 _ _ ?_
      refine R10 _ _ ?_
      refine R9 _ _ ?_
      refine R8 _ _ ?_
      obtain rfl:=Option.some.inj h38
      obtain rfl:=Option.some.inj h29
      obtain rfl:=Option.some.inj h
      exact ⟨[(0,202)],_,fm⟩
     refine gok hn ?_
     refine A23 _ _ ?_
     refine COk.seqQ fun _ A26 _ R26=>?_
     refine gos hn ?_
     refine Or.inr ?_
     refine goc hn ?_
     refine bselM h38 (fun hb71 h38=>?_) (fun hb71 h38=>?_)
     ·refine gos hn ?_
      refine COk.nilrow 2 202 1 3 rfl rfl rfl ?_
      refine got hn ?_
      refine R26 _ _ ?_
      refine R15 _ _ ?_
      refine R14 _ _ ?_
      refine R13 _ _ ?_
      refine R11 _ _ ?_
      refine R10 _ _ ?_
      refine R9 _ _ ?_
      refine R8 _ _ ?_
      obtain rfl:=Option.some.inj h38
      obtain rfl:=Option.some.inj h29
      obtain rfl:=Option.some.inj h
      exact ⟨[(0,202)],_,fm⟩
     refine gok hn ?_
     refine A26 _ _ ?_
     refine gos hn ?_
     refine lenM (fun hl72=>?_)
     obtain ⟨o80,h81,h38⟩:=bindM h38
     refine jk (ι:={ s // o80=s }) hn (fun s=>[]) (fun s=>[(29,.row 1 (List.map eInt s.1.1) 3),(30,.row 1 (List.map eInt s.1.2) 3)]) [(1,_),(3,_),(4,_),(6,_),(7,_),(8,_)] [(1,_),(3,_),(19,_)] (fun _ A27 _ _=>?_) ?_
     ·refine COk.blkQ fun _ _ E28 _ _=>?_
      refine lq (ι:={ q:((List Int)×Nat×(List Int)×(List Int)) // q.1=r61.2.2.drop q.2.1∧qcref1_Heights_l3 N x42 r61 q.1 q.2.1 q.2.2.1 q.2.2.2=some o80 }) hn (fun q=>[(112,.int (q.1.2.1:Int))]) (fun q=>[(29,.row 1 (List.map eInt q.1.2.2.1) 3),(30,.row 1 (List.map eInt q.1.2.2.2) 3)]) (fun q=>q.1.1.length) [(1,_),(3,_),(4,_),(6,_),(7,_),(8,_),(10,_),(12,_),(110,_),(111,_)] [(1,_),(3,_),(19,_),(82,_)] ⟨(r61.2.2,0,v20,v21),rfl,h81⟩ [] ?_
      rintro ⟨⟨rest_,k73,v74,v75⟩,hd83,h81⟩ _ A29 X29 _
      replace hd83:rest_=r61.2.2.drop k73:=hd83
      rcases rest_ with _|⟨x85,rest82⟩
      ·have hlt87:=restNil hd83
       replace h81:=(qcref1_Heights_l3.eq_1 _ _ _ _ _ _).symm.trans h81
       refine gos hn ?_
       refine COk.seqQ fun _ _ X30 _=>?_
       refine goc hn ?_
       refine bselF hlt87 ?_
       refine goe hn ?_
       refine X30 _ _ _ ?_
       refine X29 _ _ _ ?_
       refine E28 _ _ ?_
       refine A27 _ _ ?_
       exact jn ⟨_,sj h81⟩ []
      ·obtain ⟨hx86,hd2,hlt87⟩:=restCons hd83
       replace h81:=(qcref1_Heights_l3.eq_2 _ _ _ _ _ _ _ _).symm.trans h81
       refine gos hn ?_
       refine COk.seqQ fun _ A31 _ _=>?_
       refine goc hn ?_
       refine bselT hlt87 ?_
       refine gok hn ?_
       refine A31 _ _ ?_
       refine COk.seqQ fun _ A32 _ _=>?_
       refine COk.blkQ fun _ A33 _ _ _=>?_
       refine gos hn ?_
       obtain ⟨x88,hx89,h81⟩:=bindM h81
       refine ownM hx89 ?_
       refine ldM (nthO_some hx89).2 ?_
       refine gor hn ?_
       refine Exists.intro (List.map eInt [x88]) (And.intro (by repeat (first|exact trivial|exact rfl|(refine And.intro ?_ ?_))) ?_)
       obtain ⟨hg90,h81⟩:=guardM h81
       refine appM (l2:=[x88]) hg90 (leLs_refl _) ?_
       refine Or.inr ?_
       refine Exists.intro (List.map eInt [(wr (x42+r61.2.1))]) (And.intro (by repeat (first|exact trivial|exact rfl|(refine And.intro ?_ ?_))) ?_)
       obtain ⟨hg91,h81⟩:=guardM h81
       refine appM (l2:=[(wr (x42+r61.2.1))]) hg91 (leLs_refl _) ?_
       refine A33 _ _ ?_
       refine A32 _ _ ?_
       refine kp [(1,_),(3,_),(4,_),(6,_),(7,_),(8,_),(10,_),(12,_),(110,_),(111,_),(112,_)] [(1,_),(3,_),(19,_),(82,_),(119,_),(125,_)] ?_
       refine gor hn ?_
       refine Or.inl (And.intro (inrK hx86 hl72) ?_)
       refine A29 _ _ ?_
       exact jn ⟨(rest82,k73+1,(v74++[x88]),(v75++[(wr (x42+r61.2.1))])),hd2,h81⟩ [(29,119),(30,125)] (by show rest82.length < rest82.length+1; omega)
     rintro ⟨⟨v78,v79⟩,rfl⟩
     refine A15 _ _ ?_
     refine A14 _ _ ?_
     exact jn ⟨_,sj h38⟩ []
    rintro ⟨⟨v35,v36,v37⟩,rfl⟩
    refine A13 _ _ ?_
    refine gor hn ?_
    refine Or.inr ?_
    refine A11 _ _ ?_
    exact jn ⟨(n32,v35,v36,v37,(wr (v22+(1:Int)))),h29⟩ [] (by show n32 < n32+1; omega)
   refine goe hn ?_
   refine X12 _ _ _ ?_
   refine X11 _ _ _ ?_
   refine E10 _ _ ?_
   refine A9 _ _ ?_
   exact jn ⟨_,sj h29⟩ []
 rintro ⟨v27,rfl⟩
 refine A8 _ _ ?_
 refine gos hn ?_
 refine got hn ?_
 obtain rfl:=Option.some.inj h
 exact ⟨[(0,19)],_,fm⟩

/- qcref1.Check -/
set_option maxRecDepth 100000 in
set_option maxHeartbeats 8000000 in
theorem qcref1_Check_ok (N:Nat) (a0:Wd) (a1:Int) (a2:Me) (r:TFault) (h:qcref1_Check N a0 a1 a2=some r):Spec Try.prog 41 [] [.agg (eWd a0),.int a1,.agg (eMe a2)] (.agg (eTFault r)) [] []:=by
 refine Spec.of tabOk Try.func41 rfl Try.ntmps41 (by kernel_rfl) rfl rfl rfl fun Γ hn=>?_
 unfold qcref1_Check at h
 refine gos hn ?_
 refine COk.seqQ fun _ A0 _ R0=>?_
 refine COk.seqQ fun _ A1 _ _=>?_
 obtain ⟨o3,h2,h⟩:=bindM h
 refine jk (ι:={ s // o3=s }) hn (fun s=>[(20,.bool s.1)]) (fun s=>[]) [(1,_),(3,_),(5,_),(6,_)] [(3,_),(5,_),(6,_)] (fun _ A2 _ _=>?_) ?_
 ·refine gor hn ?_
  refine bselM h2 (fun hb4 h2=>?_) (fun hb4 h2=>?_)
  ·refine bselT hb4 ?_
   refine bselT hb4 ?_
   refine bselT hb4 ?_
   refine bselT hb4 ?_
   refine bselT hb4 ?_
   refine A2 _ _ ?_
   exact jn ⟨_,sj h2⟩ []
  refine bselF hb4 ?_
  refine bselF hb4 ?_
  refine bselF hb4 ?_
  refine lenM (fun _=>?_)
  refine bselF hb4 ?_
  refine bselF hb4 ?_
  refine A2 _ _ ?_
  exact jn ⟨_,sj h2⟩ []
 rintro ⟨v1,hv_⟩
 replace hv_:=hv_.symm
 subst hv_
 refine A1 _ _ ?_
 refine goc hn ?_
 refine bselM h (fun hb6 h=>?_) (fun hb6 h=>?_)
 ·refine gos hn ?_
  refine got hn ?_
  refine R0 _ _ ?_
  obtain rfl:=Option.some.inj h
  exact ⟨[],_,fm⟩
 refine gok hn ?_
 refine A0 _ _ ?_
 refine COk.seqQ fun _ A3 _ R3=>?_
 refine gos hn ?_
 obtain ⟨r7,hr8,h⟩:=bindM h
 show CallOk Try.prog _ _ _ _
 refine cA (qcref1_Name_ok N a2.name r7 hr8) ?_
 refine goc hn ?_
 refine bselM h (fun hb9 h=>?_) (fun hb9 h=>?_)
 ·refine gos hn ?_
  refine got hn ?_
  refine R3 _ _ ?_
  obtain rfl:=Option.some.inj h
  exact ⟨[],_,fm⟩
 refine gok hn ?_
 refine A3 _ _ ?_
 refine COk.seqQ fun _ A4 _ R4=>?_
 refine COk.seqQ fun _ A5 _ _=>?_
 obtain ⟨o12,h11,h⟩:=bindM h
 refine jk (ι:={ s // o12=s }) hn (fun s=>[(44,.bool s.1)]) (fun s=>[]) [(1,_),(3,_),(5,_),(6,_)] [(3,_),(5,_),(6,_)] (fun _ A6 _ _=>?_) ?_
 ·refine gor hn ?_
  refine bselM h11 (fun hb13 h11=>?_) (fun hb13 h11=>?_)
  ·refine bselT hb13 ?_
   refine bselT hb13 ?_
   refine bselT hb13 ?_
   refine A6 _ _ ?_
   exact jn ⟨_,sj h11⟩ []
  refine bselF hb13 ?_
  refine bselF hb13 ?_
  refine bselF hb13 ?_
  refine bselM h11 (fun hb14 h11=>?_) (fun hb14 h11=>?_)
  ·refine bselT hb14 ?_
   refine bselT hb14 ?_
   refine bselT hb14 ?_
   refine A6 _ _ ?_
   exact jn ⟨_,sj h11⟩ []
  refine bselF hb14 ?_
  refine bselF hb14 ?_
  refine bselF hb14 ?_
  refine bselM h11 (fun hb15 h11=>?_) (fun hb15 h11=>?_)
  ·refine bselT hb15 ?_
   refine bselT hb15 ?_
   refine bselT hb15 ?_
   refine A6 _ _ ?_
   exact jn ⟨_,sj h11⟩ []
  refine bselF hb15 ?_
  refine bselF hb15 ?_
  refine bselF hb15 ?_
  refine A6 _ _ ?_
  exact jn ⟨_,sj h11⟩ []
 rintro ⟨v10,hv_⟩
 replace hv_:=hv_.symm
 subst hv_
 refine A5 _ _ ?_
 refine goc hn ?_
 refine bselM h (fun hb16 h=>?_) (fun hb16 h=>?_)
 ·refine gos hn ?_
  refine got hn ?_
  refine R4 _ _ ?_
  obtain rfl:=Option.some.inj h
  exact ⟨[],_,fm⟩
 refine gok hn ?_
 refine A4 _ _ ?_
 refine COk.seqQ fun _ A7 _ R7=>?_
 refine gos hn ?_
 refine goc hn ?_
 refine bselM h (fun hb17 h=>?_) (fun hb17 h=>?_)
 ·refine gos hn ?_
  refine got hn ?_
  refine R7 _ _ ?_
  obtain rfl:=Option.some.inj h
  exact ⟨[],_,fm⟩
 refine gok hn ?_
 refine A7 _ _ ?_
 refine COk.seqQ fun _ A8 _ R8=>?_
 refine COk.seqQ fun _ A9 _ _=>?_
 obtain ⟨o20,h19,h⟩:=bindM h
 refine jk (ι:={ s // o20=s }) hn (fun s=>[(59,.bool s.1)]) (fun s=>[]) [(1,_),(3,_),(5,_),(6,_)] [(3,_),(5,_),(6,_)] (fun _ A10 _ _=>?_) ?_
 ·refine gor hn ?_
  refine lenM (fun _=>?_)
  refine bselM h19 (fun hb22 h19=>?_) (fun hb22 h19=>?_)
  ·refine bselT hb22 ?_
   refine bselT hb22 ?_
   refine bselT hb22 ?_
   refine bselT hb22 ?_
   refine A10 _ _ ?_
   exact jn ⟨_,sj h19⟩ []
  refine bselF hb22 ?_
  refine bselF hb22 ?_
  refine lenM (fun _=>?_)
  refine bselF hb22 ?_
  refine bselF hb22 ?_
  refine A10 _ _ ?_
  exact jn ⟨_,sj h19⟩ []
 rintro ⟨v18,hv_⟩
 replace hv_:=hv_.symm
 subst hv_
 refine A9 _ _ ?_
 refine goc hn ?_
 refine bselM h (fun hb24 h=>?_) (fun hb24 h=>?_)
 ·refine gos hn ?_
  refine got hn ?_
  refine R8 _ _ ?_
  obtain rfl:=Option.some.inj h
  exact ⟨[],_,fm⟩
 refine gok hn ?_
 refine A8 _ _ ?_
 refine COk.seqQ fun _ A11 _ R11=>?_
 refine gos hn ?_
 refine lenM (fun hl25=>?_)
 obtain ⟨o27,h28,h⟩:=bindM h
 refine jk (ι:={ s // o27=Ctl.next s }) hn (fun s=>[]) (fun s=>[]) [(5,_),(6,_)] [(5,_),(6,_)] (fun _ A12 _ R12=>?_) ?_
 ·refine COk.blkQ fun _ _ E13 _ R13=>?_
  refine lq (ι:={ q:((List Ins)×Nat) // q.1=a2.code.drop q.2∧qcref1_Check_l1 N a0 a1 a2 q.1 q.2=some o27 }) hn (fun q=>[(64,.int (q.1.2:Int))]) (fun q=>[]) (fun q=>q.1.1.length) [(1,_),(3,_),(5,_),(6,_),(62,_),(63,_)] [(3,_),(5,_),(6,_)] ⟨(a2.code,0),rfl,h28⟩ [] ?_
  rintro ⟨⟨rest_,k26⟩,hd30,h28⟩ _ A14 X14 R14
  replace hd30:rest_=a2.code.drop k26:=hd30
  rcases rest_ with _|⟨x32,rest29⟩
  ·have hlt34:=restNil hd30
   replace h28:=(qcref1_Check_l1.eq_1 _ _ _ _ _).symm.trans h28
   refine gos hn ?_
   refine COk.seqQ fun _ _ X15 _=>?_
   refine goc hn ?_
   refine bselF hlt34 ?_
   refine goe hn ?_
   refine X15 _ _ _ ?_
   refine X14 _ _ _ ?_
   refine E13 _ _ ?_
   refine A12 _ _ ?_
   exact jn ⟨_,sj h28⟩ []
  ·obtain ⟨hx33,hd2,hlt34⟩:=restCons hd30
   replace h28:=(qcref1_Check_l1.eq_2 _ _ _ _ _ _ _).symm.trans h28
   refine gos hn ?_
   refine COk.seqQ fun _ A16 _ _=>?_
   refine goc hn ?_
   refine bselT hlt34 ?_
   refine gok hn ?_
   refine A16 _ _ ?_
   refine COk.seqQ fun _ A17 _ R17=>?_
   refine COk.blkQ fun _ A18 _ _ R18=>?_
   refine gos hn ?_
   refine idxK hx33 ?_
   refine gos hn ?_
   obtain ⟨r35,hr36,h28⟩:=bindM h28
   show CallOk Try.prog _ _ _ _
   refine cA (qcref1_Numbers_ok N a0 a1 a2 x32 r35 hr36) ?_
   refine kp [(1,_),(3,_),(5,_),(6,_),(7,_),(9,_),(62,_),(63,_),(64,_)] [(3,_),(5,_),(6,_)] ?_
   refine gos hn ?_
   refine goc hn ?_
   refine bselM h28 (fun hb37 h28=>?_) (fun hb37 h28=>?_)
   ·refine gos hn ?_
    refine got hn ?_
    refine R18 _ _ ?_
    refine R17 _ _ ?_
    refine R14 _ _ ?_
    refine R13 _ _ ?_
    refine R12 _ _ ?_
    refine R11 _ _ ?_
    obtain rfl:=Option.some.inj h28
    obtain rfl:=Option.some.inj h
    exact ⟨[],_,fm⟩
   refine gok hn ?_
   refine A18 _ _ ?_
   refine A17 _ _ ?_
   refine gor hn ?_
   refine Or.inl (And.intro (inrK hx33 hl25) ?_)
   refine A14 _ _ ?_
   exact jn ⟨(rest29,k26+1),hd2,h28⟩ [] (by show rest29.length < rest29.length+1; omega)
 rintro ⟨⟨⟩,rfl⟩
 refine A11 _ _ ?_
 refine gos hn ?_
 obtain ⟨r38,hr39,h⟩:=bindM h
 show CallOk Try.prog _ _ _ _
 refine cA ((qcref1_Heights_ok N a2 r38 hr39).sw 0 82) ?_
 refine gos hn ?_
 refine got hn ?_
 obtain rfl:=Option.some.inj h
 exact ⟨[],_,fm⟩

/- qcref1.Wrong -/
set_option maxRecDepth 100000 in
set_option maxHeartbeats 8000000 in
theorem qcref1_Wrong_ok (N:Nat) (a0:V) (a1:Int) (r:Int) (h:qcref1_Wrong N a0 a1=some r):Spec Try.prog 20 [] [.agg (eV a0),.int a1] (.int r) [] []:=by
 refine Spec.of tabOk Try.func20 rfl Try.ntmps20 (by kernel_rfl) rfl rfl rfl fun Γ hn=>?_
 unfold qcref1_Wrong at h
 refine gos hn ?_
 refine COk.seqQ fun _ A0 _ R0=>?_
 refine COk.seqQ fun _ A1 _ _=>?_
 obtain ⟨o3,h2,h⟩:=bindM h
 refine jk (ι:={ s // o3=s }) hn (fun s=>[(12,.bool s.1)]) (fun s=>[]) [(1,_),(2,_)] [(2,_)] (fun _ A2 _ _=>?_) ?_
 ·refine gor hn ?_
  refine bselM h2 (fun hb4 h2=>?_) (fun hb4 h2=>?_)
  ·refine bselT hb4 ?_
   refine bselT hb4 ?_
   refine bselT hb4 ?_
   refine A2 _ _ ?_
   exact jn ⟨_,sj h2⟩ []
  refine bselF hb4 ?_
  refine bselF hb4 ?_
  refine bselF hb4 ?_
  refine A2 _ _ ?_
  exact jn ⟨_,sj h2⟩ []
 rintro ⟨v1,hv_⟩
 replace hv_:=hv_.symm
 subst hv_
 refine A1 _ _ ?_
 refine goc hn ?_
 refine bselM h (fun hb5 h=>?_) (fun hb5 h=>?_)
 ·refine gos hn ?_
  refine got hn ?_
  refine R0 _ _ ?_
  obtain rfl:=Option.some.inj h
  exact ⟨[],_,fm⟩
 refine gok hn ?_
 refine A0 _ _ ?_
 refine COk.seqQ fun _ A3 _ R3=>?_
 refine COk.seqQ fun _ A4 _ _=>?_
 obtain ⟨o8,h7,h⟩:=bindM h
 refine jk (ι:={ s // o8=s }) hn (fun s=>[(20,.bool s.1)]) (fun s=>[]) [(1,_),(2,_)] [(2,_)] (fun _ A5 _ _=>?_) ?_
 ·refine gor hn ?_
  refine bselM h7 (fun hb9 h7=>?_) (fun hb9 h7=>?_)
  ·refine bselT hb9 ?_
   refine bselT hb9 ?_
   refine bselT hb9 ?_
   refine A5 _ _ ?_
   exact jn ⟨_,sj h7⟩ []
  refine bselF hb9 ?_
  refine bselF hb9 ?_
  refine bselF hb9 ?_
  refine A5 _ _ ?_
  exact jn ⟨_,sj h7⟩ []
 rintro ⟨v6,hv_⟩
 replace hv_:=hv_.symm
 subst hv_
 refine A4 _ _ ?_
 refine goc hn ?_
 refine bselM h (fun hb10 h=>?_) (fun hb10 h=>?_)
 ·refine gos hn ?_
  refine got hn ?_
  refine R3 _ _ ?_
  obtain rfl:=Option.some.inj h
  exact ⟨[],_,fm⟩
 refine gok hn ?_
 refine A3 _ _ ?_
 refine COk.seqQ fun _ A6 _ R6=>?_
 refine COk.seqQ fun _ A7 _ _=>?_
 obtain ⟨o13,h12,h⟩:=bindM h
 refine jk (ι:={ s // o13=s }) hn (fun s=>[(33,.bool s.1)]) (fun s=>[]) [(1,_),(2,_)] [(2,_)] (fun _ A8 _ _=>?_) ?_
 ·refine gor hn ?_
  refine bselM h12 (fun hb14 h12=>?_) (fun hb14 h12=>?_)
  ·refine bselT hb14 ?_
   refine bselT hb14 ?_
   refine bselT hb14 ?_
   refine bselM h12 (fun hb15 h12=>?_) (fun hb15 h12=>?_)
   ·refine bselT hb15 ?_
    refine bselT hb15 ?_
    refine bselT hb14 ?_
    refine bselT hb15 ?_
    refine bselT hb14 ?_
    refine A8 _ _ ?_
    exact jn ⟨_,sj h12⟩ []
   refine bselF hb15 ?_
   refine bselF hb15 ?_
   refine bselT hb14 ?_
   refine bselF hb15 ?_
   refine bselT hb14 ?_
   refine A8 _ _ ?_
   exact jn ⟨_,sj h12⟩ []
  refine bselF hb14 ?_
  refine bselF hb14 ?_
  refine bselF hb14 ?_
  refine bselF hb14 ?_
  refine bselF hb14 ?_
  refine A8 _ _ ?_
  exact jn ⟨_,sj h12⟩ []
 rintro ⟨v11,hv_⟩
 replace hv_:=hv_.symm
 subst hv_
 refine A7 _ _ ?_
 refine goc hn ?_
 refine bselM h (fun hb16 h=>?_) (fun hb16 h=>?_)
 ·refine gos hn ?_
  refine got hn ?_
  refine R6 _ _ ?_
  obtain rfl:=Option.some.inj h
  exact ⟨[],_,fm⟩
 refine gok hn ?_
 refine A6 _ _ ?_
 refine COk.seqQ fun _ A9 _ R9=>?_
 refine COk.seqQ fun _ A10 _ _=>?_
 obtain ⟨o19,h18,h⟩:=bindM h
 refine jk (ι:={ s // o19=s }) hn (fun s=>[(47,.bool s.1)]) (fun s=>[]) [] [] (fun _ A11 _ _=>?_) ?_
 ·refine gor hn ?_
  refine bselM h18 (fun hb20 h18=>?_) (fun hb20 h18=>?_)
  ·refine bselT hb20 ?_
   refine bselT hb20 ?_
   refine bselT hb20 ?_
   refine bselM h18 (fun hb21 h18=>?_) (fun hb21 h18=>?_)
   ·refine bselT hb21 ?_
    refine bselT hb21 ?_
    refine bselT hb21 ?_
    refine bselT hb20 ?_
    refine bselT hb21 ?_
    refine bselT hb20 ?_
    refine A11 _ _ ?_
    exact jn ⟨_,sj h18⟩ []
   refine bselF hb21 ?_
   refine bselF hb21 ?_
   refine bselF hb21 ?_
   refine bselT hb20 ?_
   refine bselF hb21 ?_
   refine bselT hb20 ?_
   refine A11 _ _ ?_
   exact jn ⟨_,sj h18⟩ []
  refine bselF hb20 ?_
  refine bselF hb20 ?_
  refine bselF hb20 ?_
  refine bselF hb20 ?_
  refine bselF hb20 ?_
  refine A11 _ _ ?_
  exact jn ⟨_,sj h18⟩ []
 rintro ⟨v17,hv_⟩
 replace hv_:=hv_.symm
 subst hv_
 refine A10 _ _ ?_
 refine goc hn ?_
 refine bselM h (fun hb22 h=>?_) (fun hb22 h=>?_)
 ·refine gos hn ?_
  refine got hn ?_
  refine R9 _ _ ?_
  obtain rfl:=Option.some.inj h
  exact ⟨[],_,fm⟩
 refine gok hn ?_
 refine A9 _ _ ?_
 refine gos hn ?_
 refine got hn ?_
 obtain rfl:=Option.some.inj h
 exact ⟨[],_,fm⟩

/- qcref1.Right -/
set_option maxRecDepth 100000 in
set_option maxHeartbeats 8000000 in
theorem qcref1_Right_ok (N:Nat) (a0:Wd) (r:Int) (h:qcref1_Right N a0=some r):Spec Try.prog 13 [] [.agg (eWd a0)] (.int r) [] []:=by
 refine Spec.of tabOk Try.func13 rfl Try.ntmps13 (by kernel_rfl) rfl rfl rfl fun Γ hn=>?_
 unfold qcref1_Right at h
 refine gos hn ?_
 refine gos hn ?_
 obtain ⟨r1,hr2,h⟩:=bindM h
 show CallOk Try.prog _ _ _ _
 refine cA (qcref1_New_ok N  r1 hr2) ?_
 refine COk.seqQ fun _ A0 _ R0=>?_
 refine COk.seqQ fun _ A1 _ _=>?_
 obtain ⟨o5,h4,h⟩:=bindM h
 refine jk (ι:={ s // o5=s }) hn (fun s=>[(39,.bool s.1)]) (fun s=>[]) [(1,_),(3,_)] [(1,_),(3,_)] (fun _ A2 _ _=>?_) ?_
 ·refine gor hn ?_
  refine lenM (fun _=>?_)
  refine bselM h4 (fun hb7 h4=>?_) (fun hb7 h4=>?_)
  ·refine bselT hb7 ?_
   refine bselT hb7 ?_
   refine bselT hb7 ?_
   refine bselT hb7 ?_
   refine A2 _ _ ?_
   exact jn ⟨_,sj h4⟩ []
  refine bselF hb7 ?_
  refine bselF hb7 ?_
  refine lenM (fun _=>?_)
  refine bselF hb7 ?_
  refine bselF hb7 ?_
  refine bselM h4 (fun hb9 h4=>?_) (fun hb9 h4=>?_)
  ·refine bselT hb9 ?_
   refine bselT hb9 ?_
   refine bselT hb9 ?_
   refine bselT hb9 ?_
   refine A2 _ _ ?_
   exact jn ⟨_,sj h4⟩ []
  refine bselF hb9 ?_
  refine bselF hb9 ?_
  refine lenM (fun _=>?_)
  refine bselF hb9 ?_
  refine bselF hb9 ?_
  refine A2 _ _ ?_
  exact jn ⟨_,sj h4⟩ []
 rintro ⟨v3,hv_⟩
 replace hv_:=hv_.symm
 subst hv_
 refine A1 _ _ ?_
 refine goc hn ?_
 refine bselM h (fun hb11 h=>?_) (fun hb11 h=>?_)
 ·refine gos hn ?_
  refine got hn ?_
  refine R0 _ _ ?_
  obtain rfl:=Option.some.inj h
  exact ⟨[],_,fm⟩
 refine gok hn ?_
 refine A0 _ _ ?_
 refine COk.seqQ fun _ A3 _ R3=>?_
 refine COk.seqQ fun _ A4 _ _=>?_
 obtain ⟨o14,h13,h⟩:=bindM h
 refine jk (ι:={ s // o14=s }) hn (fun s=>[(47,.bool s.1)]) (fun s=>[]) [(1,_),(3,_)] [(1,_),(3,_)] (fun _ A5 _ _=>?_) ?_
 ·refine gor hn ?_
  refine bselM h13 (fun hb15 h13=>?_) (fun hb15 h13=>?_)
  ·refine bselT hb15 ?_
   refine bselT hb15 ?_
   refine bselT hb15 ?_
   refine A5 _ _ ?_
   exact jn ⟨_,sj h13⟩ []
  refine bselF hb15 ?_
  refine bselF hb15 ?_
  refine bselF hb15 ?_
  refine A5 _ _ ?_
  exact jn ⟨_,sj h13⟩ []
 rintro ⟨v12,hv_⟩
 replace hv_:=hv_.symm
 subst hv_
 refine A4 _ _ ?_
 refine goc hn ?_
 refine bselM h (fun hb16 h=>?_) (fun hb16 h=>?_)
 ·refine gos hn ?_
  refine got hn ?_
  refine R3 _ _ ?_
  obtain rfl:=Option.some.inj h
  exact ⟨[],_,fm⟩
 refine gok hn ?_
 refine A3 _ _ ?_
 refine COk.seqQ fun _ A6 _ R6=>?_
 refine gos hn ?_
 refine lenM (fun hl17=>?_)
 obtain ⟨o19,h20,h⟩:=bindM h
 refine jk (ι:={ s // o19=Ctl.next s }) hn (fun s=>[]) (fun s=>[]) [(1,_),(3,_)] [(1,_),(3,_)] (fun _ A7 _ R7=>?_) ?_
 ·refine COk.blkQ fun _ _ E8 _ R8=>?_
  refine lq (ι:={ q:((List Cl)×Nat) // q.1=a0.classes.drop q.2∧qcref1_Right_l1 N a0 r1 q.1 q.2=some o19 }) hn (fun q=>[(51,.int (q.1.2:Int))]) (fun q=>[]) (fun q=>q.1.1.length) [(1,_),(3,_),(49,_),(50,_)] [(1,_),(3,_)] ⟨(a0.classes,0),rfl,h20⟩ [] ?_
  rintro ⟨⟨rest_,k18⟩,hd22,h20⟩ _ A9 X9 R9
  replace hd22:rest_=a0.classes.drop k18:=hd22
  rcases rest_ with _|⟨x24,rest21⟩
  ·have hlt26:=restNil hd22
   replace h20:=(qcref1_Right_l1.eq_1 _ _ _ _).symm.trans h20
   refine gos hn ?_
   refine COk.seqQ fun _ _ X10 _=>?_
   refine goc hn ?_
   refine bselF hlt26 ?_
   refine goe hn ?_
   refine X10 _ _ _ ?_
   refine X9 _ _ _ ?_
   refine E8 _ _ ?_
   refine A7 _ _ ?_
   exact jn ⟨_,sj h20⟩ []
  ·obtain ⟨hx25,hd2,hlt26⟩:=restCons hd22
   replace h20:=(qcref1_Right_l1.eq_2 _ _ _ _ _ _).symm.trans h20
   refine gos hn ?_
   refine COk.seqQ fun _ A11 _ _=>?_
   refine goc hn ?_
   refine bselT hlt26 ?_
   refine gok hn ?_
   refine A11 _ _ ?_
   refine COk.seqQ fun _ A12 _ R12=>?_
   refine COk.blkQ fun _ A13 _ _ R13=>?_
   refine gos hn ?_
   refine idxK hx25 ?_
   refine COk.seqQ fun _ A14 _ R14=>?_
   refine COk.seqQ fun _ A15 _ _=>?_
   obtain ⟨o29,h28,h20⟩:=bindM h20
   refine jk (ι:={ s // o29=s }) hn (fun s=>[(74,.bool s.1)]) (fun s=>[]) [(1,_),(3,_),(4,_),(5,_),(49,_),(50,_),(51,_)] [(1,_),(3,_),(5,_)] (fun _ A16 _ _=>?_) ?_
   ·refine kp [(1,_),(3,_),(4,_),(5,_),(49,_),(50,_),(51,_)] [(1,_),(3,_),(5,_)] ?_
    refine god hn (by kernel_rfl) ?_
    obtain ⟨r30,hr31,h28⟩:=bindM h28
    show CallOk Try.prog _ _ _ _
    refine cA (qcref1_Name_ok N x24.name r30 hr31) ?_
    refine bselM h28 (fun hb32 h28=>?_) (fun hb32 h28=>?_)
    ·refine bselT hb32 ?_
     refine bselT hb32 ?_
     refine bselT hb32 ?_
     refine bselT hb32 ?_
     refine A16 _ _ ?_
     exact jn ⟨_,sj h28⟩ []
    refine bselF hb32 ?_
    refine bselF hb32 ?_
    refine bselM h28 (fun hb33 h28=>?_) (fun hb33 h28=>?_)
    ·refine bselT hb33 ?_
     refine bselT hb33 ?_
     refine bselT hb33 ?_
     refine bselT hb33 ?_
     refine bselT hb33 ?_
     obtain ⟨x34,hx35,h28⟩:=bindM h28
     refine idxM hx35 ?_
     refine bselT hb33 ?_
     refine bselT hb33 ?_
     refine bselT hb33 ?_
     refine bselF hb32 ?_
     refine bselT hb33 ?_
     refine bselF hb32 ?_
     refine A16 _ _ ?_
     exact jn ⟨_,sj h28⟩ []
    refine bselF hb33 ?_
    refine bselF hb33 ?_
    refine bselF hb33 ?_
    refine bselF hb33 ?_
    refine bselF hb33 ?_
    refine bselF hb33 ?_
    refine bselF hb33 ?_
    refine bselF hb33 ?_
    refine bselF hb32 ?_
    refine bselF hb33 ?_
    refine bselF hb32 ?_
    refine A16 _ _ ?_
    exact jn ⟨_,sj h28⟩ []
   rintro ⟨v27,hv_⟩
   replace hv_:=hv_.symm
   subst hv_
   refine A15 _ _ ?_
   refine goc hn ?_
   refine bselM h20 (fun hb36 h20=>?_) (fun hb36 h20=>?_)
   ·refine gos hn ?_
    refine got hn ?_
    refine R14 _ _ ?_
    refine R13 _ _ ?_
    refine R12 _ _ ?_
    refine R9 _ _ ?_
    refine R8 _ _ ?_
    refine R7 _ _ ?_
    refine R6 _ _ ?_
    obtain rfl:=Option.some.inj h20
    obtain rfl:=Option.some.inj h
    exact ⟨[],_,fm⟩
   refine gok hn ?_
   refine A14 _ _ ?_
   refine COk.seqQ fun _ A17 _ R17=>?_
   refine gos hn ?_
   obtain ⟨hg37,h20⟩:=guardM h20
   refine takeM hg37 rfl rfl ?_
   refine lenM (fun hl38=>?_)
   obtain ⟨o40,h41,h20⟩:=bindM h20
   refine jk (ι:={ s // o40=Ctl.next s }) hn (fun s=>[]) (fun s=>[]) [(1,_),(3,_),(4,_),(5,_),(49,_),(50,_),(51,_)] [(1,_),(3,_),(5,_)] (fun _ A18 _ R18=>?_) ?_
   ·refine COk.blkQ fun _ _ E19 _ R19=>?_
    refine lq (ι:={ q:((List Cl)×Nat) // q.1=(a0.classes.take (k18:Int).toNat).drop q.2∧qcref1_Right_l2 N x24 q.1 q.2=some o40 }) hn (fun q=>[(80,.int (q.1.2:Int))]) (fun q=>[]) (fun q=>q.1.1.length) [(1,_),(3,_),(4,_),(5,_),(49,_),(50,_),(51,_),(78,_),(79,_)] [(1,_),(3,_),(5,_)] ⟨((a0.classes.take (k18:Int).toNat),0),rfl,h41⟩ [] ?_
    rintro ⟨⟨rest_,k39⟩,hd43,h41⟩ _ A20 X20 R20
    replace hd43:rest_=(a0.classes.take (k18:Int).toNat).drop k39:=hd43
    rcases rest_ with _|⟨x45,rest42⟩
    ·have hlt47:=restNil hd43
     replace h41:=(qcref1_Right_l2.eq_1 _ _ _).symm.trans h41
     refine gos hn ?_
     refine COk.seqQ fun _ _ X21 _=>?_
     refine goc hn ?_
     refine bselF hlt47 ?_
     refine goe hn ?_
     refine X21 _ _ _ ?_
     refine X20 _ _ _ ?_
     refine E19 _ _ ?_
     refine A18 _ _ ?_
     exact jn ⟨_,sj h41⟩ []
    ·obtain ⟨hx46,hd2,hlt47⟩:=restCons hd43
     replace h41:=(qcref1_Right_l2.eq_2 _ _ _ _ _).symm.trans h41
     refine gos hn ?_
     refine COk.seqQ fun _ A22 _ _=>?_
     refine goc hn ?_
     refine bselT hlt47 ?_
     refine gok hn ?_
     refine A22 _ _ ?_
     refine COk.seqQ fun _ A23 _ R23=>?_
     refine COk.blkQ fun _ A24 _ _ R24=>?_
     refine gos hn ?_
     refine idxK hx46 ?_
     refine gos hn ?_
     refine goc hn ?_
     refine bselM h41 (fun hb48 h41=>?_) (fun hb48 h41=>?_)
     ·refine kp [] [] ?_
      refine gos hn ?_
      refine got hn ?_
      refine R24 _ _ ?_
      refine R23 _ _ ?_
      refine R20 _ _ ?_
      refine R19 _ _ ?_
      refine R18 _ _ ?_
      refine R17 _ _ ?_
      refine R13 _ _ ?_
      refine R12 _ _ ?_
      refine R9 _ _ ?_
      refine R8 _ _ ?_
      refine R7 _ _ ?_
      refine R6 _ _ ?_
      obtain rfl:=Option.some.inj h41
      obtain rfl:=Option.some.inj h20
      obtain rfl:=Option.some.inj h
      exact ⟨[],_,fm⟩
     refine gok hn ?_
     refine A24 _ _ ?_
     refine A23 _ _ ?_
     refine kp [(1,_),(3,_),(4,_),(5,_),(49,_),(50,_),(51,_),(78,_),(79,_),(80,_)] [(1,_),(3,_),(5,_)] ?_
     refine gor hn ?_
     refine Or.inl (And.intro (inrK hx46 hl38) ?_)
     refine A20 _ _ ?_
     exact jn ⟨(rest42,k39+1),hd2,h41⟩ [] (by show rest42.length < rest42.length+1; omega)
   rintro ⟨⟨⟩,rfl⟩
   refine A17 _ _ ?_
   refine gos hn ?_
   refine COk.seqQ fun _ A25 _ R25=>?_
   refine gos hn ?_
   obtain ⟨o51,h50,h20⟩:=bindM h20
   refine jk (ι:={ s // o51=Ctl.next s }) hn (fun s=>[(9,.int s.1)]) (fun s=>[]) [(1,_),(3,_),(5,_),(8,_),(49,_),(50,_),(51,_)] [(1,_),(3,_),(5,_)] (fun _ A26 _ R26=>?_) ?_
   ·refine goc hn ?_
    refine bselM h50 (fun hb52 h50=>?_) (fun hb52 h50=>?_)
    ·refine gos hn ?_
     refine COk.seqQ fun _ A27 _ _=>?_
     refine god hn (by kernel_rfl) ?_
     obtain ⟨x53,hx54,h50⟩:=bindM h50
     refine idxM hx54 ?_
     refine A27 _ _ ?_
     refine goc hn ?_
     refine bselM h50 (fun hb55 h50=>?_) (fun hb55 h50=>?_)
     ·refine kp [] [] ?_
      refine gos hn ?_
      refine got hn ?_
      refine R26 _ _ ?_
      refine R25 _ _ ?_
      refine R13 _ _ ?_
      refine R12 _ _ ?_
      refine R9 _ _ ?_
      refine R8 _ _ ?_
      refine R7 _ _ ?_
      refine R6 _ _ ?_
      obtain rfl:=Option.some.inj h50
      obtain rfl:=Option.some.inj h20
      obtain rfl:=Option.some.inj h
      exact ⟨[],_,fm⟩
     refine gok hn ?_
     refine A26 _ _ ?_
     exact jn ⟨_,sj h50⟩ []
    refine COk.seqQ fun _ A28 _ _=>?_
    obtain ⟨o58,h57,h50⟩:=bindM h50
    refine jk (ι:={ s // o58=s }) hn (fun s=>[(119,.bool s.1)]) (fun s=>[]) [(1,_),(3,_),(5,_),(8,_),(9,_),(49,_),(50,_),(51,_)] [(1,_),(3,_),(5,_)] (fun _ A29 _ _=>?_) ?_
    ·refine gor hn ?_
     refine bselM h57 (fun hb59 h57=>?_) (fun hb59 h57=>?_)
     ·refine bselT hb59 ?_
      refine bselT hb59 ?_
      refine bselT hb59 ?_
      refine bselT hb59 ?_
      refine A29 _ _ ?_
      exact jn ⟨_,sj h57⟩ []
     refine bselF hb59 ?_
     refine bselF hb59 ?_
     refine bselF hb59 ?_
     refine bselF hb59 ?_
     refine bselM h57 (fun hb60 h57=>?_) (fun hb60 h57=>?_)
     ·refine bselT hb60 ?_
      refine bselT hb60 ?_
      refine bselT hb60 ?_
      refine bselT hb60 ?_
      refine bselT hb60 ?_
      refine A29 _ _ ?_
      exact jn ⟨_,sj h57⟩ []
     refine bselF hb60 ?_
     refine bselF hb60 ?_
     refine bselF hb60 ?_
     refine bselM h57 (fun hb61 h57=>?_) (fun hb61 h57=>?_)
     ·refine bselT hb61 ?_
      refine bselT hb61 ?_
      refine bselF hb60 ?_
      refine bselT hb61 ?_
      refine bselF hb60 ?_
      refine A29 _ _ ?_
      exact jn ⟨_,sj h57⟩ []
     refine bselF hb61 ?_
     refine bselF hb61 ?_
     refine bselF hb60 ?_
     refine bselF hb61 ?_
     refine bselF hb60 ?_
     refine A29 _ _ ?_
     exact jn ⟨_,sj h57⟩ []
    rintro ⟨v56,hv_⟩
    replace hv_:=hv_.symm
    subst hv_
    refine A28 _ _ ?_
    refine goc hn ?_
    refine bselM h50 (fun hb62 h50=>?_) (fun hb62 h50=>?_)
    ·refine gos hn ?_
     refine got hn ?_
     refine R26 _ _ ?_
     refine R25 _ _ ?_
     refine R13 _ _ ?_
     refine R12 _ _ ?_
     refine R9 _ _ ?_
     refine R8 _ _ ?_
     refine R7 _ _ ?_
     refine R6 _ _ ?_
     obtain rfl:=Option.some.inj h50
     obtain rfl:=Option.some.inj h20
     obtain rfl:=Option.some.inj h
     exact ⟨[],_,fm⟩
    refine gok hn ?_
    refine A26 _ _ ?_
    exact jn ⟨_,sj h50⟩ []
   rintro ⟨v49,rfl⟩
   refine A25 _ _ ?_
   refine COk.seqQ fun _ A30 _ _=>?_
   obtain ⟨o65,h64,h20⟩:=bindM h20
   refine jk (ι:={ s // o65=s }) hn (fun s=>[(129,.bool s.1)]) (fun s=>[]) [(1,_),(3,_),(49,_),(50,_),(51,_)] [(1,_),(3,_)] (fun _ A31 _ _=>?_) ?_
   ·refine gor hn ?_
    refine bselM h64 (fun hb66 h64=>?_) (fun hb66 h64=>?_)
    ·refine bselT hb66 ?_
     refine bselT hb66 ?_
     refine bselT hb66 ?_
     refine bselT hb66 ?_
     refine A31 _ _ ?_
     exact jn ⟨_,sj h64⟩ []
    refine bselF hb66 ?_
    refine bselF hb66 ?_
    refine bselF hb66 ?_
    refine bselF hb66 ?_
    refine A31 _ _ ?_
    exact jn ⟨_,sj h64⟩ []
   rintro ⟨v63,hv_⟩
   replace hv_:=hv_.symm
   subst hv_
   refine A30 _ _ ?_
   refine goc hn ?_
   refine bselM h20 (fun hb67 h20=>?_) (fun hb67 h20=>?_)
   ·refine gos hn ?_
    refine got hn ?_
    refine R13 _ _ ?_
    refine R12 _ _ ?_
    refine R9 _ _ ?_
    refine R8 _ _ ?_
    refine R7 _ _ ?_
    refine R6 _ _ ?_
    obtain rfl:=Option.some.inj h20
    obtain rfl:=Option.some.inj h
    exact ⟨[],_,fm⟩
   refine gok hn ?_
   refine A13 _ _ ?_
   refine A12 _ _ ?_
   refine gor hn ?_
   refine Or.inl (And.intro (inrK hx25 hl17) ?_)
   refine A9 _ _ ?_
   exact jn ⟨(rest21,k18+1),hd2,h20⟩ [] (by show rest21.length < rest21.length+1; omega)
 rintro ⟨⟨⟩,rfl⟩
 refine A6 _ _ ?_
 refine COk.seqQ fun _ A32 _ R32=>?_
 refine gos hn ?_
 refine lenM (fun hl68=>?_)
 obtain ⟨o70,h71,h⟩:=bindM h
 refine jk (ι:={ s // o70=Ctl.next s }) hn (fun s=>[]) (fun s=>[]) [(1,_)] [(1,_)] (fun _ A33 _ R33=>?_) ?_
 ·refine COk.blkQ fun _ _ E34 _ R34=>?_
  refine lq (ι:={ q:((List Cl)×Nat) // q.1=a0.classes.drop q.2∧qcref1_Right_l3 N a0 r1 q.1 q.2=some o70 }) hn (fun q=>[(134,.int (q.1.2:Int))]) (fun q=>[]) (fun q=>q.1.1.length) [(1,_),(3,_),(132,_),(133,_)] [(1,_),(3,_)] ⟨(a0.classes,0),rfl,h71⟩ [] ?_
  rintro ⟨⟨rest_,k69⟩,hd73,h71⟩ _ A35 X35 R35
  replace hd73:rest_=a0.classes.drop k69:=hd73
  rcases rest_ with _|⟨x75,rest72⟩
  ·have hlt77:=restNil hd73
   replace h71:=(qcref1_Right_l3.eq_1 _ _ _ _).symm.trans h71
   refine gos hn ?_
   refine COk.seqQ fun _ _ X36 _=>?_
   refine goc hn ?_
   refine bselF hlt77 ?_
   refine goe hn ?_
   refine X36 _ _ _ ?_
   refine X35 _ _ _ ?_
   refine E34 _ _ ?_
   refine A33 _ _ ?_
   exact jn ⟨_,sj h71⟩ []
  ·obtain ⟨hx76,hd2,hlt77⟩:=restCons hd73
   replace h71:=(qcref1_Right_l3.eq_2 _ _ _ _ _ _).symm.trans h71
   refine gos hn ?_
   refine COk.seqQ fun _ A37 _ _=>?_
   refine goc hn ?_
   refine bselT hlt77 ?_
   refine gok hn ?_
   refine A37 _ _ ?_
   refine COk.seqQ fun _ A38 _ R38=>?_
   refine COk.blkQ fun _ A39 _ _ R39=>?_
   refine gos hn ?_
   refine idxK hx76 ?_
   refine COk.seqQ fun _ A40 _ R40=>?_
   refine gos hn ?_
   obtain ⟨r78,hr79,h71⟩:=bindM h71
   show CallOk Try.prog _ _ _ _
   refine cA (qcref1_Slots_ok N a0 (k69:Int) r78 hr79) ?_
   refine goc hn ?_
   refine bselM h71 (fun hb80 h71=>?_) (fun hb80 h71=>?_)
   ·refine gos hn ?_
    refine got hn ?_
    refine R40 _ _ ?_
    refine R39 _ _ ?_
    refine R38 _ _ ?_
    refine R35 _ _ ?_
    refine R34 _ _ ?_
    refine R33 _ _ ?_
    refine R32 _ _ ?_
    obtain rfl:=Option.some.inj h71
    obtain rfl:=Option.some.inj h
    exact ⟨[],_,fm⟩
   refine gok hn ?_
   refine A40 _ _ ?_
   refine COk.seqQ fun _ A41 _ R41=>?_
   refine gos hn ?_
   refine lenM (fun _=>?_)
   refine goc hn ?_
   refine bselM h71 (fun hb82 h71=>?_) (fun hb82 h71=>?_)
   ·refine kp [] [] ?_
    refine gos hn ?_
    refine got hn ?_
    refine R41 _ _ ?_
    refine R39 _ _ ?_
    refine R38 _ _ ?_
    refine R35 _ _ ?_
    refine R34 _ _ ?_
    refine R33 _ _ ?_
    refine R32 _ _ ?_
    obtain rfl:=Option.some.inj h71
    obtain rfl:=Option.some.inj h
    exact ⟨[],_,fm⟩
   refine gok hn ?_
   refine A41 _ _ ?_
   refine kp [(1,_),(3,_),(10,_),(11,_),(132,_),(133,_),(134,_)] [(1,_),(3,_),(11,_)] ?_
   refine gos hn ?_
   refine lenM (fun hl83=>?_)
   obtain ⟨o85,h86,h71⟩:=bindM h71
   refine jk (ι:={ s // o85=Ctl.next s }) hn (fun s=>[]) (fun s=>[]) [(1,_),(3,_),(132,_),(133,_),(134,_)] [(1,_),(3,_)] (fun _ A42 _ R42=>?_) ?_
   ·refine COk.blkQ fun _ _ E43 _ R43=>?_
    refine lq (ι:={ q:((List Me)×Nat) // q.1=x75.methods.drop q.2∧qcref1_Right_l4 N a0 r1 k69 x75 q.1 q.2=some o85 }) hn (fun q=>[(150,.int (q.1.2:Int))]) (fun q=>[]) (fun q=>q.1.1.length) [(1,_),(3,_),(10,_),(11,_),(132,_),(133,_),(134,_),(148,_),(149,_)] [(1,_),(3,_),(11,_)] ⟨(x75.methods,0),rfl,h86⟩ [] ?_
    rintro ⟨⟨rest_,k84⟩,hd88,h86⟩ _ A44 X44 R44
    replace hd88:rest_=x75.methods.drop k84:=hd88
    rcases rest_ with _|⟨x90,rest87⟩
    ·have hlt92:=restNil hd88
     replace h86:=(qcref1_Right_l4.eq_1 _ _ _ _ _ _).symm.trans h86
     refine gos hn ?_
     refine COk.seqQ fun _ _ X45 _=>?_
     refine goc hn ?_
     refine bselF hlt92 ?_
     refine goe hn ?_
     refine X45 _ _ _ ?_
     refine X44 _ _ _ ?_
     refine E43 _ _ ?_
     refine A42 _ _ ?_
     exact jn ⟨_,sj h86⟩ []
    ·obtain ⟨hx91,hd2,hlt92⟩:=restCons hd88
     replace h86:=(qcref1_Right_l4.eq_2 _ _ _ _ _ _ _ _).symm.trans h86
     refine gos hn ?_
     refine COk.seqQ fun _ A46 _ _=>?_
     refine goc hn ?_
     refine bselT hlt92 ?_
     refine gok hn ?_
     refine A46 _ _ ?_
     refine COk.seqQ fun _ A47 _ R47=>?_
     refine COk.blkQ fun _ A48 _ _ R48=>?_
     refine gos hn ?_
     refine idxK hx91 ?_
     refine COk.seqQ fun _ A49 _ R49=>?_
     refine COk.seqQ fun _ A50 _ _=>?_
     obtain ⟨o95,h94,h86⟩:=bindM h86
     refine jk (ι:={ s // o95=s }) hn (fun s=>[(168,.bool s.1)]) (fun s=>[]) [(1,_),(3,_),(10,_),(11,_),(13,_),(132,_),(133,_),(134,_),(148,_),(149,_),(150,_)] [(1,_),(3,_),(11,_),(13,_)] (fun _ A51 _ _=>?_) ?_
     ·refine god hn (by kernel_rfl) ?_
      refine bselM h94 (fun hb96 h94=>?_) (fun hb96 h94=>?_)
      ·refine bselT hb96 ?_
       refine bselT hb96 ?_
       refine bselT hb96 ?_
       refine Or.inr ?_
       refine bselT hb96 ?_
       obtain ⟨x97,hx98,h94⟩:=bindM h94
       refine idxM hx98 ?_
       refine bselT hb96 ?_
       refine bselT hb96 ?_
       refine bselT hb96 ?_
       refine bselT hb96 ?_
       refine bselT hb96 ?_
       refine bselT hb96 ?_
       refine A51 _ _ ?_
       exact jn ⟨_,sj h94⟩ []
      refine bselF hb96 ?_
      refine bselF hb96 ?_
      refine bselF hb96 ?_
      refine bselF hb96 ?_
      refine bselF hb96 ?_
      refine bselF hb96 ?_
      refine bselF hb96 ?_
      refine bselF hb96 ?_
      refine bselF hb96 ?_
      refine bselF hb96 ?_
      refine A51 _ _ ?_
      exact jn ⟨_,sj h94⟩ []
     rintro ⟨v93,hv_⟩
     replace hv_:=hv_.symm
     subst hv_
     refine A50 _ _ ?_
     refine goc hn ?_
     refine bselM h86 (fun hb99 h86=>?_) (fun hb99 h86=>?_)
     ·refine gos hn ?_
      refine got hn ?_
      refine R49 _ _ ?_
      refine R48 _ _ ?_
      refine R47 _ _ ?_
      refine R44 _ _ ?_
      refine R43 _ _ ?_
      refine R42 _ _ ?_
      refine R39 _ _ ?_
      refine R38 _ _ ?_
      refine R35 _ _ ?_
      refine R34 _ _ ?_
      refine R33 _ _ ?_
      refine R32 _ _ ?_
      obtain rfl:=Option.some.inj h86
      obtain rfl:=Option.some.inj h71
      obtain rfl:=Option.some.inj h
      exact ⟨[],_,fm⟩
     refine gok hn ?_
     refine A49 _ _ ?_
     refine gos hn ?_
     refine COk.seqQ fun _ A52 _ _=>?_
     refine gos hn ?_
     obtain ⟨x100,hx101,h86⟩:=bindM h86
     refine idxM hx101 ?_
     refine lenM (fun hl102=>?_)
     obtain ⟨o107,h108,h86⟩:=bindM h86
     refine jk (ι:={ s // o107=s }) hn (fun s=>[(14,.bool s.1)]) (fun s=>[]) [(1,_),(3,_),(10,_),(11,_),(13,_),(132,_),(133,_),(134,_),(148,_),(149,_),(150,_)] [(1,_),(3,_),(11,_),(13,_)] (fun _ A53 _ _=>?_) ?_
     ·refine COk.blkQ fun _ _ E54 _ _=>?_
      refine lq (ι:={ q:((List Me)×Nat×Bool) // q.1=x100.methods.drop q.2.1∧qcref1_Right_l5 N k69 x90 q.1 q.2.1 q.2.2=some o107 }) hn (fun q=>[(14,.bool q.1.2.2),(175,.int (q.1.2.1:Int))]) (fun q=>[]) (fun q=>q.1.1.length) [(1,_),(3,_),(10,_),(11,_),(13,_),(132,_),(133,_),(134,_),(148,_),(149,_),(150,_),(173,_),(174,_)] [(1,_),(3,_),(11,_),(13,_)] ⟨(x100.methods,0,false),rfl,h108⟩ [] ?_
      rintro ⟨⟨rest_,k103,v104⟩,hd110,h108⟩ _ A55 X55 _
      replace hd110:rest_=x100.methods.drop k103:=hd110
      rcases rest_ with _|⟨x112,rest109⟩
      ·have hlt114:=restNil hd110
       replace h108:=(qcref1_Right_l5.eq_1 _ _ _ _ _).symm.trans h108
       refine gos hn ?_
       refine COk.seqQ fun _ _ X56 _=>?_
       refine goc hn ?_
       refine bselF hlt114 ?_
       refine goe hn ?_
       refine X56 _ _ _ ?_
       refine X55 _ _ _ ?_
       refine E54 _ _ ?_
       refine A53 _ _ ?_
       exact jn ⟨_,sj h108⟩ []
      ·obtain ⟨hx113,hd2,hlt114⟩:=restCons hd110
       replace h108:=(qcref1_Right_l5.eq_2 _ _ _ _ _ _ _).symm.trans h108
       refine gos hn ?_
       refine COk.seqQ fun _ A57 _ _=>?_
       refine goc hn ?_
       refine bselT hlt114 ?_
       refine gok hn ?_
       refine A57 _ _ ?_
       refine COk.seqQ fun _ A58 _ _=>?_
       obtain ⟨o117,h116,h108⟩:=bindM h108
       refine jk (ι:={ s // o117=s }) hn (fun s=>[(14,.bool s.1)]) (fun s=>[]) [(1,_),(3,_),(10,_),(11,_),(13,_),(132,_),(133,_),(134,_),(148,_),(149,_),(150,_),(173,_),(174,_),(175,_)] [(1,_),(3,_),(11,_),(13,_)] (fun _ A59 _ _=>?_) ?_
       ·refine COk.blkQ fun _ A60 _ _ _=>?_
        refine gos hn ?_
        refine idxK hx113 ?_
        obtain ⟨o120,h119,h116⟩:=bindM h116
        refine jk (ι:={ s // o120=s }) hn (fun s=>[(14,.bool s.1)]) (fun s=>[]) [(1,_),(3,_),(10,_),(11,_),(13,_),(132,_),(133,_),(134,_),(148,_),(149,_),(150,_),(173,_),(174,_),(175,_)] [(1,_),(3,_),(11,_),(13,_)] (fun _ A61 _ _=>?_) ?_
        ·refine kp [(1,_),(3,_),(10,_),(11,_),(13,_),(14,_),(16,_),(132,_),(133,_),(134,_),(148,_),(149,_),(150,_),(173,_),(174,_),(175,_)] [(1,_),(3,_),(11,_),(13,_),(16,_)] ?_
         refine gor hn ?_
         refine bselM h119 (fun hb121 h119=>?_) (fun hb121 h119=>?_)
         ·refine bselT hb121 ?_
          refine bselT hb121 ?_
          refine bselT hb121 ?_
          refine bselT hb121 ?_
          refine bselT hb121 ?_
          refine bselT hb121 ?_
          refine bselT hb121 ?_
          refine bselT hb121 ?_
          refine bselT hb121 ?_
          refine bselT hb121 ?_
          refine bselT hb121 ?_
          refine bselT hb121 ?_
          refine A61 _ _ ?_
          exact jn ⟨_,sj h119⟩ []
         refine bselF hb121 ?_
         refine bselF hb121 ?_
         refine bselM h119 (fun hb122 h119=>?_) (fun hb122 h119=>?_)
         ·refine bselT hb122 ?_
          refine bselT hb122 ?_
          refine bselT hb122 ?_
          refine bselT hb122 ?_
          refine bselF hb121 ?_
          refine bselT hb122 ?_
          refine bselF hb121 ?_
          refine bselM h119 (fun hb123 h119=>?_) (fun hb123 h119=>?_)
          ·refine bselT hb123 ?_
           refine bselT hb123 ?_
           refine bselT hb123 ?_
           refine bselT hb123 ?_
           refine bselF hb121 ?_
           refine bselT hb123 ?_
           refine bselF hb121 ?_
           refine bselM h119 (fun hb124 h119=>?_) (fun hb124 h119=>?_)
           ·refine bselT hb124 ?_
            refine bselT hb124 ?_
            refine bselF hb121 ?_
            refine bselT hb124 ?_
            refine bselF hb121 ?_
            refine bselM h119 (fun hb125 h119=>?_) (fun hb125 h119=>?_)
            ·refine bselT hb125 ?_
             refine bselT hb125 ?_
             refine bselF hb121 ?_
             refine bselT hb125 ?_
             refine bselF hb121 ?_
             refine bselM h119 (fun hb126 h119=>?_) (fun hb126 h119=>?_)
             ·refine bselT hb126 ?_
              refine bselT hb126 ?_
              refine lenM (fun _=>?_)
              refine bselT hb126 ?_
              refine bselF hb121 ?_
              refine bselT hb126 ?_
              refine bselF hb121 ?_
              refine A61 _ _ ?_
              exact jn ⟨_,sj h119⟩ []
             refine bselF hb126 ?_
             refine bselF hb126 ?_
             refine bselF hb126 ?_
             refine bselF hb121 ?_
             refine bselF hb126 ?_
             refine bselF hb121 ?_
             refine A61 _ _ ?_
             exact jn ⟨_,sj h119⟩ []
            refine bselF hb125 ?_
            refine bselF hb125 ?_
            refine bselF hb121 ?_
            refine bselF hb125 ?_
            refine bselF hb121 ?_
            refine bselF hb121 ?_
            refine bselF hb121 ?_
            refine A61 _ _ ?_
            exact jn ⟨_,sj h119⟩ []
           refine bselF hb124 ?_
           refine bselF hb124 ?_
           refine bselF hb121 ?_
           refine bselF hb124 ?_
           refine bselF hb121 ?_
           refine bselF hb121 ?_
           refine bselF hb121 ?_
           refine bselF hb121 ?_
           refine bselF hb121 ?_
           refine A61 _ _ ?_
           exact jn ⟨_,sj h119⟩ []
          refine bselF hb123 ?_
          refine bselF hb123 ?_
          refine bselF hb123 ?_
          refine bselF hb123 ?_
          refine bselF hb121 ?_
          refine bselF hb123 ?_
          refine bselF hb121 ?_
          refine bselF hb121 ?_
          refine bselF hb121 ?_
          refine bselF hb121 ?_
          refine bselF hb121 ?_
          refine bselF hb121 ?_
          refine bselF hb121 ?_
          refine A61 _ _ ?_
          exact jn ⟨_,sj h119⟩ []
         refine bselF hb122 ?_
         refine bselF hb122 ?_
         refine bselF hb122 ?_
         refine bselF hb122 ?_
         refine bselF hb121 ?_
         refine bselF hb122 ?_
         refine bselF hb121 ?_
         refine bselF hb121 ?_
         refine bselF hb121 ?_
         refine bselF hb121 ?_
         refine bselF hb121 ?_
         refine bselF hb121 ?_
         refine bselF hb121 ?_
         refine bselF hb121 ?_
         refine bselF hb121 ?_
         refine A61 _ _ ?_
         exact jn ⟨_,sj h119⟩ []
        rintro ⟨v118,hv_⟩
        replace hv_:=hv_.symm
        subst hv_
        refine A60 _ _ ?_
        refine A59 _ _ ?_
        exact jn ⟨_,sj h116⟩ []
       rintro ⟨v115,hv_⟩
       replace hv_:=hv_.symm
       subst hv_
       refine A58 _ _ ?_
       refine gor hn ?_
       refine Or.inl (And.intro (inrK hx113 hl102) ?_)
       refine A55 _ _ ?_
       exact jn ⟨(rest109,k103+1,v115),hd2,h108⟩ [] (by show rest109.length < rest109.length+1; omega)
     rintro ⟨v106,hv_⟩
     replace hv_:=hv_.symm
     subst hv_
     refine A52 _ _ ?_
     refine gos hn ?_
     obtain ⟨r128,hr129,h86⟩:=bindM h86
     show CallOk Try.prog _ _ _ _
     refine cA (qcref1_Check_ok N a0 (k69:Int) x90 r128 hr129) ?_
     refine COk.seqQ fun _ A62 _ _=>?_
     obtain ⟨o132,h131,h86⟩:=bindM h86
     refine jk (ι:={ s // o132=s }) hn (fun s=>[(225,.bool s.1)]) (fun s=>[]) [(1,_),(3,_),(10,_),(11,_),(17,_),(132,_),(133,_),(134,_),(148,_),(149,_),(150,_)] [(1,_),(3,_),(11,_),(17,_)] (fun _ A63 _ _=>?_) ?_
     ·refine kp [(1,_),(3,_),(10,_),(11,_),(14,_),(17,_),(132,_),(133,_),(134,_),(148,_),(149,_),(150,_)] [(1,_),(3,_),(11,_),(17,_)] ?_
      refine gor hn ?_
      refine bselM h131 (fun hb133 h131=>?_) (fun hb133 h131=>?_)
      ·refine bselT hb133 ?_
       refine bselT hb133 ?_
       refine bselT hb133 ?_
       refine A63 _ _ ?_
       exact jn ⟨_,sj h131⟩ []
      refine bselF hb133 ?_
      refine bselF hb133 ?_
      refine bselF hb133 ?_
      refine A63 _ _ ?_
      exact jn ⟨_,sj h131⟩ []
     rintro ⟨v130,hv_⟩
     replace hv_:=hv_.symm
     subst hv_
     refine A62 _ _ ?_
     refine goc hn ?_
     refine bselM h86 (fun hb134 h86=>?_) (fun hb134 h86=>?_)
     ·refine gos hn ?_
      refine got hn ?_
      refine R48 _ _ ?_
      refine R47 _ _ ?_
      refine R44 _ _ ?_
      refine R43 _ _ ?_
      refine R42 _ _ ?_
      refine R39 _ _ ?_
      refine R38 _ _ ?_
      refine R35 _ _ ?_
      refine R34 _ _ ?_
      refine R33 _ _ ?_
      refine R32 _ _ ?_
      obtain rfl:=Option.some.inj h86
      obtain rfl:=Option.some.inj h71
      obtain rfl:=Option.some.inj h
      exact ⟨[],_,fm⟩
     refine gok hn ?_
     refine A48 _ _ ?_
     refine A47 _ _ ?_
     refine gor hn ?_
     refine Or.inl (And.intro (inrK hx91 hl83) ?_)
     refine A44 _ _ ?_
     exact jn ⟨(rest87,k84+1),hd2,h86⟩ [] (by show rest87.length < rest87.length+1; omega)
   rintro ⟨⟨⟩,rfl⟩
   refine A39 _ _ ?_
   refine A38 _ _ ?_
   refine gor hn ?_
   refine Or.inl (And.intro (inrK hx76 hl68) ?_)
   refine A35 _ _ ?_
   exact jn ⟨(rest72,k69+1),hd2,h71⟩ [] (by show rest72.length < rest72.length+1; omega)
 rintro ⟨⟨⟩,rfl⟩
 refine A32 _ _ ?_
 refine COk.seqQ fun _ A64 _ R64=>?_
 refine gos hn ?_
 refine lenM (fun hl135=>?_)
 obtain ⟨o137,h138,h⟩:=bindM h
 refine jk (ι:={ s // o137=Ctl.next s }) hn (fun s=>[]) (fun s=>[]) [] [] (fun _ A65 _ R65=>?_) ?_
 ·refine COk.blkQ fun _ _ E66 _ R66=>?_
  refine lq (ι:={ q:((List Ob)×Nat) // q.1=a0.heap.drop q.2∧qcref1_Right_l6 N a0 q.1 q.2=some o137 }) hn (fun q=>[(233,.int (q.1.2:Int))]) (fun q=>[]) (fun q=>q.1.1.length) [(1,_),(231,_),(232,_)] [(1,_)] ⟨(a0.heap,0),rfl,h138⟩ [] ?_
  rintro ⟨⟨rest_,k136⟩,hd140,h138⟩ _ A67 X67 R67
  replace hd140:rest_=a0.heap.drop k136:=hd140
  rcases rest_ with _|⟨x142,rest139⟩
  ·have hlt144:=restNil hd140
   replace h138:=(qcref1_Right_l6.eq_1 _ _ _).symm.trans h138
   refine gos hn ?_
   refine COk.seqQ fun _ _ X68 _=>?_
   refine goc hn ?_
   refine bselF hlt144 ?_
   refine goe hn ?_
   refine X68 _ _ _ ?_
   refine X67 _ _ _ ?_
   refine E66 _ _ ?_
   refine A65 _ _ ?_
   exact jn ⟨_,sj h138⟩ []
  ·obtain ⟨hx143,hd2,hlt144⟩:=restCons hd140
   replace h138:=(qcref1_Right_l6.eq_2 _ _ _ _ _).symm.trans h138
   refine gos hn ?_
   refine COk.seqQ fun _ A69 _ _=>?_
   refine goc hn ?_
   refine bselT hlt144 ?_
   refine gok hn ?_
   refine A69 _ _ ?_
   refine COk.seqQ fun _ A70 _ R70=>?_
   refine COk.blkQ fun _ A71 _ _ R71=>?_
   refine gos hn ?_
   refine idxK hx143 ?_
   refine COk.seqQ fun _ A72 _ R72=>?_
   refine COk.seqQ fun _ A73 _ _=>?_
   obtain ⟨o147,h146,h138⟩:=bindM h138
   refine jk (ι:={ s // o147=s }) hn (fun s=>[(267,.bool s.1)]) (fun s=>[]) [(1,_),(19,_),(231,_),(232,_),(233,_)] [(1,_),(19,_)] (fun _ A74 _ _=>?_) ?_
   ·refine kp [(1,_),(19,_),(231,_),(232,_),(233,_)] [(1,_),(19,_)] ?_
    refine god hn (by kernel_rfl) ?_
    refine bselM h146 (fun hb148 h146=>?_) (fun hb148 h146=>?_)
    ·refine bselT hb148 ?_
     refine bselT hb148 ?_
     refine bselT hb148 ?_
     refine bselT hb148 ?_
     refine bselT hb148 ?_
     refine A74 _ _ ?_
     exact jn ⟨_,sj h146⟩ []
    refine bselF hb148 ?_
    refine bselF hb148 ?_
    refine bselF hb148 ?_
    refine bselM h146 (fun hb149 h146=>?_) (fun hb149 h146=>?_)
    ·refine bselT hb149 ?_
     refine bselT hb149 ?_
     refine bselF hb148 ?_
     refine bselT hb149 ?_
     refine bselF hb148 ?_
     refine bselM h146 (fun hb150 h146=>?_) (fun hb150 h146=>?_)
     ·refine bselT hb150 ?_
      refine bselT hb150 ?_
      refine bselT hb150 ?_
      refine bselT hb150 ?_
      refine bselT hb150 ?_
      refine bselT hb150 ?_
      refine A74 _ _ ?_
      exact jn ⟨_,sj h146⟩ []
     refine bselF hb150 ?_
     refine bselF hb150 ?_
     refine bselF hb150 ?_
     refine bselF hb150 ?_
     refine lenM (fun _=>?_)
     refine bselF hb150 ?_
     refine bselF hb150 ?_
     refine bselM h146 (fun hb152 h146=>?_) (fun hb152 h146=>?_)
     ·refine bselT hb152 ?_
      refine bselT hb152 ?_
      refine bselT hb152 ?_
      refine bselT hb152 ?_
      refine bselT hb152 ?_
      refine bselT hb152 ?_
      refine bselT hb152 ?_
      refine bselT hb152 ?_
      refine A74 _ _ ?_
      exact jn ⟨_,sj h146⟩ []
     refine bselF hb152 ?_
     refine bselF hb152 ?_
     refine lenM (fun _=>?_)
     refine bselF hb152 ?_
     refine bselF hb152 ?_
     refine bselF hb152 ?_
     refine bselF hb152 ?_
     obtain ⟨r154,hr155,h146⟩:=bindM h146
     show CallOk Try.prog _ _ _ _
     refine cA (qcref1_Slots_ok N a0 x142.cls r154 hr155) ?_
     refine bselF hb152 ?_
     refine bselF hb152 ?_
     refine A74 _ _ ?_
     exact jn ⟨_,sj h146⟩ []
    refine bselF hb149 ?_
    refine bselF hb149 ?_
    refine bselF hb148 ?_
    refine bselF hb149 ?_
    refine bselF hb148 ?_
    refine lenM (fun _=>?_)
    refine bselM h146 (fun hb157 h146=>?_) (fun hb157 h146=>?_)
    ·refine bselT hb157 ?_
     refine bselT hb157 ?_
     refine bselT hb157 ?_
     refine bselT hb157 ?_
     refine bselT hb157 ?_
     refine bselT hb157 ?_
     refine bselT hb157 ?_
     refine bselT hb157 ?_
     refine A74 _ _ ?_
     exact jn ⟨_,sj h146⟩ []
    refine bselF hb157 ?_
    refine bselF hb157 ?_
    refine lenM (fun _=>?_)
    refine bselF hb157 ?_
    refine bselF hb157 ?_
    refine bselF hb157 ?_
    refine bselF hb157 ?_
    obtain ⟨r159,hr160,h146⟩:=bindM h146
    show CallOk Try.prog _ _ _ _
    refine cA (qcref1_Slots_ok N a0 x142.cls r159 hr160) ?_
    refine bselF hb157 ?_
    refine bselF hb157 ?_
    refine A74 _ _ ?_
    exact jn ⟨_,sj h146⟩ []
   rintro ⟨v145,hv_⟩
   replace hv_:=hv_.symm
   subst hv_
   refine A73 _ _ ?_
   refine goc hn ?_
   refine bselM h138 (fun hb161 h138=>?_) (fun hb161 h138=>?_)
   ·refine gos hn ?_
    refine got hn ?_
    refine R72 _ _ ?_
    refine R71 _ _ ?_
    refine R70 _ _ ?_
    refine R67 _ _ ?_
    refine R66 _ _ ?_
    refine R65 _ _ ?_
    refine R64 _ _ ?_
    obtain rfl:=Option.some.inj h138
    obtain rfl:=Option.some.inj h
    exact ⟨[],_,fm⟩
   refine gok hn ?_
   refine A72 _ _ ?_
   refine gos hn ?_
   refine lenM (fun hl162=>?_)
   obtain ⟨o164,h165,h138⟩:=bindM h138
   refine jk (ι:={ s // o164=Ctl.next s }) hn (fun s=>[]) (fun s=>[]) [(1,_),(231,_),(232,_),(233,_)] [(1,_)] (fun _ A75 _ R75=>?_) ?_
   ·refine COk.blkQ fun _ _ E76 _ R76=>?_
    refine lq (ι:={ q:((List V)×Nat) // q.1=x142.slots.drop q.2∧qcref1_Right_l7 N a0 q.1 q.2=some o164 }) hn (fun q=>[(271,.int (q.1.2:Int))]) (fun q=>[]) (fun q=>q.1.1.length) [(1,_),(231,_),(232,_),(233,_),(269,_),(270,_)] [(1,_)] ⟨(x142.slots,0),rfl,h165⟩ [] ?_
    rintro ⟨⟨rest_,k163⟩,hd167,h165⟩ _ A77 X77 R77
    replace hd167:rest_=x142.slots.drop k163:=hd167
    rcases rest_ with _|⟨x169,rest166⟩
    ·have hlt171:=restNil hd167
     replace h165:=(qcref1_Right_l7.eq_1 _ _ _).symm.trans h165
     refine gos hn ?_
     refine COk.seqQ fun _ _ X78 _=>?_
     refine goc hn ?_
     refine bselF hlt171 ?_
     refine goe hn ?_
     refine X78 _ _ _ ?_
     refine X77 _ _ _ ?_
     refine E76 _ _ ?_
     refine A75 _ _ ?_
     exact jn ⟨_,sj h165⟩ []
    ·obtain ⟨hx170,hd2,hlt171⟩:=restCons hd167
     replace h165:=(qcref1_Right_l7.eq_2 _ _ _ _ _).symm.trans h165
     refine gos hn ?_
     refine COk.seqQ fun _ A79 _ _=>?_
     refine goc hn ?_
     refine bselT hlt171 ?_
     refine gok hn ?_
     refine A79 _ _ ?_
     refine COk.seqQ fun _ A80 _ R80=>?_
     refine COk.blkQ fun _ A81 _ _ R81=>?_
     refine gos hn ?_
     refine idxK hx170 ?_
     refine gos hn ?_
     refine lenM (fun _=>?_)
     obtain ⟨r173,hr174,h165⟩:=bindM h165
     show CallOk Try.prog _ _ _ _
     refine cA (qcref1_Wrong_ok N x169 (a0.heap.length:Int) r173 hr174) ?_
     refine kp [(1,_),(22,_),(231,_),(232,_),(233,_),(269,_),(270,_),(271,_)] [(1,_)] ?_
     refine gos hn ?_
     refine goc hn ?_
     refine bselM h165 (fun hb175 h165=>?_) (fun hb175 h165=>?_)
     ·refine gos hn ?_
      refine got hn ?_
      refine R81 _ _ ?_
      refine R80 _ _ ?_
      refine R77 _ _ ?_
      refine R76 _ _ ?_
      refine R75 _ _ ?_
      refine R71 _ _ ?_
      refine R70 _ _ ?_
      refine R67 _ _ ?_
      refine R66 _ _ ?_
      refine R65 _ _ ?_
      refine R64 _ _ ?_
      obtain rfl:=Option.some.inj h165
      obtain rfl:=Option.some.inj h138
      obtain rfl:=Option.some.inj h
      exact ⟨[],_,fm⟩
     refine gok hn ?_
     refine A81 _ _ ?_
     refine A80 _ _ ?_
     refine gor hn ?_
     refine Or.inl (And.intro (inrK hx170 hl162) ?_)
     refine A77 _ _ ?_
     exact jn ⟨(rest166,k163+1),hd2,h165⟩ [] (by show rest166.length < rest166.length+1; omega)
   rintro ⟨⟨⟩,rfl⟩
   refine A71 _ _ ?_
   refine A70 _ _ ?_
   refine gor hn ?_
   refine Or.inl (And.intro (inrK hx143 hl135) ?_)
   refine A67 _ _ ?_
   exact jn ⟨(rest139,k136+1),hd2,h138⟩ [] (by show rest139.length < rest139.length+1; omega)
 rintro ⟨⟨⟩,rfl⟩
 refine A64 _ _ ?_
 refine gos hn ?_
 refine got hn ?_
 obtain rfl:=Option.some.inj h
 exact ⟨[],_,fm⟩

/- class.Name -/
set_option maxRecDepth 100000 in
set_option maxHeartbeats 8000000 in
theorem class_Name_ok (N:Nat) (a0:ByteArray) (r:Bool) (h:class_Name N a0=some r):Spec Try.prog 47 [] [.str a0] (.bool r) [] []:=by
 refine Spec.of tabOk Try.func47 rfl Try.ntmps47 (by kernel_rfl) rfl rfl rfl fun Γ hn=>?_
 unfold class_Name at h
 refine gos hn ?_
 refine COk.seqQ fun _ A0 _ R0=>?_
 refine COk.seqQ fun _ A1 _ _=>?_
 obtain ⟨o3,h2,h⟩:=bindM h
 refine jk (ι:={ s // o3=s }) hn (fun s=>[(11,.bool s.1)]) (fun s=>[]) [(0,_)] [] (fun _ A2 _ _=>?_) ?_
 ·refine gor hn ?_
  intro _
  refine bselM h2 (fun hb5 h2=>?_) (fun hb5 h2=>?_)
  ·refine bselT hb5 ?_
   refine bselT hb5 ?_
   refine bselT hb5 ?_
   refine A2 _ _ ?_
   exact jn ⟨_,sj h2⟩ []
  refine bselF hb5 ?_
  intro _
  refine bselF hb5 ?_
  refine bselF hb5 ?_
  refine A2 _ _ ?_
  exact jn ⟨_,sj h2⟩ []
 rintro ⟨v1,hv_⟩
 replace hv_:=hv_.symm
 subst hv_
 refine A1 _ _ ?_
 refine goc hn ?_
 refine bselM h (fun hb7 h=>?_) (fun hb7 h=>?_)
 ·refine gos hn ?_
  refine got hn ?_
  refine R0 _ _ ?_
  obtain rfl:=Option.some.inj h
  exact ⟨[],_,fm⟩
 refine gok hn ?_
 refine A0 _ _ ?_
 refine COk.seqQ fun _ A3 _ R3=>?_
 refine gos hn ?_
 intro _
 refine COk.rng 13 rfl (fun hrn=>?_)
 obtain ⟨o10,h11,h⟩:=bindM h
 refine jk (ι:={ s // o10=Ctl.next s }) hn (fun s=>[]) (fun s=>[]) [] [] (fun _ A4 _ R4=>?_) ?_
 ·refine COk.blkQ fun _ _ E5 _ R5=>?_
  refine lq (ι:={ q:(Nat×Nat) // q.1=((a0.size:Int) - (q.2:Int)).toNat∧class_Name_l1 N a0 q.1 q.2=some o10 }) hn (fun q=>[(14,.int (q.1.2:Int))]) (fun q=>[]) (fun q=>q.1.1) [(0,_),(13,_)] [] ⟨(((a0.size:Int) - ((0:Nat):Int)).toNat,0),rfl,h11⟩ [] ?_
  rintro ⟨⟨n_,k9⟩,hd13,h11⟩ _ A6 X6 R6
  replace hd13:n_=((a0.size:Int) - (k9:Int)).toNat:=hd13
  rcases n_ with _|n14
  ·have hlt17:=upNil hd13
   replace h11:=(class_Name_l1.eq_1 _ _ _).symm.trans h11
   refine gos hn ?_
   refine COk.seqQ fun _ _ X7 _=>?_
   refine goc hn ?_
   refine bselF hlt17 ?_
   refine goe hn ?_
   refine X7 _ _ _ ?_
   refine X6 _ _ _ ?_
   refine E5 _ _ ?_
   refine A4 _ _ ?_
   exact jn ⟨_,sj h11⟩ []
  ·obtain ⟨hd2,hlt17⟩:=upCons hd13
   replace h11:=(class_Name_l1.eq_2 _ _ _ _).symm.trans h11
   refine gos hn ?_
   refine COk.seqQ fun _ A8 _ _=>?_
   refine goc hn ?_
   refine bselT hlt17 ?_
   refine gok hn ?_
   refine A8 _ _ ?_
   refine COk.seqQ fun _ A9 _ R9=>?_
   refine COk.blkQ fun _ A10 _ _ R10=>?_
   refine gos hn ?_
   refine COk.seqQ fun _ A11 _ _=>?_
   obtain ⟨o20,h19,h11⟩:=bindM h11
   refine jk (ι:={ s // o20=s }) hn (fun s=>[(26,.bool s.1)]) (fun s=>[]) [(0,_),(13,_),(14,_)] [] (fun _ A12 _ _=>?_) ?_
   ·refine gor hn ?_
    obtain ⟨u21,hx22,h19⟩:=bindM h19
    refine byM hx22 ?_
    refine And.intro rfl ?_
    refine bselM h19 (fun hb23 h19=>?_) (fun hb23 h19=>?_)
    ·refine bselT hb23 ?_
     refine bselT hb23 ?_
     refine bselT hb23 ?_
     refine bselT hb23 ?_
     refine A12 _ _ ?_
     exact jn ⟨_,sj h19⟩ []
    refine bselF hb23 ?_
    refine bselF hb23 ?_
    obtain ⟨u24,hx25,h19⟩:=bindM h19
    refine byM hx25 ?_
    refine bselF hb23 ?_
    refine And.intro rfl ?_
    refine bselF hb23 ?_
    refine A12 _ _ ?_
    exact jn ⟨_,sj h19⟩ []
   rintro ⟨v18,hv_⟩
   replace hv_:=hv_.symm
   subst hv_
   refine A11 _ _ ?_
   refine goc hn ?_
   refine bselM h11 (fun hb26 h11=>?_) (fun hb26 h11=>?_)
   ·refine gos hn ?_
    refine got hn ?_
    refine R10 _ _ ?_
    refine R9 _ _ ?_
    refine R6 _ _ ?_
    refine R5 _ _ ?_
    refine R4 _ _ ?_
    refine R3 _ _ ?_
    obtain rfl:=Option.some.inj h11
    obtain rfl:=Option.some.inj h
    exact ⟨[],_,fm⟩
   refine gok hn ?_
   refine A10 _ _ ?_
   refine A9 _ _ ?_
   refine gor hn ?_
   refine Or.inl (And.intro (inrU hlt17 hrn) ?_)
   refine A6 _ _ ?_
   exact jn ⟨(n14,k9+1),hd2,h11⟩ [] (by show n14 < n14+1; omega)
 rintro ⟨⟨⟩,rfl⟩
 refine A3 _ _ ?_
 refine gos hn ?_
 refine got hn ?_
 obtain rfl:=Option.some.inj h
 exact ⟨[],_,fm⟩

/- value.Wrong -/
set_option maxRecDepth 100000 in
set_option maxHeartbeats 8000000 in
theorem value_Wrong_ok (N:Nat) (a0:V) (a1:Int) (r:Int) (h:value_Wrong N a0 a1=some r):Spec Try.prog 48 [] [.agg (eV a0),.int a1] (.int r) [] []:=by
 refine Spec.of tabOk Try.func48 rfl Try.ntmps48 (by kernel_rfl) rfl rfl rfl fun Γ hn=>?_
 unfold value_Wrong at h
 refine gos hn ?_
 refine COk.seqQ fun _ A0 _ R0=>?_
 refine gos hn ?_
 obtain ⟨o2,h1,h⟩:=bindM h
 refine jk (ι:={ s // o2=Ctl.next s }) hn (fun s=>[]) (fun s=>[]) [] [] (fun _ A1 _ R1=>?_) ?_
 ·refine COk.blkQ fun _ A2 _ _ R2=>?_
  refine COk.seqQ fun _ A3 _ _=>?_
  refine gos hn ?_
  obtain ⟨o5,h4,h1⟩:=bindM h1
  refine jk (ι:={ s // o5=s }) hn (fun s=>[(7,.bool s.1)]) (fun s=>[]) [(1,_),(2,_),(6,_)] [(2,_)] (fun _ A4 _ _=>?_) ?_
  ·refine goc hn ?_
   refine bselM h4 (fun hb6 h4=>?_) (fun hb6 h4=>?_)
   ·refine gok hn ?_
    refine A4 _ _ ?_
    exact jn ⟨_,sj h4⟩ []
   refine gos hn ?_
   obtain ⟨o9,h8,h4⟩:=bindM h4
   refine jk (ι:={ s // o9=s }) hn (fun s=>[(7,.bool s.1)]) (fun s=>[]) [(1,_),(2,_),(6,_)] [(2,_)] (fun _ A5 _ _=>?_) ?_
   ·refine goc hn ?_
    refine bselM h8 (fun hb10 h8=>?_) (fun hb10 h8=>?_)
    ·refine gok hn ?_
     refine A5 _ _ ?_
     exact jn ⟨_,sj h8⟩ []
    refine gor hn ?_
    refine A5 _ _ ?_
    exact jn ⟨_,sj h8⟩ []
   rintro ⟨v7,hv_⟩
   replace hv_:=hv_.symm
   subst hv_
   refine A4 _ _ ?_
   exact jn ⟨_,sj h4⟩ []
  rintro ⟨v3,hv_⟩
  replace hv_:=hv_.symm
  subst hv_
  refine A3 _ _ ?_
  obtain ⟨o12,h11,h1⟩:=bindM h1
  refine jk (ι:={ s // o12=Ctl.next s }) hn (fun s=>[]) (fun s=>[]) [] [] (fun _ A6 _ R6=>?_) ?_
  ·refine goc hn ?_
   refine bselM h11 (fun hb13 h11=>?_) (fun hb13 h11=>?_)
   ·refine gos hn ?_
    refine goc hn ?_
    refine bselM h11 (fun hb14 h11=>?_) (fun hb14 h11=>?_)
    ·refine gos hn ?_
     refine got hn ?_
     refine R6 _ _ ?_
     refine R2 _ _ ?_
     refine R1 _ _ ?_
     refine R0 _ _ ?_
     obtain rfl:=Option.some.inj h11
     obtain rfl:=Option.some.inj h1
     obtain rfl:=Option.some.inj h
     exact ⟨[],_,fm⟩
    refine gok hn ?_
    refine A6 _ _ ?_
    exact jn ⟨_,sj h11⟩ []
   refine gos hn ?_
   obtain ⟨o16,h15,h11⟩:=bindM h11
   refine jk (ι:={ s // o16=Ctl.next s }) hn (fun s=>[]) (fun s=>[]) [] [] (fun _ A7 _ R7=>?_) ?_
   ·refine goc hn ?_
    refine bselM h15 (fun hb17 h15=>?_) (fun hb17 h15=>?_)
    ·refine COk.seqQ fun _ A8 _ _=>?_
     obtain ⟨o20,h19,h15⟩:=bindM h15
     refine jk (ι:={ s // o20=s }) hn (fun s=>[(23,.bool s.1)]) (fun s=>[]) [] [] (fun _ A9 _ _=>?_) ?_
     ·refine gor hn ?_
      refine bselM h19 (fun hb21 h19=>?_) (fun hb21 h19=>?_)
      ·refine bselT hb21 ?_
       refine bselT hb21 ?_
       refine bselT hb21 ?_
       refine A9 _ _ ?_
       exact jn ⟨_,sj h19⟩ []
      refine bselF hb21 ?_
      refine bselF hb21 ?_
      refine bselF hb21 ?_
      refine A9 _ _ ?_
      exact jn ⟨_,sj h19⟩ []
     rintro ⟨v18,hv_⟩
     replace hv_:=hv_.symm
     subst hv_
     refine A8 _ _ ?_
     refine goc hn ?_
     refine bselM h15 (fun hb22 h15=>?_) (fun hb22 h15=>?_)
     ·refine gos hn ?_
      refine got hn ?_
      refine R7 _ _ ?_
      refine R6 _ _ ?_
      refine R2 _ _ ?_
      refine R1 _ _ ?_
      refine R0 _ _ ?_
      obtain rfl:=Option.some.inj h15
      obtain rfl:=Option.some.inj h11
      obtain rfl:=Option.some.inj h1
      obtain rfl:=Option.some.inj h
      exact ⟨[],_,fm⟩
     refine gok hn ?_
     refine A7 _ _ ?_
     exact jn ⟨_,sj h15⟩ []
    refine gos hn ?_
    refine goc hn ?_
    refine bselM h15 (fun hb23 h15=>?_) (fun hb23 h15=>?_)
    ·refine COk.seqQ fun _ A10 _ _=>?_
     obtain ⟨o26,h25,h15⟩:=bindM h15
     refine jk (ι:={ s // o26=s }) hn (fun s=>[(34,.bool s.1)]) (fun s=>[]) [] [] (fun _ A11 _ _=>?_) ?_
     ·refine gor hn ?_
      refine bselM h25 (fun hb27 h25=>?_) (fun hb27 h25=>?_)
      ·refine bselT hb27 ?_
       refine bselT hb27 ?_
       refine bselT hb27 ?_
       refine bselT hb27 ?_
       refine A11 _ _ ?_
       exact jn ⟨_,sj h25⟩ []
      refine bselF hb27 ?_
      refine bselF hb27 ?_
      refine bselF hb27 ?_
      refine bselF hb27 ?_
      refine A11 _ _ ?_
      exact jn ⟨_,sj h25⟩ []
     rintro ⟨v24,hv_⟩
     replace hv_:=hv_.symm
     subst hv_
     refine A10 _ _ ?_
     refine goc hn ?_
     refine bselM h15 (fun hb28 h15=>?_) (fun hb28 h15=>?_)
     ·refine gos hn ?_
      refine got hn ?_
      refine R7 _ _ ?_
      refine R6 _ _ ?_
      refine R2 _ _ ?_
      refine R1 _ _ ?_
      refine R0 _ _ ?_
      obtain rfl:=Option.some.inj h15
      obtain rfl:=Option.some.inj h11
      obtain rfl:=Option.some.inj h1
      obtain rfl:=Option.some.inj h
      exact ⟨[],_,fm⟩
     refine gok hn ?_
     refine A7 _ _ ?_
     exact jn ⟨_,sj h15⟩ []
    refine gos hn ?_
    refine got hn ?_
    refine R7 _ _ ?_
    refine R6 _ _ ?_
    refine R2 _ _ ?_
    refine R1 _ _ ?_
    refine R0 _ _ ?_
    obtain rfl:=Option.some.inj h15
    obtain rfl:=Option.some.inj h11
    obtain rfl:=Option.some.inj h1
    obtain rfl:=Option.some.inj h
    exact ⟨[],_,fm⟩
   rintro ⟨⟨⟩,rfl⟩
   refine A6 _ _ ?_
   exact jn ⟨_,sj h11⟩ []
  rintro ⟨⟨⟩,rfl⟩
  refine A2 _ _ ?_
  refine A1 _ _ ?_
  exact jn ⟨_,sj h1⟩ []
 rintro ⟨⟨⟩,rfl⟩
 refine A0 _ _ ?_
 refine gos hn ?_
 refine got hn ?_
 obtain rfl:=Option.some.inj h
 exact ⟨[],_,fm⟩

/- run.Wrong -/
set_option maxRecDepth 100000 in
set_option maxHeartbeats 8000000 in
theorem run_Wrong_ok (N:Nat) (a0:Wd) (a1:TCall) (a2:Int) (r:Int) (h:run_Wrong N a0 a1 a2=some r):Spec Try.prog 16 [] [.agg (eWd a0),.agg (eTCall a1),.int a2] (.int r) [] []:=by
 refine Spec.of tabOk Try.func16 rfl Try.ntmps16 (by kernel_rfl) rfl rfl rfl fun Γ hn=>?_
 unfold run_Wrong at h
 refine gos hn ?_
 refine COk.seqQ fun _ A0 _ R0=>?_
 refine gos hn ?_
 obtain ⟨r1,hr2,h⟩:=bindM h
 show CallOk Try.prog _ _ _ _
 refine cA (class_Name_ok N a1.name r1 hr2) ?_
 refine goc hn ?_
 refine bselM h (fun hb3 h=>?_) (fun hb3 h=>?_)
 ·refine gos hn ?_
  refine got hn ?_
  refine R0 _ _ ?_
  obtain rfl:=Option.some.inj h
  exact ⟨[],_,fm⟩
 refine gok hn ?_
 refine A0 _ _ ?_
 refine COk.seqQ fun _ A1 _ R1=>?_
 refine gos hn ?_
 refine lenM (fun _=>?_)
 refine goc hn ?_
 refine bselM h (fun hb5 h=>?_) (fun hb5 h=>?_)
 ·refine gos hn ?_
  refine got hn ?_
  refine R1 _ _ ?_
  obtain rfl:=Option.some.inj h
  exact ⟨[],_,fm⟩
 refine gok hn ?_
 refine A1 _ _ ?_
 refine COk.seqQ fun _ A2 _ R2=>?_
 refine COk.seqQ fun _ A3 _ _=>?_
 obtain ⟨o8,h7,h⟩:=bindM h
 refine jk (ι:={ s // o8=s }) hn (fun s=>[(23,.bool s.1)]) (fun s=>[]) [(3,_),(4,_)] [(3,_),(4,_)] (fun _ A4 _ _=>?_) ?_
 ·refine gor hn ?_
  refine bselM h7 (fun hb9 h7=>?_) (fun hb9 h7=>?_)
  ·refine bselT hb9 ?_
   refine bselT hb9 ?_
   refine A4 _ _ ?_
   exact jn ⟨_,sj h7⟩ []
  refine bselF hb9 ?_
  refine bselF hb9 ?_
  refine A4 _ _ ?_
  exact jn ⟨_,sj h7⟩ []
 rintro ⟨v6,hv_⟩
 replace hv_:=hv_.symm
 subst hv_
 refine A3 _ _ ?_
 refine goc hn ?_
 refine bselM h (fun hb10 h=>?_) (fun hb10 h=>?_)
 ·refine gos hn ?_
  refine got hn ?_
  refine R2 _ _ ?_
  obtain rfl:=Option.some.inj h
  exact ⟨[],_,fm⟩
 refine gok hn ?_
 refine A2 _ _ ?_
 refine COk.seqQ fun _ A5 _ R5=>?_
 refine gos hn ?_
 refine Exists.intro (List.map eV [a1.self_]) (And.intro (by repeat (first|exact trivial|exact rfl|(refine And.intro ?_ ?_))) ?_)
 obtain ⟨hg11,h⟩:=guardM h
 refine appM (l2:=a1.args) hg11 (leLs_refl _) ?_
 refine lenM (fun hl12=>?_)
 obtain ⟨o14,h15,h⟩:=bindM h
 refine jk (ι:={ s // o14=Ctl.next s }) hn (fun s=>[]) (fun s=>[]) [] [] (fun _ A6 _ R6=>?_) ?_
 ·refine COk.blkQ fun _ _ E7 _ R7=>?_
  refine lq (ι:={ q:((List V)×Nat) // q.1=([a1.self_]++a1.args).drop q.2∧run_Wrong_l1 N a0 a1 q.1 q.2=some o14 }) hn (fun q=>[(31,.int (q.1.2:Int))]) (fun q=>[]) (fun q=>q.1.1.length) [(3,_),(29,_),(30,_)] [(3,_),(29,_)] ⟨(([a1.self_]++a1.args),0),rfl,h15⟩ [] ?_
  rintro ⟨⟨rest_,k13⟩,hd17,h15⟩ _ A8 X8 R8
  replace hd17:rest_=([a1.self_]++a1.args).drop k13:=hd17
  rcases rest_ with _|⟨x19,rest16⟩
  ·have hlt21:=restNil hd17
   replace h15:=(run_Wrong_l1.eq_1 _ _ _ _).symm.trans h15
   refine gos hn ?_
   refine COk.seqQ fun _ _ X9 _=>?_
   refine goc hn ?_
   refine bselF hlt21 ?_
   refine goe hn ?_
   refine X9 _ _ _ ?_
   refine X8 _ _ _ ?_
   refine E7 _ _ ?_
   refine A6 _ _ ?_
   exact jn ⟨_,sj h15⟩ []
  ·obtain ⟨hx20,hd2,hlt21⟩:=restCons hd17
   replace h15:=(run_Wrong_l1.eq_2 _ _ _ _ _ _).symm.trans h15
   refine gos hn ?_
   refine COk.seqQ fun _ A10 _ _=>?_
   refine goc hn ?_
   refine bselT hlt21 ?_
   refine gok hn ?_
   refine A10 _ _ ?_
   refine COk.seqQ fun _ A11 _ R11=>?_
   refine COk.blkQ fun _ A12 _ _ R12=>?_
   refine gos hn ?_
   obtain ⟨x22,hx23,h15⟩:=bindM h15
   refine ownM hx23 ?_
   refine ldM (nthO_some hx23).2 ?_
   refine gos hn ?_
   refine lenM (fun _=>?_)
   obtain ⟨r25,hr26,h15⟩:=bindM h15
   show CallOk Try.prog _ _ _ _
   refine cA (value_Wrong_ok N x22 (a0.heap.length:Int) r25 hr26) ?_
   refine gos hn ?_
   refine goc hn ?_
   refine bselM h15 (fun hb27 h15=>?_) (fun hb27 h15=>?_)
   ·refine gos hn ?_
    refine got hn ?_
    refine R12 _ _ ?_
    refine R11 _ _ ?_
    refine R8 _ _ ?_
    refine R7 _ _ ?_
    refine R6 _ _ ?_
    refine R5 _ _ ?_
    obtain rfl:=Option.some.inj h15
    obtain rfl:=Option.some.inj h
    exact ⟨[],_,fm⟩
   refine gok hn ?_
   refine A12 _ _ ?_
   refine A11 _ _ ?_
   refine gor hn ?_
   refine Or.inl (And.intro (inrK hx20 hl12) ?_)
   refine A8 _ _ ?_
   exact jn ⟨(rest16,k13+1),hd2,h15⟩ [] (by show rest16.length < rest16.length+1; omega)
 rintro ⟨⟨⟩,rfl⟩
 refine A5 _ _ ?_
 refine gos hn ?_
 refine got hn ?_
 obtain rfl:=Option.some.inj h
 exact ⟨[],_,fm⟩

/- slices.Clone[[]api.Value,api.Value] -/
set_option maxRecDepth 100000 in
theorem slices_Clone_V_ok (N:Nat) (l:List V) (r:List V) (h:slices_Clone_V N l=some r):Spec Try.prog 92 [] [.sl 2 (List.map eV l)] (.own 0) [(0,.row 2 (List.map eV r) 27)] [0]:=by
  obtain ⟨hf,h⟩:=guardM h
  obtain rfl:=Option.some.inj h
  refine Spec.of tabOk Try.func92 rfl Try.ntmps92 (by kernel_rfl) rfl rfl rfl fun Γ hn=>?_
  refine gos hn ?_
  refine COk.seq (COk.seq (COk.ops (goo hn 1 ?_)))
  refine OOk.gh (Gh.nil 3 rfl) ?_
  rintro ⟨b,hb⟩
  refine goo hn 1 (OOk.done ?_)
  (repeat (first|refine gos hn ?_|refine gor hn ?_|refine gob hn ?_|refine goc hn ?_|refine goe hn ?_|refine gok hn ?_|refine got hn ?_))
  refine bsel_b (fun hb1=>?_) (fun hb1=>?_)
  · have e:l=[]:=by simpa using hb hb1
    subst e
    refine gos hn ?_
    refine COk.nilrow 2 5 2 27 rfl rfl rfl ?_
    (repeat (first|refine gos hn ?_|refine gor hn ?_|refine gob hn ?_|refine goc hn ?_|refine goe hn ?_|refine gok hn ?_|refine got hn ?_))
    exact ⟨[(0,5)],_,rfl,rfl,⟨rfl,trivial⟩,rfl,rfl,rfl,rfl,rfl⟩
  · (repeat (first|refine gos hn ?_|refine gor hn ?_|refine gob hn ?_|refine goc hn ?_|refine goe hn ?_|refine gok hn ?_|refine got hn ?_))
    refine Exists.intro [] (And.intro trivial ?_)
    refine And.intro (by have:=Nat.le_of_ble_eq_true hf; simpa using this) ?_
    refine Exists.intro (List.map eV l) (And.intro (leLs_refl _) ?_)
    (repeat (first|refine gos hn ?_|refine gor hn ?_|refine gob hn ?_|refine goc hn ?_|refine goe hn ?_|refine gok hn ?_|refine got hn ?_))
    exact ⟨[(0,7)],_,rfl,rfl,⟨rfl,trivial⟩,rfl,rfl,rfl,rfl,rfl⟩

/- value.Own -/
set_option maxRecDepth 100000 in
set_option maxHeartbeats 8000000 in
theorem value_Own_ok (N:Nat) (a0:(List Ob)) (r:(List Ob)) (h:value_Own N a0=some r):Spec Try.prog 87 [] [.sl 2 (List.map eOb a0)] (.own 0) [(0,.deep 2 97 [(1,(2,27))] (List.map eOb r) [] 1),(1,.gone)] [0,1]:=by
 refine Spec.of tabOk Try.func87 rfl Try.ntmps87 (by kernel_rfl) rfl rfl rfl fun Γ hn=>?_
 unfold value_Own at h
 refine gos hn ?_
 refine gos hn ?_
 refine COk.seqQ fun _ A0 _ _=>?_
 refine gos hn ?_
 refine lenM (fun hl1=>?_)
 refine COk.nilrow 3 203 2 97 rfl rfl rfl ?_
 refine COk.gh (Gh.toDeep 203 501 [(1,(2,27))] rfl rfl rfl rfl) (fun _=>?_)
 obtain ⟨o6,h7,h⟩:=bindM h
 refine jk (ι:={ s // o6=s }) hn (fun s=>[]) (fun s=>[(203,.deep 2 97 [(1,(2,27))] (List.map eOb s.1) [] 501)]) [(3,_)] [(501,_)] (fun _ A1 _ _=>?_) ?_
 ·refine COk.blkQ fun _ _ E2 _ _=>?_
  refine lq (ι:={ q:((List Ob)×Nat×(List Ob)) // q.1=a0.drop q.2.1∧value_Own_l1 N q.1 q.2.1 q.2.2=some o6 }) hn (fun q=>[(8,.int (q.1.2.1:Int))]) (fun q=>[(203,.deep 2 97 [(1,(2,27))] (List.map eOb q.1.2.2) [] 501)]) (fun q=>q.1.1.length) [(3,_),(6,_),(7,_)] [(501,_)] ⟨(a0,0,([]:List Ob)),rfl,h7⟩ [] ?_
  rintro ⟨⟨rest_,k2,v3⟩,hd9,h7⟩ _ A3 X3 _
  replace hd9:rest_=a0.drop k2:=hd9
  rcases rest_ with _|⟨x11,rest8⟩
  ·have hlt13:=restNil hd9
   replace h7:=(value_Own_l1.eq_1 _ _ _).symm.trans h7
   refine gos hn ?_
   refine COk.seqQ fun _ _ X4 _=>?_
   refine goc hn ?_
   refine bselF hlt13 ?_
   refine goe hn ?_
   refine X4 _ _ _ ?_
   refine X3 _ _ _ ?_
   refine E2 _ _ ?_
   refine A1 _ _ ?_
   exact jn ⟨_,sj h7⟩ []
  ·obtain ⟨hx12,hd2,hlt13⟩:=restCons hd9
   replace h7:=(value_Own_l1.eq_2 _ _ _ _ _).symm.trans h7
   refine gos hn ?_
   refine COk.seqQ fun _ A5 _ _=>?_
   refine goc hn ?_
   refine bselT hlt13 ?_
   refine gok hn ?_
   refine A5 _ _ ?_
   refine COk.seqQ fun _ A6 _ _=>?_
   refine COk.blkQ fun _ A7 _ _ _=>?_
   refine gos hn ?_
   refine idxK hx12 ?_
   refine gos hn ?_
   obtain ⟨r14,hr15,h7⟩:=bindM h7
   show CallOk Try.prog _ _ _ _
   refine cA ((slices_Clone_V_ok N x11.slots r14 hr15).sw 0 14) ?_
   refine gor hn ?_
   refine Or.inl ?_
   refine Exists.intro [(1,(2,27))] (Exists.intro (eOb (⟨x11.cls,r14⟩:Ob)) (Exists.intro [(14,.row 2 (List.map eV r14) 27)] (And.intro rfl (And.intro rfl (And.intro rfl (And.intro (by decide) (And.intro (by decide) (And.intro rfl (And.intro rfl ?_)))))))))
   obtain ⟨hg16,h7⟩:=guardM h7
   refine appD (l2:=[(⟨x11.cls,r14⟩:Ob)]) hg16 rfl rfl rfl rfl rfl (by decide) (by decide) ?_
   refine A7 _ _ ?_
   refine A6 _ _ ?_
   refine gor hn ?_
   refine Or.inl (And.intro (inrK hx12 hl1) ?_)
   refine A3 _ _ ?_
   exact jn ⟨(rest8,k2+1,(v3++[(⟨x11.cls,r14⟩:Ob)])),hd2,h7⟩ [(203,19),(501,719)] (by show rest8.length < rest8.length+1; omega)
 rintro ⟨v5,hv_⟩
 replace hv_:=hv_.symm
 subst hv_
 refine A0 _ _ ?_
 refine gos hn ?_
 refine got hn ?_
 obtain rfl:=Option.some.inj h
 exact ⟨[(0,203),(1,501)],_,fm⟩

/- slices.Clone[[]api.Instr,api.Instr] -/
set_option maxRecDepth 100000 in
theorem slices_Clone_Ins_ok (N:Nat) (l:List Ins) (r:List Ins) (h:slices_Clone_Ins N l=some r):Spec Try.prog 114 [] [.sl 5 (List.map eIns l)] (.own 0) [(0,.row 5 (List.map eIns r) 60)] [0]:=by
  obtain ⟨hf,h⟩:=guardM h
  obtain rfl:=Option.some.inj h
  refine Spec.of tabOk Try.func114 rfl Try.ntmps114 (by kernel_rfl) rfl rfl rfl fun Γ hn=>?_
  refine gos hn ?_
  refine COk.seq (COk.seq (COk.ops (goo hn 1 ?_)))
  refine OOk.gh (Gh.nil 3 rfl) ?_
  rintro ⟨b,hb⟩
  refine goo hn 1 (OOk.done ?_)
  (repeat (first|refine gos hn ?_|refine gor hn ?_|refine gob hn ?_|refine goc hn ?_|refine goe hn ?_|refine gok hn ?_|refine got hn ?_))
  refine bsel_b (fun hb1=>?_) (fun hb1=>?_)
  · have e:l=[]:=by simpa using hb hb1
    subst e
    refine gos hn ?_
    refine COk.nilrow 2 5 5 60 rfl rfl rfl ?_
    (repeat (first|refine gos hn ?_|refine gor hn ?_|refine gob hn ?_|refine goc hn ?_|refine goe hn ?_|refine gok hn ?_|refine got hn ?_))
    exact ⟨[(0,5)],_,rfl,rfl,⟨rfl,trivial⟩,rfl,rfl,rfl,rfl,rfl⟩
  · (repeat (first|refine gos hn ?_|refine gor hn ?_|refine gob hn ?_|refine goc hn ?_|refine goe hn ?_|refine gok hn ?_|refine got hn ?_))
    refine Exists.intro [] (And.intro trivial ?_)
    refine And.intro (by have:=Nat.le_of_ble_eq_true hf; simpa using this) ?_
    refine Exists.intro (List.map eIns l) (And.intro (leLs_refl _) ?_)
    (repeat (first|refine gos hn ?_|refine gor hn ?_|refine gob hn ?_|refine goc hn ?_|refine goe hn ?_|refine gok hn ?_|refine got hn ?_))
    exact ⟨[(0,7)],_,rfl,rfl,⟨rfl,trivial⟩,rfl,rfl,rfl,rfl,rfl⟩

/- class.Method -/
set_option maxRecDepth 100000 in
set_option maxHeartbeats 8000000 in
theorem class_Method_ok (N:Nat) (a0:Me) (r:Me) (h:class_Method N a0=some r):Spec Try.prog 88 [] [.agg (eMe a0)] (.agg (eMe r)) [] []:=by
 refine Spec.of tabOk Try.func88 rfl Try.ntmps88 (by kernel_rfl) rfl rfl rfl fun Γ hn=>?_
 unfold class_Method at h
 refine gos hn ?_
 refine gos hn ?_
 obtain ⟨r1,hr2,h⟩:=bindM h
 show CallOk Try.prog _ _ _ _
 refine cA ((slices_Clone_Ins_ok N a0.code r1 hr2).sw 0 5) ?_
 refine gos hn ?_
 refine COk.fzAll 5 rfl ?_
 refine got hn ?_
 obtain rfl:=Option.some.inj h
 exact ⟨[],_,fm⟩

/- class.Own -/
set_option maxRecDepth 100000 in
set_option maxHeartbeats 8000000 in
theorem class_Own_ok (N:Nat) (a0:Wd) (r:Wd) (h:class_Own N a0=some r):Spec Try.prog 58 [] [.agg (eWd a0)] (.agg [.sl 4 (List.map eCl r.classes),.own 0,.int r.epoch]) [(0,.deep 2 97 [(1,(2,27))] (List.map eOb r.heap) [] 1),(1,.gone)] [0,1]:=by
 refine Spec.of tabOk Try.func58 rfl Try.ntmps58 (by kernel_rfl) rfl rfl rfl fun Γ hn=>?_
 unfold class_Own at h
 refine gos hn ?_
 refine COk.seqQ fun _ A0 _ _=>?_
 refine god hn (by kernel_rfl) ?_
 obtain ⟨r1,hr2,h⟩:=bindM h
 show CallOk Try.prog _ _ _ _
 refine cA (((value_Own_ok N a0.heap r1 hr2).sw 0 11).sw 1 711) ?_
 refine A0 _ _ ?_
 refine COk.seqQ fun _ A1 _ _=>?_
 refine gos hn ?_
 refine lenM (fun hl3=>?_)
 refine COk.nilrowB 3 0 501 4 51 rfl rfl rfl rfl rfl rfl ?_
 obtain ⟨o8,h9,h⟩:=bindM h
 refine jk (ι:={ s // o8=s }) hn (fun s=>[]) (fun s=>[(501,.row 4 (List.map eCl s.1) 51)]) [(2,_),(3,_)] [(2,_),(3,_),(11,_),(711,_)] (fun _ A2 _ _=>?_) ?_
 ·refine COk.blkQ fun _ _ E3 _ _=>?_
  refine lq (ι:={ q:((List Cl)×Nat×(List Cl)) // q.1=a0.classes.drop q.2.1∧class_Own_l1 N q.1 q.2.1 q.2.2=some o8 }) hn (fun q=>[(18,.int (q.1.2.1:Int))]) (fun q=>[(501,.row 4 (List.map eCl q.1.2.2) 51)]) (fun q=>q.1.1.length) [(2,_),(3,_),(16,_),(17,_)] [(2,_),(3,_),(11,_),(711,_)] ⟨(a0.classes,0,([]:List Cl)),rfl,h9⟩ [] ?_
  rintro ⟨⟨rest_,k4,v5⟩,hd11,h9⟩ _ A4 X4 _
  replace hd11:rest_=a0.classes.drop k4:=hd11
  rcases rest_ with _|⟨x13,rest10⟩
  ·have hlt15:=restNil hd11
   replace h9:=(class_Own_l1.eq_1 _ _ _).symm.trans h9
   refine gos hn ?_
   refine COk.seqQ fun _ _ X5 _=>?_
   refine goc hn ?_
   refine bselF hlt15 ?_
   refine goe hn ?_
   refine X5 _ _ _ ?_
   refine X4 _ _ _ ?_
   refine E3 _ _ ?_
   refine A2 _ _ ?_
   exact jn ⟨_,sj h9⟩ []
  ·obtain ⟨hx14,hd2,hlt15⟩:=restCons hd11
   replace h9:=(class_Own_l1.eq_2 _ _ _ _ _).symm.trans h9
   refine gos hn ?_
   refine COk.seqQ fun _ A6 _ _=>?_
   refine goc hn ?_
   refine bselT hlt15 ?_
   refine gok hn ?_
   refine A6 _ _ ?_
   refine COk.seqQ fun _ A7 _ _=>?_
   refine COk.blkQ fun _ A8 _ _ _=>?_
   refine gos hn ?_
   refine idxK hx14 ?_
   refine gos hn ?_
   refine COk.seqQ fun _ A9 _ _=>?_
   refine gos hn ?_
   refine lenM (fun hl16=>?_)
   refine COk.nilrow 6 206 5 54 rfl rfl rfl ?_
   obtain ⟨o21,h22,h9⟩:=bindM h9
   refine jk (ι:={ s // o21=s }) hn (fun s=>[]) (fun s=>[(206,.row 5 (List.map eMe s.1) 54)]) [(2,_),(3,_),(5,_),(6,_),(16,_),(17,_),(18,_)] [(2,_),(3,_),(5,_),(11,_),(501,_),(711,_)] (fun _ A10 _ _=>?_) ?_
   ·refine COk.blkQ fun _ _ E11 _ _=>?_
    refine lq (ι:={ q:((List Me)×Nat×(List Me)) // q.1=x13.methods.drop q.2.1∧class_Own_l2 N q.1 q.2.1 q.2.2=some o21 }) hn (fun q=>[(25,.int (q.1.2.1:Int))]) (fun q=>[(206,.row 5 (List.map eMe q.1.2.2) 54)]) (fun q=>q.1.1.length) [(2,_),(3,_),(5,_),(6,_),(16,_),(17,_),(18,_),(23,_),(24,_)] [(2,_),(3,_),(5,_),(11,_),(501,_),(711,_)] ⟨(x13.methods,0,([]:List Me)),rfl,h22⟩ [] ?_
    rintro ⟨⟨rest_,k17,v18⟩,hd24,h22⟩ _ A12 X12 _
    replace hd24:rest_=x13.methods.drop k17:=hd24
    rcases rest_ with _|⟨x26,rest23⟩
    ·have hlt28:=restNil hd24
     replace h22:=(class_Own_l2.eq_1 _ _ _).symm.trans h22
     refine gos hn ?_
     refine COk.seqQ fun _ _ X13 _=>?_
     refine goc hn ?_
     refine bselF hlt28 ?_
     refine goe hn ?_
     refine X13 _ _ _ ?_
     refine X12 _ _ _ ?_
     refine E11 _ _ ?_
     refine A10 _ _ ?_
     exact jn ⟨_,sj h22⟩ []
    ·obtain ⟨hx27,hd2,hlt28⟩:=restCons hd24
     replace h22:=(class_Own_l2.eq_2 _ _ _ _ _).symm.trans h22
     refine gos hn ?_
     refine COk.seqQ fun _ A14 _ _=>?_
     refine goc hn ?_
     refine bselT hlt28 ?_
     refine gok hn ?_
     refine A14 _ _ ?_
     refine COk.seqQ fun _ A15 _ _=>?_
     refine COk.blkQ fun _ A16 _ _ _=>?_
     refine gos hn ?_
     refine idxK hx27 ?_
     refine gor hn ?_
     obtain ⟨r29,hr30,h22⟩:=bindM h22
     show CallOk Try.prog _ _ _ _
     refine cA (class_Method_ok N x26 r29 hr30) ?_
     refine Exists.intro (List.map eMe [r29]) (And.intro (by repeat (first|exact trivial|exact rfl|(refine And.intro ?_ ?_))) ?_)
     obtain ⟨hg31,h22⟩:=guardM h22
     refine appM (l2:=[r29]) hg31 (leLs_refl _) ?_
     refine A16 _ _ ?_
     refine A15 _ _ ?_
     refine kp [(2,_),(3,_),(5,_),(6,_),(16,_),(17,_),(18,_),(23,_),(24,_),(25,_)] [(2,_),(3,_),(5,_),(11,_),(33,_),(501,_),(711,_)] ?_
     refine gor hn ?_
     refine Or.inl (And.intro (inrK hx27 hl16) ?_)
     refine A12 _ _ ?_
     exact jn ⟨(rest23,k17+1,(v18++[r29])),hd2,h22⟩ [(206,33)] (by show rest23.length < rest23.length+1; omega)
   rintro ⟨v20,hv_⟩
   replace hv_:=hv_.symm
   subst hv_
   refine A9 _ _ ?_
   refine gos hn ?_
   refine gor hn ?_
   refine Exists.intro (List.map eCl [(⟨x13.name,x13.super,x13.slots,v20⟩:Cl)]) (And.intro (by repeat (first|exact trivial|exact rfl|(refine And.intro ?_ ?_))) ?_)
   obtain ⟨hg32,h9⟩:=guardM h9
   refine appM (l2:=[(⟨x13.name,x13.super,x13.slots,v20⟩:Cl)]) hg32 (leLs_refl _) ?_
   refine A8 _ _ ?_
   refine A7 _ _ ?_
   refine gor hn ?_
   refine Or.inl (And.intro (inrK hx14 hl3) ?_)
   refine A4 _ _ ?_
   exact jn ⟨(rest10,k4+1,(v5++[(⟨x13.name,x13.super,x13.slots,v20⟩:Cl)])),hd2,h9⟩ [(501,41)] (by show rest10.length < rest10.length+1; omega)
 rintro ⟨v7,hv_⟩
 replace hv_:=hv_.symm
 subst hv_
 refine A1 _ _ ?_
 refine gos hn ?_
 refine COk.fzAll 501 rfl ?_
 refine got hn ?_
 obtain rfl:=Option.some.inj h
 exact ⟨[(0,11),(1,711)],_,fm⟩

/- value.Class -/
set_option maxRecDepth 100000 in
set_option maxHeartbeats 8000000 in
theorem value_Class_ok (N:Nat) (a0:(List Ob)) (a1:V) (r:Int) (h:value_Class N a0 a1=some r):Spec Try.prog 59 [] [.sl 2 (List.map eOb a0),.agg (eV a1)] (.int r) [] []:=by
 refine Spec.of tabOk Try.func59 rfl Try.ntmps59 (by kernel_rfl) rfl rfl rfl fun Γ hn=>?_
 unfold value_Class at h
 refine gos hn ?_
 refine COk.seqQ fun _ A0 _ R0=>?_
 refine gos hn ?_
 refine COk.blkQ fun _ A1 _ _ R1=>?_
 refine gos hn ?_
 refine goc hn ?_
 refine bselM h (fun hb1 h=>?_) (fun hb1 h=>?_)
 ·refine gos hn ?_
  refine got hn ?_
  refine R1 _ _ ?_
  refine R0 _ _ ?_
  obtain rfl:=Option.some.inj h
  exact ⟨[],_,fm⟩
 refine COk.seqQ fun _ A2 _ _=>?_
 refine gos hn ?_
 obtain ⟨o4,h3,h⟩:=bindM h
 refine jk (ι:={ s // o4=s }) hn (fun s=>[(9,.bool s.1)]) (fun s=>[]) [(0,_),(3,_),(6,_)] [(3,_)] (fun _ A3 _ _=>?_) ?_
 ·refine goc hn ?_
  refine bselM h3 (fun hb5 h3=>?_) (fun hb5 h3=>?_)
  ·refine gok hn ?_
   refine A3 _ _ ?_
   exact jn ⟨_,sj h3⟩ []
  refine gor hn ?_
  refine A3 _ _ ?_
  exact jn ⟨_,sj h3⟩ []
 rintro ⟨v2,hv_⟩
 replace hv_:=hv_.symm
 subst hv_
 refine A2 _ _ ?_
 refine goc hn ?_
 refine bselM h (fun hb6 h=>?_) (fun hb6 h=>?_)
 ·refine gos hn ?_
  refine got hn ?_
  refine R1 _ _ ?_
  refine R0 _ _ ?_
  obtain rfl:=Option.some.inj h
  exact ⟨[],_,fm⟩
 refine gos hn ?_
 refine goc hn ?_
 refine bselM h (fun hb7 h=>?_) (fun hb7 h=>?_)
 ·refine gos hn ?_
  refine got hn ?_
  refine R1 _ _ ?_
  refine R0 _ _ ?_
  obtain rfl:=Option.some.inj h
  exact ⟨[],_,fm⟩
 refine gok hn ?_
 refine A1 _ _ ?_
 refine A0 _ _ ?_
 refine COk.seqQ fun _ A4 _ R4=>?_
 refine COk.seqQ fun _ A5 _ _=>?_
 obtain ⟨o10,h9,h⟩:=bindM h
 refine jk (ι:={ s // o10=s }) hn (fun s=>[(28,.bool s.1)]) (fun s=>[]) [(0,_),(3,_)] [(3,_)] (fun _ A6 _ _=>?_) ?_
 ·refine gor hn ?_
  refine bselM h9 (fun hb11 h9=>?_) (fun hb11 h9=>?_)
  ·refine bselT hb11 ?_
   refine bselT hb11 ?_
   refine bselT hb11 ?_
   refine bselM h9 (fun hb12 h9=>?_) (fun hb12 h9=>?_)
   ·refine bselT hb12 ?_
    refine bselT hb12 ?_
    refine bselT hb12 ?_
    refine lenM (fun _=>?_)
    refine bselT hb12 ?_
    refine bselT hb12 ?_
    refine A6 _ _ ?_
    exact jn ⟨_,sj h9⟩ []
   refine bselF hb12 ?_
   refine bselF hb12 ?_
   refine bselF hb12 ?_
   refine bselF hb12 ?_
   refine bselF hb12 ?_
   refine A6 _ _ ?_
   exact jn ⟨_,sj h9⟩ []
  refine bselF hb11 ?_
  refine bselF hb11 ?_
  refine bselF hb11 ?_
  refine A6 _ _ ?_
  exact jn ⟨_,sj h9⟩ []
 rintro ⟨v8,hv_⟩
 replace hv_:=hv_.symm
 subst hv_
 refine A5 _ _ ?_
 refine goc hn ?_
 refine bselM h (fun hb14 h=>?_) (fun hb14 h=>?_)
 ·refine gos hn ?_
  obtain ⟨x15,hx16,h⟩:=bindM h
  refine idxM hx16 ?_
  refine got hn ?_
  refine R4 _ _ ?_
  obtain rfl:=Option.some.inj h
  exact ⟨[],_,fm⟩
 refine gok hn ?_
 refine A4 _ _ ?_
 refine gos hn ?_
 refine got hn ?_
 obtain rfl:=Option.some.inj h
 exact ⟨[],_,fm⟩

/- slices.BinarySearchFunc[[]api.Method,api.Method,string] -/
set_option maxRecDepth 100000 in
set_option maxHeartbeats 8000000 in
theorem slices_BinarySearchFunc_api_Method_api_Method_string_ok (N:Nat) (a0:(List Me)) (a1:ByteArray) (g2:Me→ByteArray→Option Int) {K2:Nat} (hg2:∀x0_ x1_ y_,g2 x0_ x1_=some y_→Spec Try.prog K2 [] [.agg (eMe x0_),.str x1_] (.int y_) [] []) (r:(Int×Bool)) (h:slices_BinarySearchFunc_api_Method_api_Method_string N a0 a1 g2=some r):Spec Try.prog 80 [] [.sl 5 (List.map eMe a0),.str a1,.fn K2 []] (.tup [.int r.1,.bool r.2]) [] []:=by
 refine Spec.of tabOk Try.func80 rfl Try.ntmps80 (by kernel_rfl) rfl rfl rfl fun Γ hn=>?_
 unfold slices_BinarySearchFunc_api_Method_api_Method_string at h
 refine gos hn ?_
 refine gos hn ?_
 refine lenM (fun _=>?_)
 refine gos hn ?_
 refine COk.seqQ fun _ A0 _ _=>?_
 obtain ⟨o8,h9,h⟩:=bindM h
 refine jk (ι:={ s // o8=s }) hn (fun s=>[(9,.int s.1)]) (fun s=>[]) [(0,_),(1,_),(2,_),(8,_)] [] (fun _ A1 _ _=>?_) ?_
 ·refine COk.blkQ fun _ _ E2 _ _=>?_
  refine lq (ι:={ q:(Nat×Int×Int) // slices_BinarySearchFunc_api_Method_api_Method_string_l1 N a0 a1 g2 q.1 q.2.1 q.2.2=some o8 }) hn (fun q=>[(9,.int q.1.2.1),(10,.int q.1.2.2)]) (fun q=>[]) (fun q=>q.1.1) [(0,_),(1,_),(2,_),(8,_)] [] ⟨(N,(0:Int),(a0.length:Int)),h9⟩ [] ?_
  rintro ⟨⟨n_,v3,v4⟩,h9⟩ _ A3 X3 _
  rcases n_ with _|n12
  ·rw [slices_BinarySearchFunc_api_Method_api_Method_string_l1.eq_1] at h9
   cases h9
  ·replace h9:=(slices_BinarySearchFunc_api_Method_api_Method_string_l1.eq_2 _ _ _ _ _ _ _).symm.trans h9
   refine COk.seqQ fun _ A4 X4 _=>?_
   refine gos hn ?_
   refine goc hn ?_
   refine bselM h9 (fun hb13 h9=>?_) (fun hb13 h9=>?_)
   ·refine gok hn ?_
    refine A4 _ _ ?_
    obtain ⟨o17,h16,h9⟩:=bindM h9
    refine jk (ι:={ s // o17=s }) hn (fun s=>[(9,.int s.1.1),(10,.int s.1.2)]) (fun s=>[]) [(0,_),(1,_),(2,_),(8,_)] [] (fun _ A5 _ _=>?_) ?_
    ·refine COk.blkQ fun _ A6 _ _ _=>?_
     refine gos hn ?_
     refine Or.inr ?_
     obtain ⟨hg18,h16⟩:=guardM h16
     refine decM hg18 ?_
     refine And.intro rfl ?_
     refine And.intro rfl ?_
     obtain ⟨hg19,h16⟩:=guardM h16
     refine decM hg19 ?_
     refine gos hn ?_
     obtain ⟨x20,hx21,h16⟩:=bindM h16
     refine idxM hx21 ?_
     obtain ⟨r22,hr23,h16⟩:=bindM h16
     show CallOk Try.prog _ _ _ _
     refine cA (hg2 _ _ _ hr23) ?_
     obtain ⟨o27,h26,h16⟩:=bindM h16
     refine jk (ι:={ s // o27=s }) hn (fun s=>[(9,.int s.1.1),(10,.int s.1.2)]) (fun s=>[]) [(0,_),(1,_),(2,_),(8,_)] [] (fun _ A7 _ _=>?_) ?_
     ·refine goc hn ?_
      refine bselM h26 (fun hb28 h26=>?_) (fun hb28 h26=>?_)
      ·refine kp [(0,_),(1,_),(2,_),(8,_),(10,_),(11,_)] [] ?_
       refine gor hn ?_
       refine Or.inr ?_
       refine A7 _ _ ?_
       exact jn ⟨_,sj h26⟩ []
      refine kp [(0,_),(1,_),(2,_),(8,_),(9,_),(11,_)] [] ?_
      refine gor hn ?_
      refine A7 _ _ ?_
      exact jn ⟨_,sj h26⟩ []
     rintro ⟨⟨v24,v25⟩,rfl⟩
     refine A6 _ _ ?_
     refine A5 _ _ ?_
     exact jn ⟨_,sj h16⟩ []
    rintro ⟨⟨v14,v15⟩,rfl⟩
    refine A3 _ _ ?_
    exact jn ⟨(n12,v14,v15),h9⟩ [] (by show n12 < n12+1; omega)
   refine goe hn ?_
   refine X4 _ _ _ ?_
   refine X3 _ _ _ ?_
   refine E2 _ _ ?_
   refine A1 _ _ ?_
   exact jn ⟨_,sj h9⟩ []
 rintro ⟨v7,hv_⟩
 replace hv_:=hv_.symm
 subst hv_
 refine A0 _ _ ?_
 refine COk.seqQ fun _ A8 _ _=>?_
 obtain ⟨o31,h30,h⟩:=bindM h
 refine jk (ι:={ s // o31=s }) hn (fun s=>[(6,.int v7),(7,.bool s.1)]) (fun s=>[]) [] [] (fun _ A9 _ _=>?_) ?_
 ·refine gor hn ?_
  refine bselM h30 (fun hb32 h30=>?_) (fun hb32 h30=>?_)
  ·refine bselT hb32 ?_
   refine bselT hb32 ?_
   refine bselT hb32 ?_
   obtain ⟨x33,hx34,h30⟩:=bindM h30
   refine idxM hx34 ?_
   refine bselT hb32 ?_
   refine bselT hb32 ?_
   refine bselT hb32 ?_
   obtain ⟨r35,hr36,h30⟩:=bindM h30
   show CallOk Try.prog _ _ _ _
   refine cA (hg2 _ _ _ hr36) ?_
   refine bselT hb32 ?_
   refine bselT hb32 ?_
   refine A9 _ _ ?_
   exact jn ⟨_,sj h30⟩ []
  refine bselF hb32 ?_
  refine bselF hb32 ?_
  refine bselF hb32 ?_
  refine bselF hb32 ?_
  refine bselF hb32 ?_
  refine bselF hb32 ?_
  refine bselF hb32 ?_
  refine bselF hb32 ?_
  refine A9 _ _ ?_
  exact jn ⟨_,sj h30⟩ []
 rintro ⟨v29,hv_⟩
 replace hv_:=hv_.symm
 subst hv_
 refine A8 _ _ ?_
 refine got hn ?_
 obtain rfl:=Option.some.inj h
 exact ⟨[],_,fm⟩

/- cmp.isNaN[string] -/
set_option maxRecDepth 100000 in
set_option maxHeartbeats 8000000 in
theorem cmp_isNaN_string_ok (N:Nat) (a0:ByteArray) (r:Bool) (h:cmp_isNaN_string N a0=some r):Spec Try.prog 127 [] [.str a0] (.bool r) [] []:=by
 refine Spec.of tabOk Try.func127 rfl Try.ntmps127 (by kernel_rfl) rfl rfl rfl fun Γ hn=>?_
 unfold cmp_isNaN_string at h
 refine gos hn ?_
 refine gos hn ?_
 refine got hn ?_
 obtain rfl:=Option.some.inj h
 exact ⟨[],_,fm⟩

/- cmp.Compare[string] -/
set_option maxRecDepth 100000 in
set_option maxHeartbeats 8000000 in
theorem cmp_Compare_string_ok (N:Nat) (a0:ByteArray) (a1:ByteArray) (r:Int) (h:cmp_Compare_string N a0 a1=some r):Spec Try.prog 108 [] [.str a0,.str a1] (.int r) [] []:=by
 refine Spec.of tabOk Try.func108 rfl Try.ntmps108 (by kernel_rfl) rfl rfl rfl fun Γ hn=>?_
 unfold cmp_Compare_string at h
 refine gos hn ?_
 refine gos hn ?_
 obtain ⟨r1,hr2,h⟩:=bindM h
 show CallOk Try.prog _ _ _ _
 refine cA (cmp_isNaN_string_ok N a0 r1 hr2) ?_
 refine gos hn ?_
 obtain ⟨r3,hr4,h⟩:=bindM h
 show CallOk Try.prog _ _ _ _
 refine cA (cmp_isNaN_string_ok N a1 r3 hr4) ?_
 refine COk.seqQ fun _ A0 _ R0=>?_
 refine gos hn ?_
 refine goc hn ?_
 refine bselM h (fun hb5 h=>?_) (fun hb5 h=>?_)
 ·refine COk.seqQ fun _ A1 _ R1=>?_
  refine gos hn ?_
  refine goc hn ?_
  refine bselM h (fun hb6 h=>?_) (fun hb6 h=>?_)
  ·refine gos hn ?_
   refine got hn ?_
   refine R1 _ _ ?_
   refine R0 _ _ ?_
   obtain rfl:=Option.some.inj h
   exact ⟨[],_,fm⟩
  refine gok hn ?_
  refine A1 _ _ ?_
  refine gos hn ?_
  refine got hn ?_
  refine R0 _ _ ?_
  obtain rfl:=Option.some.inj h
  exact ⟨[],_,fm⟩
 refine gok hn ?_
 refine A0 _ _ ?_
 refine COk.seqQ fun _ A2 _ R2=>?_
 refine gos hn ?_
 refine goc hn ?_
 refine bselM h (fun hb7 h=>?_) (fun hb7 h=>?_)
 ·refine gos hn ?_
  refine got hn ?_
  refine R2 _ _ ?_
  obtain rfl:=Option.some.inj h
  exact ⟨[],_,fm⟩
 refine gok hn ?_
 refine A2 _ _ ?_
 refine COk.seqQ fun _ A3 _ R3=>?_
 refine gos hn ?_
 refine goc hn ?_
 refine bselM h (fun hb8 h=>?_) (fun hb8 h=>?_)
 ·refine gos hn ?_
  refine got hn ?_
  refine R3 _ _ ?_
  obtain rfl:=Option.some.inj h
  exact ⟨[],_,fm⟩
 refine gok hn ?_
 refine A3 _ _ ?_
 refine COk.seqQ fun _ A4 _ R4=>?_
 refine gos hn ?_
 refine goc hn ?_
 refine bselM h (fun hb9 h=>?_) (fun hb9 h=>?_)
 ·refine kp [] [] ?_
  refine gos hn ?_
  refine got hn ?_
  refine R4 _ _ ?_
  obtain rfl:=Option.some.inj h
  exact ⟨[],_,fm⟩
 refine gok hn ?_
 refine A4 _ _ ?_
 refine kp [] [] ?_
 refine gos hn ?_
 refine got hn ?_
 obtain rfl:=Option.some.inj h
 exact ⟨[],_,fm⟩

/- class.order -/
set_option maxRecDepth 100000 in
set_option maxHeartbeats 8000000 in
theorem class_order_ok (N:Nat) (a0:Me) (a1:ByteArray) (r:Int) (h:class_order N a0 a1=some r):Spec Try.prog 81 [] [.agg (eMe a0),.str a1] (.int r) [] []:=by
 refine Spec.of tabOk Try.func81 rfl Try.ntmps81 (by kernel_rfl) rfl rfl rfl fun Γ hn=>?_
 unfold class_order at h
 refine gos hn ?_
 refine gos hn ?_
 obtain ⟨r1,hr2,h⟩:=bindM h
 show CallOk Try.prog _ _ _ _
 refine cA (cmp_Compare_string_ok N a0.name a1 r1 hr2) ?_
 refine got hn ?_
 obtain rfl:=Option.some.inj h
 exact ⟨[],_,fm⟩

/- class.Find -/
set_option maxRecDepth 100000 in
set_option maxHeartbeats 8000000 in
theorem class_Find_ok (N:Nat) (a0:Wd) (a1:Int) (a2:ByteArray) (r:(Int×Int)) (h:class_Find N a0 a1 a2=some r):Spec Try.prog 43 [] [.agg (eWd a0),.int a1,.str a2] (.tup [.int r.1,.int r.2]) [] []:=by
 refine Spec.of tabOk Try.func43 rfl Try.ntmps43 (by kernel_rfl) rfl rfl rfl fun Γ hn=>?_
 unfold class_Find at h
 refine gos hn ?_
 refine COk.seqQ fun _ A0 _ R0=>?_
 refine gos hn ?_
 obtain ⟨o6,h7,h⟩:=bindM h
 refine jk (ι:={ s // o6=Ctl.next s }) hn (fun s=>[]) (fun s=>[]) [] [] (fun _ A1 _ R1=>?_) ?_
 ·refine COk.blkQ fun _ _ E2 _ R2=>?_
  refine lq (ι:={ q:(Nat×Int×Int) // class_Find_l1 N a0 a2 q.1 q.2.1 q.2.2=some o6 }) hn (fun q=>[(1,.int q.1.2.1),(8,.int q.1.2.2)]) (fun q=>[]) (fun q=>q.1.1) [(2,_),(3,_)] [(3,_)] ⟨(N,a1,(0:Int)),h7⟩ [] ?_
  rintro ⟨⟨n_,v2,v3⟩,h7⟩ _ A3 X3 R3
  rcases n_ with _|n10
  ·rw [class_Find_l1.eq_1] at h7
   cases h7
  ·replace h7:=(class_Find_l1.eq_2 _ _ _ _ _ _).symm.trans h7
   refine COk.seqQ fun _ A4 X4 _=>?_
   refine COk.seqQ fun _ A5 _ _=>?_
   obtain ⟨o13,h12,h7⟩:=bindM h7
   refine jk (ι:={ s // o13=s }) hn (fun s=>[(26,.bool s.1)]) (fun s=>[]) [(1,_),(2,_),(3,_),(8,_)] [(3,_)] (fun _ A6 _ _=>?_) ?_
   ·refine gor hn ?_
    refine bselM h12 (fun hb14 h12=>?_) (fun hb14 h12=>?_)
    ·refine bselT hb14 ?_
     refine bselT hb14 ?_
     refine bselT hb14 ?_
     refine lenM (fun _=>?_)
     refine bselT hb14 ?_
     refine bselT hb14 ?_
     refine bselM h12 (fun hb16 h12=>?_) (fun hb16 h12=>?_)
     ·refine bselT hb16 ?_
      refine bselT hb16 ?_
      refine bselT hb16 ?_
      refine lenM (fun _=>?_)
      refine bselT hb16 ?_
      refine bselT hb16 ?_
      refine A6 _ _ ?_
      exact jn ⟨_,sj h12⟩ []
     refine bselF hb16 ?_
     refine bselF hb16 ?_
     refine bselF hb16 ?_
     refine bselF hb16 ?_
     refine bselF hb16 ?_
     refine A6 _ _ ?_
     exact jn ⟨_,sj h12⟩ []
    refine bselF hb14 ?_
    refine bselF hb14 ?_
    refine bselF hb14 ?_
    refine bselF hb14 ?_
    refine bselF hb14 ?_
    refine A6 _ _ ?_
    exact jn ⟨_,sj h12⟩ []
   rintro ⟨v11,hv_⟩
   replace hv_:=hv_.symm
   subst hv_
   refine A5 _ _ ?_
   refine goc hn ?_
   refine bselM h7 (fun hb18 h7=>?_) (fun hb18 h7=>?_)
   ·refine gok hn ?_
    refine A4 _ _ ?_
    refine COk.seqQ fun _ A7 _ R7=>?_
    refine COk.blkQ fun _ A8 _ _ R8=>?_
    refine COk.seqQ fun _ A9 _ R9=>?_
    refine gos hn ?_
    obtain ⟨x19,hx20,h7⟩:=bindM h7
    refine idxM hx20 ?_
    obtain ⟨r21,hr22,h7⟩:=bindM h7
    show CallOk Try.prog _ _ _ _
    refine cA (slices_BinarySearchFunc_api_Method_api_Method_string_ok N x19.methods a2 (fun x0_ x1_=>class_order N x0_ x1_) (fun x0_ x1_ y_ hy_=>class_order_ok N x0_ x1_ y_ hy_) r21 hr22) ?_
    refine kp [(1,_),(2,_),(3,_),(8,_),(9,_),(10,_)] [(3,_)] ?_
    refine gos hn ?_
    refine goc hn ?_
    refine bselM h7 (fun hb23 h7=>?_) (fun hb23 h7=>?_)
    ·refine gos hn ?_
     refine got hn ?_
     refine R9 _ _ ?_
     refine R8 _ _ ?_
     refine R7 _ _ ?_
     refine R3 _ _ ?_
     refine R2 _ _ ?_
     refine R1 _ _ ?_
     refine R0 _ _ ?_
     obtain rfl:=Option.some.inj h7
     obtain rfl:=Option.some.inj h
     exact ⟨[],_,fm⟩
    refine gok hn ?_
    refine A9 _ _ ?_
    refine gor hn ?_
    obtain ⟨x24,hx25,h7⟩:=bindM h7
    refine idxM hx25 ?_
    refine A8 _ _ ?_
    refine A7 _ _ ?_
    refine gor hn ?_
    refine Or.inr ?_
    refine A3 _ _ ?_
    exact jn ⟨(n10,x24.super,(wr (v3+(1:Int)))),h7⟩ [] (by show n10 < n10+1; omega)
   refine goe hn ?_
   refine X4 _ _ _ ?_
   refine X3 _ _ _ ?_
   refine E2 _ _ ?_
   refine A1 _ _ ?_
   exact jn ⟨_,sj h7⟩ []
 rintro ⟨⟨⟩,rfl⟩
 refine A0 _ _ ?_
 refine gos hn ?_
 refine got hn ?_
 obtain rfl:=Option.some.inj h
 exact ⟨[],_,fm⟩

/- (*run.machine).fail -/
set_option maxRecDepth 100000 in
set_option maxHeartbeats 8000000 in
theorem run_machine_fail_c1_0_ok (N:Nat) (a0:TMachine) (gl:St→Int→ByteArray→Option (Int×Int)) (gq:Int→Int→Option (Fs×Bool)) (a1:Int) {Kl:Nat} {cl_0:List AV} (hgl:∀x0_ x1_ x2_ y_,gl x0_ x1_ x2_=some y_→Spec Try.prog Kl [] [.agg (eSt x0_),.int x1_,.str x2_,.fp cl_0] (.tup [.int y_.1,.int y_.2]) [] []) {Kq:Nat} (hgq:∀x0_ x1_ y_,gq x0_ x1_=some y_→Spec Try.prog Kq [] [.int x0_,.int x1_] (.tup [.agg (eFs y_.1),.bool y_.2]) [] []) (r:TMachine) (h:run_machine_fail N a0 gl gq a1=some r):Spec Try.prog 60 [(1000,.box [.ptr 1001 0,.fn Kl [.fp cl_0],.fn Kq [],.int a0.fuel,.int a0.sends,.int a0.turns,.own 1003,.int a0.back.k,.int a0.back.n,.int a0.err] 123)] [.ptr 1000 0,.int a1] (.tup []) [(1000,.box [.ptr 1001 0,.fn Kl [.fp cl_0],.fn Kq [],.int r.fuel,.int r.sends,.int r.turns,.own 1003,.int r.back.k,.int r.back.n,.int r.err] 123)] []:=by
 refine Spec.of tabOk Try.func60 rfl Try.ntmps60 (by kernel_rfl) rfl rfl rfl fun Γ hn=>?_
 unfold run_machine_fail at h
 refine COk.snoc ?_
 refine gos hn ?_
 obtain ⟨o3,h2,h⟩:=bindM h
 refine jk (ι:={ s // o3=s }) hn (fun s=>[]) (fun s=>[(1000,.box [.ptr 1001 0,.fn Kl [.fp cl_0],.fn Kq [],.int a0.fuel,.int a0.sends,.int a0.turns,.own 1003,.int a0.back.k,.int a0.back.n,.int s.1] 123)]) [(0,_)] [] (fun _ A0 _ _=>?_) ?_
 ·refine goc hn ?_
  refine bselM h2 (fun hb4 h2=>?_) (fun hb4 h2=>?_)
  ·refine gor hn ?_
   refine A0 _ _ ?_
   exact jn ⟨_,sj h2⟩ []
  refine gok hn ?_
  refine A0 _ _ ?_
  exact jn ⟨_,sj h2⟩ []
 rintro ⟨v1,hv_⟩
 replace hv_:=hv_.symm
 subst hv_
 refine EOk.done ?_
 obtain rfl:=Option.some.inj h
 exact ⟨[],_,fm⟩

/- (*run.machine).count -/
set_option maxRecDepth 100000 in
set_option maxHeartbeats 8000000 in
theorem run_machine_count_c1_0_ok (N:Nat) (a0:TMachine) (gl:St→Int→ByteArray→Option (Int×Int)) (gq:Int→Int→Option (Fs×Bool)) (a1:Bool) {Kl:Nat} {cl_0:List AV} (hgl:∀x0_ x1_ x2_ y_,gl x0_ x1_ x2_=some y_→Spec Try.prog Kl [] [.agg (eSt x0_),.int x1_,.str x2_,.fp cl_0] (.tup [.int y_.1,.int y_.2]) [] []) {Kq:Nat} (hgq:∀x0_ x1_ y_,gq x0_ x1_=some y_→Spec Try.prog Kq [] [.int x0_,.int x1_] (.tup [.agg (eFs y_.1),.bool y_.2]) [] []) (r:(Bool×TMachine)) (h:run_machine_count N a0 gl gq a1=some r):Spec Try.prog 89 [(1000,.box [.ptr 1001 0,.fn Kl [.fp cl_0],.fn Kq [],.int a0.fuel,.int a0.sends,.int a0.turns,.own 1003,.int a0.back.k,.int a0.back.n,.int a0.err] 123),(1003,.deep 10 160 [(7,(2,27)),(8,(2,27))] (List.map eTFrame a0.frames) [] 1005)] [.ptr 1000 0,.bool a1] (.bool r.1) [(1000,.box [.ptr 1001 0,.fn Kl [.fp cl_0],.fn Kq [],.int r.2.fuel,.int r.2.sends,.int r.2.turns,.own 1003,.int r.2.back.k,.int r.2.back.n,.int r.2.err] 123),(1003,.deep 10 160 [(7,(2,27)),(8,(2,27))] (List.map eTFrame a0.frames) [] 1005)] []:=by
 refine Spec.of tabOk Try.func89 rfl Try.ntmps89 (by kernel_rfl) rfl rfl rfl fun Γ hn=>?_
 unfold run_machine_count at h
 refine gos hn ?_
 refine COk.seqQ fun _ A0 _ R0=>?_
 obtain ⟨o8,h7,h⟩:=bindM h
 refine jk (ι:={ s // o8=Ctl.next s }) hn (fun s=>[]) (fun s=>[(1000,.box [.ptr 1001 0,.fn Kl [.fp cl_0],.fn Kq [],.int s.1.1,.int s.1.2.1,.int s.1.2.2.1,.own 1003,.int s.1.2.2.2.1,.int s.1.2.2.2.2.1,.int s.1.2.2.2.2.2] 123)]) [(0,_)] [(1003,_)] (fun _ A1 _ R1=>?_) ?_
 ·refine COk.blkQ fun _ A2 _ _ R2=>?_
  refine COk.seqQ fun _ A3 _ _=>?_
  refine god hn (by kernel_rfl) ?_
  refine A3 _ _ ?_
  obtain ⟨o16,h15,h7⟩:=bindM h7
  refine jk (ι:={ s // o16=Ctl.next s }) hn (fun s=>[]) (fun s=>[(1000,.box [.ptr 1001 0,.fn Kl [.fp cl_0],.fn Kq [],.int s.1.1,.int s.1.2.1,.int s.1.2.2.1,.own 1003,.int s.1.2.2.2.1,.int s.1.2.2.2.2.1,.int s.1.2.2.2.2.2] 123)]) [(0,_)] [(1003,_)] (fun _ A4 _ R4=>?_) ?_
  ·refine goc hn ?_
   refine bselM h15 (fun hb17 h15=>?_) (fun hb17 h15=>?_)
   ·refine gor hn ?_
    obtain ⟨r18,hr19,h15⟩:=bindM h15
    show CallOk Try.prog _ _ _ _
    refine cA (run_machine_fail_c1_0_ok N (⟨(⟨a0.w.classes,a0.w.heap,a0.w.epoch⟩:Wd),a0.fuel,a0.sends,a0.turns,a0.frames,a0.back,a0.err⟩:TMachine) gl gq (13:Int) hgl hgq r18 hr19) ?_
    refine A4 _ _ ?_
    exact jn ⟨_,sj h15⟩ []
   refine COk.seqQ fun _ A5 _ _=>?_
   obtain ⟨o22,h21,h15⟩:=bindM h15
   refine jk (ι:={ s // o22=s }) hn (fun s=>[(24,.bool s.1)]) (fun s=>[]) [(0,_)] [(1000,_),(1003,_)] (fun _ A6 _ _=>?_) ?_
   ·refine gor hn ?_
    refine bselM h21 (fun hb23 h21=>?_) (fun hb23 h21=>?_)
    ·refine bselT hb23 ?_
     refine bselT hb23 ?_
     refine bselT hb23 ?_
     refine bselT hb23 ?_
     refine lenM (fun _=>?_)
     refine bselT hb23 ?_
     refine bselT hb23 ?_
     refine A6 _ _ ?_
     exact jn ⟨_,sj h21⟩ []
    refine bselF hb23 ?_
    refine bselF hb23 ?_
    refine bselF hb23 ?_
    refine bselF hb23 ?_
    refine bselF hb23 ?_
    refine bselF hb23 ?_
    refine A6 _ _ ?_
    exact jn ⟨_,sj h21⟩ []
   rintro ⟨v20,hv_⟩
   replace hv_:=hv_.symm
   subst hv_
   refine A5 _ _ ?_
   refine goc hn ?_
   refine bselM h15 (fun hb25 h15=>?_) (fun hb25 h15=>?_)
   ·refine gor hn ?_
    obtain ⟨r26,hr27,h15⟩:=bindM h15
    show CallOk Try.prog _ _ _ _
    refine cA (run_machine_fail_c1_0_ok N (⟨(⟨a0.w.classes,a0.w.heap,a0.w.epoch⟩:Wd),a0.fuel,a0.sends,a0.turns,a0.frames,a0.back,a0.err⟩:TMachine) gl gq (14:Int) hgl hgq r26 hr27) ?_
    refine A4 _ _ ?_
    exact jn ⟨_,sj h15⟩ []
   refine gos hn ?_
   refine Or.inr ?_
   refine gos hn ?_
   refine got hn ?_
   refine R4 _ _ ?_
   refine R2 _ _ ?_
   refine R1 _ _ ?_
   refine R0 _ _ ?_
   obtain rfl:=Option.some.inj h15
   obtain rfl:=Option.some.inj h7
   obtain rfl:=Option.some.inj h
   exact ⟨[],_,fm⟩
  rintro ⟨⟨v9,v10,v11,v12,v13,v14⟩,rfl⟩
  refine A2 _ _ ?_
  refine A1 _ _ ?_
  exact jn ⟨_,sj h7⟩ []
 rintro ⟨⟨v1,v2,v3,v4,v5,v6⟩,rfl⟩
 refine A0 _ _ ?_
 refine gos hn ?_
 refine got hn ?_
 obtain rfl:=Option.some.inj h
 exact ⟨[],_,fm⟩

/- value.Prim$1 -/
set_option maxRecDepth 100000 in
set_option maxHeartbeats 8000000 in
theorem value_Prim_1_ok (N:Nat) (a0:Int) (r:V) (h:value_Prim_1 N a0=some r):Spec Try.prog 115 [] [.int a0] (.agg (eV r)) [] []:=by
 refine Spec.of tabOk Try.func115 rfl Try.ntmps115 (by kernel_rfl) rfl rfl rfl fun Γ hn=>?_
 unfold value_Prim_1 at h
 refine gos hn ?_
 refine gos hn ?_
 obtain ⟨hg1,h⟩:=guardM h
 refine remM hg1 ?_
 refine got hn ?_
 obtain rfl:=Option.some.inj h
 exact ⟨[],_,fm⟩

/- value.Bool -/
set_option maxRecDepth 100000 in
set_option maxHeartbeats 8000000 in
theorem value_Bool_ok (N:Nat) (a0:Bool) (r:V) (h:value_Bool N a0=some r):Spec Try.prog 116 [] [.bool a0] (.agg (eV r)) [] []:=by
 refine Spec.of tabOk Try.func116 rfl Try.ntmps116 (by kernel_rfl) rfl rfl rfl fun Γ hn=>?_
 unfold value_Bool at h
 refine gos hn ?_
 refine COk.seqQ fun _ A0 _ R0=>?_
 refine gos hn ?_
 refine goc hn ?_
 refine bselM h (fun hb1 h=>?_) (fun hb1 h=>?_)
 ·refine gos hn ?_
  refine got hn ?_
  refine R0 _ _ ?_
  obtain rfl:=Option.some.inj h
  exact ⟨[],_,fm⟩
 refine gok hn ?_
 refine A0 _ _ ?_
 refine gos hn ?_
 refine got hn ?_
 obtain rfl:=Option.some.inj h
 exact ⟨[],_,fm⟩

/- value.Prim -/
set_option maxRecDepth 100000 in
set_option maxHeartbeats 8000000 in
theorem value_Prim_ok (N:Nat) (a0:Int) (a1:V) (a2:V) (r:(V×Int)) (h:value_Prim N a0 a1 a2=some r):Spec Try.prog 90 [] [.int a0,.agg (eV a1),.agg (eV a2)] (.tup [.agg (eV r.1),.int r.2]) [] []:=by
 refine Spec.of tabOk Try.func90 rfl Try.ntmps90 (by kernel_rfl) rfl rfl rfl fun Γ hn=>?_
 unfold value_Prim at h
 refine gos hn ?_
 refine COk.seqQ fun _ A0 _ R0=>?_
 refine COk.seqQ fun _ A1 _ _=>?_
 obtain ⟨o3,h2,h⟩:=bindM h
 refine jk (ι:={ s // o3=s }) hn (fun s=>[(16,.bool s.1)]) (fun s=>[]) [(0,_),(4,_),(5,_),(6,_)] [(4,_),(5,_),(6,_)] (fun _ A2 _ _=>?_) ?_
 ·refine gor hn ?_
  refine bselM h2 (fun hb4 h2=>?_) (fun hb4 h2=>?_)
  ·refine bselT hb4 ?_
   refine bselT hb4 ?_
   refine bselT hb4 ?_
   refine A2 _ _ ?_
   exact jn ⟨_,sj h2⟩ []
  refine bselF hb4 ?_
  refine bselF hb4 ?_
  refine bselF hb4 ?_
  refine A2 _ _ ?_
  exact jn ⟨_,sj h2⟩ []
 rintro ⟨v1,hv_⟩
 replace hv_:=hv_.symm
 subst hv_
 refine A1 _ _ ?_
 refine goc hn ?_
 refine bselM h (fun hb5 h=>?_) (fun hb5 h=>?_)
 ·refine gos hn ?_
  refine got hn ?_
  refine R0 _ _ ?_
  obtain rfl:=Option.some.inj h
  exact ⟨[],_,fm⟩
 refine gok hn ?_
 refine A0 _ _ ?_
 refine gos hn ?_
 refine COk.seqQ fun _ A3 _ R3=>?_
 refine gos hn ?_
 refine COk.blkQ fun _ A4 _ _ R4=>?_
 refine gos hn ?_
 refine goc hn ?_
 refine bselM h (fun hb6 h=>?_) (fun hb6 h=>?_)
 ·refine gos hn ?_
  refine Or.inr ?_
  obtain ⟨r7,hr8,h⟩:=bindM h
  show CallOk Try.prog _ _ _ _
  refine cA (value_Prim_1_ok N (wr (a1.n+a2.n)) r7 hr8) ?_
  refine got hn ?_
  refine R4 _ _ ?_
  refine R3 _ _ ?_
  obtain rfl:=Option.some.inj h
  exact ⟨[],_,fm⟩
 refine gos hn ?_
 refine goc hn ?_
 refine bselM h (fun hb9 h=>?_) (fun hb9 h=>?_)
 ·refine gos hn ?_
  refine Or.inr ?_
  obtain ⟨r10,hr11,h⟩:=bindM h
  show CallOk Try.prog _ _ _ _
  refine cA (value_Prim_1_ok N (wr (a1.n - a2.n)) r10 hr11) ?_
  refine got hn ?_
  refine R4 _ _ ?_
  refine R3 _ _ ?_
  obtain rfl:=Option.some.inj h
  exact ⟨[],_,fm⟩
 refine gos hn ?_
 refine goc hn ?_
 refine bselM h (fun hb12 h=>?_) (fun hb12 h=>?_)
 ·refine gos hn ?_
  refine Or.inr ?_
  obtain ⟨r13,hr14,h⟩:=bindM h
  show CallOk Try.prog _ _ _ _
  refine cA (value_Prim_1_ok N (wr (a1.n*a2.n)) r13 hr14) ?_
  refine got hn ?_
  refine R4 _ _ ?_
  refine R3 _ _ ?_
  obtain rfl:=Option.some.inj h
  exact ⟨[],_,fm⟩
 refine gos hn ?_
 refine goc hn ?_
 refine bselM h (fun hb15 h=>?_) (fun hb15 h=>?_)
 ·refine gos hn ?_
  obtain ⟨r16,hr17,h⟩:=bindM h
  show CallOk Try.prog _ _ _ _
  refine cA (value_Bool_ok N (decide (a1.n < a2.n)) r16 hr17) ?_
  refine got hn ?_
  refine R4 _ _ ?_
  refine R3 _ _ ?_
  obtain rfl:=Option.some.inj h
  exact ⟨[],_,fm⟩
 refine gos hn ?_
 refine goc hn ?_
 refine bselM h (fun hb18 h=>?_) (fun hb18 h=>?_)
 ·refine kp [(4,_),(5,_),(6,_)] [(4,_),(5,_),(6,_)] ?_
  refine gos hn ?_
  obtain ⟨r19,hr20,h⟩:=bindM h
  show CallOk Try.prog _ _ _ _
  refine cA (value_Bool_ok N (decide (a1.n=a2.n)) r19 hr20) ?_
  refine got hn ?_
  refine R4 _ _ ?_
  refine R3 _ _ ?_
  obtain rfl:=Option.some.inj h
  exact ⟨[],_,fm⟩
 refine gok hn ?_
 refine A4 _ _ ?_
 refine A3 _ _ ?_
 refine kp [(6,_)] [(6,_)] ?_
 refine gos hn ?_
 refine got hn ?_
 obtain rfl:=Option.some.inj h
 exact ⟨[],_,fm⟩

/- (*run.machine).give -/
set_option maxRecDepth 100000 in
set_option maxHeartbeats 8000000 in
theorem run_machine_give_c1_0_ok (N:Nat) (a0:TMachine) (gl:St→Int→ByteArray→Option (Int×Int)) (gq:Int→Int→Option (Fs×Bool)) (a1:V) {Kl:Nat} {cl_0:List AV} (hgl:∀x0_ x1_ x2_ y_,gl x0_ x1_ x2_=some y_→Spec Try.prog Kl [] [.agg (eSt x0_),.int x1_,.str x2_,.fp cl_0] (.tup [.int y_.1,.int y_.2]) [] []) {Kq:Nat} (hgq:∀x0_ x1_ y_,gq x0_ x1_=some y_→Spec Try.prog Kq [] [.int x0_,.int x1_] (.tup [.agg (eFs y_.1),.bool y_.2]) [] []) (r:TMachine) (h:run_machine_give N a0 gl gq a1=some r):Spec Try.prog 91 [(1000,.box [.ptr 1001 0,.fn Kl [.fp cl_0],.fn Kq [],.int a0.fuel,.int a0.sends,.int a0.turns,.own 1003,.int a0.back.k,.int a0.back.n,.int a0.err] 123),(1003,.deep 10 160 [(7,(2,27)),(8,(2,27))] (List.map eTFrame a0.frames) [] 1005)] [.ptr 1000 0,.agg (eV a1)] (.tup []) [(1000,.box [.ptr 1001 0,.fn Kl [.fp cl_0],.fn Kq [],.int r.fuel,.int r.sends,.int r.turns,.own 1003,.int r.back.k,.int r.back.n,.int r.err] 123),(1003,.deep 10 160 [(7,(2,27)),(8,(2,27))] (List.map eTFrame r.frames) [] 5),(5,.gone)] [5]:=by
 refine Spec.of tabOk Try.func91 rfl Try.ntmps91 (by kernel_rfl) rfl rfl rfl fun Γ hn=>?_
 unfold run_machine_give at h
 refine COk.snoc ?_
 refine gos hn ?_
 refine COk.seqQ fun _ A0 _ R0=>?_
 refine gos hn ?_
 refine lenM (fun _=>?_)
 refine goc hn ?_
 refine bselM h (fun hb2 h=>?_) (fun hb2 h=>?_)
 ·refine gos hn ?_
  refine COk.gh (Gh.resh 1003 501 rfl rfl rfl rfl) (fun _=>?_)
  refine got hn ?_
  refine R0 _ _ ?_
  obtain rfl:=Option.some.inj h
  exact ⟨[(5,501)],_,fm⟩
 refine gok hn ?_
 refine A0 _ _ ?_
 refine COk.seqQ fun _ A1 _ _=>?_
 refine god hn (by kernel_rfl) ?_
 refine lenM (fun _=>?_)
 refine Or.inr ?_
 obtain ⟨x4,hx5,h⟩:=bindM h
 refine ixD hx5 rfl rfl ?_
 refine A1 _ _ ?_
 refine COk.gh (Gh.detach 1003 502 503 ((wr ((a0.frames.length:Int) - (1:Int))).toNat) 8 rfl rfl (atD (nthO_some hx5).2) rfl rfl rfl rfl rfl rfl rfl rfl) (fun _=>?_)
 refine kp [(0,_),(3,_),(4,_)] [(3,_),(502,_),(503,_),(1000,_),(1003,_)] ?_
 refine god hn (by kernel_rfl) ?_
 refine holeD (nthO_some hx5).2 rfl rfl (by decide) rfl ?_
 refine Exists.intro (List.map eV [a1]) (And.intro (by repeat (first|exact trivial|exact rfl|(refine And.intro ?_ ?_))) ?_)
 obtain ⟨hg6,h⟩:=guardM h
 refine appM (l2:=[a1]) hg6 (leLs_refl _) ?_
 refine holeSD (nthO_some hx5).2 rfl rfl (by decide) ?_
 refine EOk.gh (Gh.attach (l':=List.map eTFrame (a0.frames.set ((wr ((a0.frames.length:Int) - (1:Int))).toNat) (⟨x4.class_,x4.method,x4.fast,x4.code,x4.self_,x4.args,x4.temps,(x4.stack++[a1]),x4.at_⟩:TFrame))) 1003 33 504 ((wr ((a0.frames.length:Int) - (1:Int))).toNat) 8 rfl rfl rfl (atD (nthO_some hx5).2) rfl rfl (setD rfl) rfl rfl rfl rfl rfl rfl) (fun _=>?_)
 refine EOk.done ?_
 obtain rfl:=Option.some.inj h
 exact ⟨[(5,504)],_,fm⟩
end Go.Proofs.Ytkecefjmcimemaa
