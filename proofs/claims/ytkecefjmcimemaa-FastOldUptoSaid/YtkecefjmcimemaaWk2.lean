/- Walks after the mirrors. Printed by mir.py. -/
import Derived.Test.YtkecefjmcimemaaWk1
namespace Go.Proofs.Ytkecefjmcimemaa
open Go.RowKit
set_option linter.unusedVariables false
/- (*run.frame).pop -/
set_option maxRecDepth 100000 in
set_option maxHeartbeats 8000000 in
theorem run_frame_pop_T_ok (N:Nat) (fr:(List TFrame)) (a0:Nat) (r:(V×(List TFrame))) (h:run_frame_pop_T N fr a0=some r):Spec Try.prog 95 [(1003,.deep 10 160 [(7,(2,27)),(8,(2,27))] (List.map eTFrame fr) [(a0,7,1006)] 1005)] [.ep 1003 a0 10 0] (.agg (eV r.1)) [(1003,.deep 10 160 [(7,(2,27)),(8,(2,27))] (List.map eTFrame r.2) [(a0,7,1006)] 5),(5,.gone)] [5]:=by
 refine Spec.of tabOk Try.func95 rfl Try.ntmps95 (by kernel_rfl) rfl rfl rfl fun Γ hn=>?_
 unfold run_frame_pop_T at h
 refine gos hn ?_
 refine COk.seqQ fun _ A0 _ _=>?_
 obtain ⟨x1,hx2,h⟩:=bindM h
 refine COk.gh (Gh.detach 1003 501 502 a0 8 rfl rfl (atD hx2) rfl rfl rfl rfl rfl rfl rfl rfl) (fun _=>?_)
 refine kp [(0,_),(2,_)] [(2,_),(501,_),(502,_),(1003,_)] ?_
 refine god hn (by kernel_rfl) ?_
 refine holeD hx2 rfl rfl (by decide) rfl ?_
 refine holeD hx2 rfl rfl (by decide) rfl ?_
 refine lenM (fun _=>?_)
 refine Or.inr ?_
 obtain ⟨x4,hx5,h⟩:=bindM h
 refine ownM hx5 ?_
 refine ldM (nthO_some hx5).2 ?_
 refine A0 _ _ ?_
 refine COk.seqQ fun _ A1 _ _=>?_
 refine god hn (by kernel_rfl) ?_
 refine holeD hx2 rfl rfl (by decide) rfl ?_
 refine holeD hx2 rfl rfl (by decide) rfl ?_
 refine lenM (fun _=>?_)
 refine Or.inr ?_
 obtain ⟨hg7,h⟩:=guardM h
 refine takeM hg7 rfl rfl ?_
 refine holeSD hx2 rfl rfl (by decide) ?_
 refine A1 _ _ ?_
 refine COk.gh (Gh.attach (l':=List.map eTFrame (fr.set a0 (⟨x1.class_,x1.method,x1.fast,x1.code,x1.self_,x1.args,x1.temps,(x1.stack.take (wr ((x1.stack.length:Int) - (1:Int))).toNat),x1.at_⟩:TFrame))) 1003 27 503 a0 8 rfl rfl rfl (atD hx2) rfl rfl (setD rfl) rfl rfl rfl rfl rfl rfl) (fun _=>?_)
 refine kp [(0,_),(2,_),(3,_)] [(2,_),(3,_),(503,_),(1003,_)] ?_
 refine gos hn ?_
 refine got hn ?_
 obtain rfl:=Option.some.inj h
 exact ⟨[(5,503)],_,fm⟩

/- class.Slots -/
set_option maxRecDepth 100000 in
set_option maxHeartbeats 8000000 in
theorem class_Slots_ok (N:Nat) (a0:Wd) (a1:Int) (r:Int) (h:class_Slots N a0 a1=some r):Spec Try.prog 121 [] [.agg (eWd a0),.int a1] (.int r) [] []:=by
 refine Spec.of tabOk Try.func121 rfl Try.ntmps121 (by kernel_rfl) rfl rfl rfl fun Γ hn=>?_
 unfold class_Slots at h
 refine gos hn ?_
 refine gos hn ?_
 refine COk.seqQ fun _ A0 _ _=>?_
 refine gos hn ?_
 obtain ⟨o9,h10,h⟩:=bindM h
 refine jk (ι:={ s // o9=s }) hn (fun s=>[(5,.int s.1)]) (fun s=>[]) [] [] (fun _ A1 _ _=>?_) ?_
 ·refine COk.blkQ fun _ _ E2 _ _=>?_
  refine lq (ι:={ q:(Nat×Int×Int×Int) // class_Slots_l1 N a0 q.1 q.2.1 q.2.2.1 q.2.2.2=some o9 }) hn (fun q=>[(1,.int q.1.2.1),(5,.int q.1.2.2.1),(6,.int q.1.2.2.2)]) (fun q=>[]) (fun q=>q.1.1) [(2,_)] [(2,_)] ⟨(N,a1,(0:Int),(0:Int)),h10⟩ [] ?_
  rintro ⟨⟨n_,v2,v3,v4⟩,h10⟩ _ A3 X3 _
  rcases n_ with _|n13
  ·rw [class_Slots_l1.eq_1] at h10
   cases h10
  ·replace h10:=(class_Slots_l1.eq_2 _ _ _ _ _ _).symm.trans h10
   refine COk.seqQ fun _ A4 X4 _=>?_
   refine COk.seqQ fun _ A5 _ _=>?_
   obtain ⟨o16,h15,h10⟩:=bindM h10
   refine jk (ι:={ s // o16=s }) hn (fun s=>[(22,.bool s.1)]) (fun s=>[]) [(1,_),(2,_),(5,_),(6,_)] [(2,_)] (fun _ A6 _ _=>?_) ?_
   ·refine gor hn ?_
    refine bselM h15 (fun hb17 h15=>?_) (fun hb17 h15=>?_)
    ·refine bselT hb17 ?_
     refine bselT hb17 ?_
     refine bselT hb17 ?_
     refine lenM (fun _=>?_)
     refine bselT hb17 ?_
     refine bselT hb17 ?_
     refine bselM h15 (fun hb19 h15=>?_) (fun hb19 h15=>?_)
     ·refine bselT hb19 ?_
      refine bselT hb19 ?_
      refine bselT hb19 ?_
      refine lenM (fun _=>?_)
      refine bselT hb19 ?_
      refine bselT hb19 ?_
      refine A6 _ _ ?_
      exact jn ⟨_,sj h15⟩ []
     refine bselF hb19 ?_
     refine bselF hb19 ?_
     refine bselF hb19 ?_
     refine bselF hb19 ?_
     refine bselF hb19 ?_
     refine A6 _ _ ?_
     exact jn ⟨_,sj h15⟩ []
    refine bselF hb17 ?_
    refine bselF hb17 ?_
    refine bselF hb17 ?_
    refine bselF hb17 ?_
    refine bselF hb17 ?_
    refine A6 _ _ ?_
    exact jn ⟨_,sj h15⟩ []
   rintro ⟨v14,hv_⟩
   replace hv_:=hv_.symm
   subst hv_
   refine A5 _ _ ?_
   refine goc hn ?_
   refine bselM h10 (fun hb21 h10=>?_) (fun hb21 h10=>?_)
   ·refine gok hn ?_
    refine A4 _ _ ?_
    refine COk.seqQ fun _ A7 _ _=>?_
    refine COk.blkQ fun _ A8 _ _ _=>?_
    refine gos hn ?_
    obtain ⟨x22,hx23,h10⟩:=bindM h10
    refine idxM hx23 ?_
    refine Or.inr ?_
    refine gor hn ?_
    obtain ⟨x24,hx25,h10⟩:=bindM h10
    refine idxM hx25 ?_
    refine A8 _ _ ?_
    refine A7 _ _ ?_
    refine kp [(1,_),(2,_),(5,_),(6,_)] [(2,_)] ?_
    refine gor hn ?_
    refine Or.inr ?_
    refine A3 _ _ ?_
    exact jn ⟨(n13,x24.super,(wr (v3+x22.slots)),(wr (v4+(1:Int)))),h10⟩ [] (by show n13 < n13+1; omega)
   refine goe hn ?_
   refine X4 _ _ _ ?_
   refine X3 _ _ _ ?_
   refine E2 _ _ ?_
   refine A1 _ _ ?_
   exact jn ⟨_,sj h10⟩ []
 rintro ⟨v8,hv_⟩
 replace hv_:=hv_.symm
 subst hv_
 refine A0 _ _ ?_
 refine gos hn ?_
 refine got hn ?_
 obtain rfl:=Option.some.inj h
 exact ⟨[],_,fm⟩

/- value.New -/
set_option maxRecDepth 100000 in
set_option maxHeartbeats 8000000 in
theorem value_New_ok (N:Nat) (a0:(List Ob)) (a1:Int) (a2:Int) (r:((List Ob)×V×Int)) (h:value_New N a0 a1 a2=some r):Spec Try.prog 120 [] [.sl 2 (List.map eOb a0),.int a1,.int a2] (.tup [.own 0,.agg (eV r.2.1),.int r.2.2]) [(0,.deep 2 97 [(1,(2,27))] (List.map eOb r.1) [] 1),(1,.gone)] [0,1]:=by
 refine Spec.of tabOk Try.func120 rfl Try.ntmps120 (by kernel_rfl) rfl rfl rfl fun Γ hn=>?_
 unfold value_New at h
 refine gos hn ?_
 refine COk.seqQ fun _ A0 _ R0=>?_
 refine gos hn ?_
 refine lenM (fun _=>?_)
 refine goc hn ?_
 refine bselM h (fun hb2 h=>?_) (fun hb2 h=>?_)
 ·refine gos hn ?_
  refine COk.nilrow 6 206 2 97 rfl rfl rfl ?_
  refine COk.gh (Gh.toDeep 206 501 [(1,(2,27))] rfl rfl rfl rfl) (fun _=>?_)
  refine got hn ?_
  refine R0 _ _ ?_
  obtain rfl:=Option.some.inj h
  exact ⟨[(0,206),(1,501)],_,fm⟩
 refine gok hn ?_
 refine A0 _ _ ?_
 refine COk.seqQ fun _ A1 _ _=>?_
 refine god hn (by kernel_rfl) ?_
 obtain ⟨r3,hr4,h⟩:=bindM h
 show CallOk Try.prog _ _ _ _
 refine cA (((value_Own_ok N a0 r3 hr4).sw 0 14).sw 1 714) ?_
 obtain ⟨hg5,h⟩:=guardM h
 refine mkM (enc:=eV) (x:=(⟨(0:Int),(0:Int)⟩:V)) hg5 (by repeat (first|exact trivial|exact rfl|(refine And.intro ?_ ?_))) ?_
 refine Or.inl ?_
 refine Exists.intro [(1,(2,27))] (Exists.intro (eOb (⟨a1,(List.replicate (max a2 (0:Int)).toNat (⟨(0:Int),(0:Int)⟩:V))⟩:Ob)) (Exists.intro [(18,.row 2 (List.map eV (List.replicate (max a2 (0:Int)).toNat (⟨(0:Int),(0:Int)⟩:V))) 27)] (And.intro rfl (And.intro rfl (And.intro rfl (And.intro (by decide) (And.intro (by decide) (And.intro rfl (And.intro rfl ?_)))))))))
 obtain ⟨hg6,h⟩:=guardM h
 refine appD (l2:=[(⟨a1,(List.replicate (max a2 (0:Int)).toNat (⟨(0:Int),(0:Int)⟩:V))⟩:Ob)]) hg6 rfl rfl rfl rfl rfl (by decide) (by decide) ?_
 refine lenM (fun _=>?_)
 refine A1 _ _ ?_
 refine got hn ?_
 obtain rfl:=Option.some.inj h
 exact ⟨[(0,21),(1,721)],_,fm⟩

/- qcref5.WrongCall -/
set_option maxRecDepth 100000 in
set_option maxHeartbeats 8000000 in
theorem qcref5_WrongCall_ok (N:Nat) (a0:Wd) (a1:TCall) (a2:Int) (r:Int) (h:qcref5_WrongCall N a0 a1 a2=some r):Spec Try.prog 17 [] [.agg (eWd a0),.agg (eTCall a1),.int a2] (.int r) [] []:=by
 refine Spec.of tabOk Try.func17 rfl Try.ntmps17 (by kernel_rfl) rfl rfl rfl fun Γ hn=>?_
 unfold qcref5_WrongCall at h
 refine gos hn ?_
 refine COk.seqQ fun _ A0 _ R0=>?_
 refine gos hn ?_
 obtain ⟨r1,hr2,h⟩:=bindM h
 show CallOk Try.prog _ _ _ _
 refine cA (qcref1_Name_ok N a1.name r1 hr2) ?_
 refine goc hn ?_
 refine bselM h (fun hb3 h=>?_) (fun hb3 h=>?_)
 ·refine gos hn ?_
  refine got hn ?_
  refine R0 _ _ ?_
  obtain rfl:=Option.some.inj h
  exact ⟨[],_,fm⟩
 refine gok hn ?_
 refine A0 _ _ ?_
 refine COk.seqQ fun _ A1 _ R1=>?_
 refine gos hn ?_
 refine lenM (fun _=>?_)
 refine goc hn ?_
 refine bselM h (fun hb5 h=>?_) (fun hb5 h=>?_)
 ·refine gos hn ?_
  refine got hn ?_
  refine R1 _ _ ?_
  obtain rfl:=Option.some.inj h
  exact ⟨[],_,fm⟩
 refine gok hn ?_
 refine A1 _ _ ?_
 refine COk.seqQ fun _ A2 _ R2=>?_
 refine COk.seqQ fun _ A3 _ _=>?_
 obtain ⟨o8,h7,h⟩:=bindM h
 refine jk (ι:={ s // o8=s }) hn (fun s=>[(24,.bool s.1)]) (fun s=>[]) [(3,_),(4,_)] [(3,_),(4,_)] (fun _ A4 _ _=>?_) ?_
 ·refine gor hn ?_
  refine bselM h7 (fun hb9 h7=>?_) (fun hb9 h7=>?_)
  ·refine bselT hb9 ?_
   refine bselT hb9 ?_
   refine A4 _ _ ?_
   exact jn ⟨_,sj h7⟩ []
  refine bselF hb9 ?_
  refine bselF hb9 ?_
  refine A4 _ _ ?_
  exact jn ⟨_,sj h7⟩ []
 rintro ⟨v6,hv_⟩
 replace hv_:=hv_.symm
 subst hv_
 refine A3 _ _ ?_
 refine goc hn ?_
 refine bselM h (fun hb10 h=>?_) (fun hb10 h=>?_)
 ·refine gos hn ?_
  refine got hn ?_
  refine R2 _ _ ?_
  obtain rfl:=Option.some.inj h
  exact ⟨[],_,fm⟩
 refine gok hn ?_
 refine A2 _ _ ?_
 refine COk.seqQ fun _ A5 _ R5=>?_
 refine gos hn ?_
 refine lenM (fun _=>?_)
 obtain ⟨r12,hr13,h⟩:=bindM h
 show CallOk Try.prog _ _ _ _
 refine cA (qcref1_Wrong_ok N a1.self_ (a0.heap.length:Int) r12 hr13) ?_
 refine gos hn ?_
 refine goc hn ?_
 refine bselM h (fun hb14 h=>?_) (fun hb14 h=>?_)
 ·refine gos hn ?_
  refine got hn ?_
  refine R5 _ _ ?_
  obtain rfl:=Option.some.inj h
  exact ⟨[],_,fm⟩
 refine gok hn ?_
 refine A5 _ _ ?_
 refine COk.seqQ fun _ A6 _ R6=>?_
 refine gos hn ?_
 refine lenM (fun hl15=>?_)
 obtain ⟨o17,h18,h⟩:=bindM h
 refine jk (ι:={ s // o17=Ctl.next s }) hn (fun s=>[]) (fun s=>[]) [] [] (fun _ A7 _ R7=>?_) ?_
 ·refine COk.blkQ fun _ _ E8 _ R8=>?_
  refine lq (ι:={ q:((List V)×Nat) // q.1=a1.args.drop q.2∧qcref5_WrongCall_l1 N a0 q.1 q.2=some o17 }) hn (fun q=>[(37,.int (q.1.2:Int))]) (fun q=>[]) (fun q=>q.1.1.length) [(3,_),(35,_),(36,_)] [(3,_)] ⟨(a1.args,0),rfl,h18⟩ [] ?_
  rintro ⟨⟨rest_,k16⟩,hd20,h18⟩ _ A9 X9 R9
  replace hd20:rest_=a1.args.drop k16:=hd20
  rcases rest_ with _|⟨x22,rest19⟩
  ·have hlt24:=restNil hd20
   replace h18:=(qcref5_WrongCall_l1.eq_1 _ _ _).symm.trans h18
   refine gos hn ?_
   refine COk.seqQ fun _ _ X10 _=>?_
   refine goc hn ?_
   refine bselF hlt24 ?_
   refine goe hn ?_
   refine X10 _ _ _ ?_
   refine X9 _ _ _ ?_
   refine E8 _ _ ?_
   refine A7 _ _ ?_
   exact jn ⟨_,sj h18⟩ []
  ·obtain ⟨hx23,hd2,hlt24⟩:=restCons hd20
   replace h18:=(qcref5_WrongCall_l1.eq_2 _ _ _ _ _).symm.trans h18
   refine gos hn ?_
   refine COk.seqQ fun _ A11 _ _=>?_
   refine goc hn ?_
   refine bselT hlt24 ?_
   refine gok hn ?_
   refine A11 _ _ ?_
   refine COk.seqQ fun _ A12 _ R12=>?_
   refine COk.blkQ fun _ A13 _ _ R13=>?_
   refine gos hn ?_
   refine idxK hx23 ?_
   refine gos hn ?_
   refine lenM (fun _=>?_)
   obtain ⟨r26,hr27,h18⟩:=bindM h18
   show CallOk Try.prog _ _ _ _
   refine cA (qcref1_Wrong_ok N x22 (a0.heap.length:Int) r26 hr27) ?_
   refine gos hn ?_
   refine goc hn ?_
   refine bselM h18 (fun hb28 h18=>?_) (fun hb28 h18=>?_)
   ·refine gos hn ?_
    refine got hn ?_
    refine R13 _ _ ?_
    refine R12 _ _ ?_
    refine R9 _ _ ?_
    refine R8 _ _ ?_
    refine R7 _ _ ?_
    refine R6 _ _ ?_
    obtain rfl:=Option.some.inj h18
    obtain rfl:=Option.some.inj h
    exact ⟨[],_,fm⟩
   refine gok hn ?_
   refine A13 _ _ ?_
   refine A12 _ _ ?_
   refine gor hn ?_
   refine Or.inl (And.intro (inrK hx23 hl15) ?_)
   refine A9 _ _ ?_
   exact jn ⟨(rest19,k16+1),hd2,h18⟩ [] (by show rest19.length < rest19.length+1; omega)
 rintro ⟨⟨⟩,rfl⟩
 refine A6 _ _ ?_
 refine gos hn ?_
 refine got hn ?_
 obtain rfl:=Option.some.inj h
 exact ⟨[],_,fm⟩

/- qcref1.Class -/
set_option maxRecDepth 100000 in
set_option maxHeartbeats 8000000 in
theorem qcref1_Class_ok (N:Nat) (a0:(List Ob)) (a1:V) (r:Int) (h:qcref1_Class N a0 a1=some r):Spec Try.prog 45 [] [.sl 2 (List.map eOb a0),.agg (eV a1)] (.int r) [] []:=by
 refine Spec.of tabOk Try.func45 rfl Try.ntmps45 (by kernel_rfl) rfl rfl rfl fun Γ hn=>?_
 unfold qcref1_Class at h
 refine gos hn ?_
 refine COk.seqQ fun _ A0 _ R0=>?_
 refine COk.seqQ fun _ A1 _ _=>?_
 obtain ⟨o3,h2,h⟩:=bindM h
 refine jk (ι:={ s // o3=s }) hn (fun s=>[(19,.bool s.1)]) (fun s=>[]) [(0,_),(3,_)] [(3,_)] (fun _ A2 _ _=>?_) ?_
 ·refine gor hn ?_
  refine bselM h2 (fun hb4 h2=>?_) (fun hb4 h2=>?_)
  ·refine bselT hb4 ?_
   refine bselT hb4 ?_
   refine bselT hb4 ?_
   refine bselM h2 (fun hb5 h2=>?_) (fun hb5 h2=>?_)
   ·refine bselT hb5 ?_
    refine bselT hb5 ?_
    refine bselT hb5 ?_
    refine lenM (fun _=>?_)
    refine bselT hb5 ?_
    refine bselT hb5 ?_
    refine A2 _ _ ?_
    exact jn ⟨_,sj h2⟩ []
   refine bselF hb5 ?_
   refine bselF hb5 ?_
   refine bselF hb5 ?_
   refine bselF hb5 ?_
   refine bselF hb5 ?_
   refine A2 _ _ ?_
   exact jn ⟨_,sj h2⟩ []
  refine bselF hb4 ?_
  refine bselF hb4 ?_
  refine bselF hb4 ?_
  refine A2 _ _ ?_
  exact jn ⟨_,sj h2⟩ []
 rintro ⟨v1,hv_⟩
 replace hv_:=hv_.symm
 subst hv_
 refine A1 _ _ ?_
 refine goc hn ?_
 refine bselM h (fun hb7 h=>?_) (fun hb7 h=>?_)
 ·refine gos hn ?_
  obtain ⟨x8,hx9,h⟩:=bindM h
  refine idxM hx9 ?_
  refine got hn ?_
  refine R0 _ _ ?_
  obtain rfl:=Option.some.inj h
  exact ⟨[],_,fm⟩
 refine gok hn ?_
 refine A0 _ _ ?_
 refine COk.seqQ fun _ A3 _ R3=>?_
 refine COk.seqQ fun _ A4 _ _=>?_
 obtain ⟨o12,h11,h⟩:=bindM h
 refine jk (ι:={ s // o12=s }) hn (fun s=>[(33,.bool s.1)]) (fun s=>[]) [(3,_)] [(3,_)] (fun _ A5 _ _=>?_) ?_
 ·refine gor hn ?_
  refine bselM h11 (fun hb13 h11=>?_) (fun hb13 h11=>?_)
  ·refine bselT hb13 ?_
   refine bselT hb13 ?_
   refine bselT hb13 ?_
   refine A5 _ _ ?_
   exact jn ⟨_,sj h11⟩ []
  refine bselF hb13 ?_
  refine bselF hb13 ?_
  refine bselF hb13 ?_
  refine A5 _ _ ?_
  exact jn ⟨_,sj h11⟩ []
 rintro ⟨v10,hv_⟩
 replace hv_:=hv_.symm
 subst hv_
 refine A4 _ _ ?_
 refine goc hn ?_
 refine bselM h (fun hb14 h=>?_) (fun hb14 h=>?_)
 ·refine gos hn ?_
  refine got hn ?_
  refine R3 _ _ ?_
  obtain rfl:=Option.some.inj h
  exact ⟨[],_,fm⟩
 refine gok hn ?_
 refine A3 _ _ ?_
 refine gos hn ?_
 refine Exists.intro (List.map eInt [(1:Int),(2:Int),(2:Int),(3:Int)]) (And.intro (by repeat (first|exact trivial|exact rfl|(refine And.intro ?_ ?_))) ?_)
 obtain ⟨x15,hx16,h⟩:=bindM h
 refine ownM hx16 ?_
 refine ldM (nthO_some hx16).2 ?_
 refine got hn ?_
 obtain rfl:=Option.some.inj h
 exact ⟨[],_,fm⟩

/- qcref1.Find -/
set_option maxRecDepth 100000 in
set_option maxHeartbeats 8000000 in
theorem qcref1_Find_ok (N:Nat) (a0:Wd) (a1:Int) (a2:ByteArray) (r:(Int×Int)) (h:qcref1_Find N a0 a1 a2=some r):Spec Try.prog 22 [] [.agg (eWd a0),.int a1,.str a2] (.tup [.int r.1,.int r.2]) [] []:=by
 refine Spec.of tabOk Try.func22 rfl Try.ntmps22 (by kernel_rfl) rfl rfl rfl fun Γ hn=>?_
 unfold qcref1_Find at h
 refine gos hn ?_
 refine COk.seqQ fun _ A0 _ R0=>?_
 refine gos hn ?_
 obtain ⟨r1,hr2,h⟩:=bindM h
 show CallOk Try.prog _ _ _ _
 refine cA ((qcref1_Ups_ok N a0 a1 r1 hr2).sw 0 14) ?_
 refine lenM (fun hl3=>?_)
 obtain ⟨o5,h6,h⟩:=bindM h
 refine jk (ι:={ s // o5=Ctl.next s }) hn (fun s=>[]) (fun s=>[]) [] [] (fun _ A1 _ R1=>?_) ?_
 ·refine COk.blkQ fun _ _ E2 _ R2=>?_
  refine lq (ι:={ q:((List Int)×Nat) // q.1=r1.drop q.2∧qcref1_Find_l1 N a0 a2 r1 q.1 q.2=some o5 }) hn (fun q=>[(16,.int (q.1.2:Int))]) (fun q=>[]) (fun q=>q.1.1.length) [(2,_),(3,_),(14,_),(15,_)] [(3,_),(14,_)] ⟨(r1,0),rfl,h6⟩ [] ?_
  rintro ⟨⟨rest_,k4⟩,hd8,h6⟩ _ A3 X3 R3
  replace hd8:rest_=r1.drop k4:=hd8
  rcases rest_ with _|⟨x10,rest7⟩
  ·have hlt12:=restNil hd8
   replace h6:=(qcref1_Find_l1.eq_1 _ _ _ _ _).symm.trans h6
   refine gos hn ?_
   refine COk.seqQ fun _ _ X4 _=>?_
   refine goc hn ?_
   refine bselF hlt12 ?_
   refine goe hn ?_
   refine X4 _ _ _ ?_
   refine X3 _ _ _ ?_
   refine E2 _ _ ?_
   refine A1 _ _ ?_
   exact jn ⟨_,sj h6⟩ []
  ·obtain ⟨hx11,hd2,hlt12⟩:=restCons hd8
   replace h6:=(qcref1_Find_l1.eq_2 _ _ _ _ _ _ _).symm.trans h6
   refine gos hn ?_
   refine COk.seqQ fun _ A5 _ _=>?_
   refine goc hn ?_
   refine bselT hlt12 ?_
   refine gok hn ?_
   refine A5 _ _ ?_
   refine COk.seqQ fun _ A6 _ R6=>?_
   refine COk.blkQ fun _ A7 _ _ R7=>?_
   refine gos hn ?_
   obtain ⟨x13,hx14,h6⟩:=bindM h6
   refine ownM hx14 ?_
   refine ldM (nthO_some hx14).2 ?_
   refine gos hn ?_
   obtain ⟨x15,hx16,h6⟩:=bindM h6
   refine idxM hx16 ?_
   refine lenM (fun hl17=>?_)
   obtain ⟨o19,h20,h6⟩:=bindM h6
   refine jk (ι:={ s // o19=Ctl.next s }) hn (fun s=>[]) (fun s=>[]) [(2,_),(3,_),(14,_),(15,_),(16,_)] [(3,_),(14,_)] (fun _ A8 _ R8=>?_) ?_
   ·refine COk.blkQ fun _ _ E9 _ R9=>?_
    refine lq (ι:={ q:((List Me)×Nat) // q.1=x15.methods.drop q.2∧qcref1_Find_l2 N a2 x13 q.1 q.2=some o19 }) hn (fun q=>[(27,.int (q.1.2:Int))]) (fun q=>[]) (fun q=>q.1.1.length) [(2,_),(3,_),(9,_),(14,_),(15,_),(16,_),(25,_),(26,_)] [(3,_),(14,_)] ⟨(x15.methods,0),rfl,h20⟩ [] ?_
    rintro ⟨⟨rest_,k18⟩,hd22,h20⟩ _ A10 X10 R10
    replace hd22:rest_=x15.methods.drop k18:=hd22
    rcases rest_ with _|⟨x24,rest21⟩
    ·have hlt26:=restNil hd22
     replace h20:=(qcref1_Find_l2.eq_1 _ _ _ _).symm.trans h20
     refine gos hn ?_
     refine COk.seqQ fun _ _ X11 _=>?_
     refine goc hn ?_
     refine bselF hlt26 ?_
     refine goe hn ?_
     refine X11 _ _ _ ?_
     refine X10 _ _ _ ?_
     refine E9 _ _ ?_
     refine A8 _ _ ?_
     exact jn ⟨_,sj h20⟩ []
    ·obtain ⟨hx25,hd2,hlt26⟩:=restCons hd22
     replace h20:=(qcref1_Find_l2.eq_2 _ _ _ _ _ _).symm.trans h20
     refine gos hn ?_
     refine COk.seqQ fun _ A12 _ _=>?_
     refine goc hn ?_
     refine bselT hlt26 ?_
     refine gok hn ?_
     refine A12 _ _ ?_
     refine COk.seqQ fun _ A13 _ R13=>?_
     refine COk.blkQ fun _ A14 _ _ R14=>?_
     refine gos hn ?_
     refine idxK hx25 ?_
     refine gos hn ?_
     refine goc hn ?_
     refine bselM h20 (fun hb27 h20=>?_) (fun hb27 h20=>?_)
     ·refine kp [(9,_),(10,_)] [] ?_
      refine gos hn ?_
      refine got hn ?_
      refine R14 _ _ ?_
      refine R13 _ _ ?_
      refine R10 _ _ ?_
      refine R9 _ _ ?_
      refine R8 _ _ ?_
      refine R7 _ _ ?_
      refine R6 _ _ ?_
      refine R3 _ _ ?_
      refine R2 _ _ ?_
      refine R1 _ _ ?_
      refine R0 _ _ ?_
      obtain rfl:=Option.some.inj h20
      obtain rfl:=Option.some.inj h6
      obtain rfl:=Option.some.inj h
      exact ⟨[],_,fm⟩
     refine gok hn ?_
     refine A14 _ _ ?_
     refine A13 _ _ ?_
     refine kp [(2,_),(3,_),(9,_),(14,_),(15,_),(16,_),(25,_),(26,_),(27,_)] [(3,_),(14,_)] ?_
     refine gor hn ?_
     refine Or.inl (And.intro (inrK hx25 hl17) ?_)
     refine A10 _ _ ?_
     exact jn ⟨(rest21,k18+1),hd2,h20⟩ [] (by show rest21.length < rest21.length+1; omega)
   rintro ⟨⟨⟩,rfl⟩
   refine A7 _ _ ?_
   refine A6 _ _ ?_
   refine gor hn ?_
   refine Or.inl (And.intro (inrK hx11 hl3) ?_)
   refine A3 _ _ ?_
   exact jn ⟨(rest7,k4+1),hd2,h6⟩ [] (by show rest7.length < rest7.length+1; omega)
 rintro ⟨⟨⟩,rfl⟩
 refine A0 _ _ ?_
 refine gos hn ?_
 refine got hn ?_
 obtain rfl:=Option.some.inj h
 exact ⟨[],_,fm⟩

/- qcref1.Bool -/
set_option maxRecDepth 100000 in
set_option maxHeartbeats 8000000 in
theorem qcref1_Bool_ok (N:Nat) (a0:Bool) (r:V) (h:qcref1_Bool N a0=some r):Spec Try.prog 109 [] [.bool a0] (.agg (eV r)) [] []:=by
 refine Spec.of tabOk Try.func109 rfl Try.ntmps109 (by kernel_rfl) rfl rfl rfl fun Γ hn=>?_
 unfold qcref1_Bool at h
 refine gos hn ?_
 refine COk.seqQ fun _ A0 _ R0=>?_
 refine gos hn ?_
 refine goc hn ?_
 refine bselM h (fun hb1 h=>?_) (fun hb1 h=>?_)
 ·refine gos hn ?_
  refine got hn ?_
  refine R0 _ _ ?_
  obtain rfl:=Option.some.inj h
  exact ⟨[],_,fm⟩
 refine gok hn ?_
 refine A0 _ _ ?_
 refine gos hn ?_
 refine got hn ?_
 obtain rfl:=Option.some.inj h
 exact ⟨[],_,fm⟩

/- qcref1.Prim -/
set_option maxRecDepth 100000 in
set_option maxHeartbeats 8000000 in
theorem qcref1_Prim_ok (N:Nat) (a0:Int) (a1:V) (a2:V) (r:(V×Int)) (h:qcref1_Prim N a0 a1 a2=some r):Spec Try.prog 82 [] [.int a0,.agg (eV a1),.agg (eV a2)] (.tup [.agg (eV r.1),.int r.2]) [] []:=by
 refine Spec.of tabOk Try.func82 rfl Try.ntmps82 (by kernel_rfl) rfl rfl rfl fun Γ hn=>?_
 unfold qcref1_Prim at h
 refine gos hn ?_
 refine COk.seqQ fun _ A0 _ R0=>?_
 refine COk.seqQ fun _ A1 _ _=>?_
 obtain ⟨o3,h2,h⟩:=bindM h
 refine jk (ι:={ s // o3=s }) hn (fun s=>[(17,.bool s.1)]) (fun s=>[]) [(0,_),(4,_),(5,_),(6,_)] [(4,_),(5,_),(6,_)] (fun _ A2 _ _=>?_) ?_
 ·refine gor hn ?_
  refine bselM h2 (fun hb4 h2=>?_) (fun hb4 h2=>?_)
  ·refine bselT hb4 ?_
   refine bselT hb4 ?_
   refine bselT hb4 ?_
   refine A2 _ _ ?_
   exact jn ⟨_,sj h2⟩ []
  refine bselF hb4 ?_
  refine bselF hb4 ?_
  refine bselF hb4 ?_
  refine A2 _ _ ?_
  exact jn ⟨_,sj h2⟩ []
 rintro ⟨v1,hv_⟩
 replace hv_:=hv_.symm
 subst hv_
 refine A1 _ _ ?_
 refine goc hn ?_
 refine bselM h (fun hb5 h=>?_) (fun hb5 h=>?_)
 ·refine gos hn ?_
  refine got hn ?_
  refine R0 _ _ ?_
  obtain rfl:=Option.some.inj h
  exact ⟨[],_,fm⟩
 refine gok hn ?_
 refine A0 _ _ ?_
 refine gos hn ?_
 refine COk.seqQ fun _ A3 _ R3=>?_
 refine gos hn ?_
 obtain ⟨o8,h7,h⟩:=bindM h
 refine jk (ι:={ s // o8=Ctl.next s }) hn (fun s=>[(8,.int s.1)]) (fun s=>[]) [(6,_)] [(6,_)] (fun _ A4 _ R4=>?_) ?_
 ·refine COk.blkQ fun _ A5 _ _ R5=>?_
  refine gos hn ?_
  obtain ⟨o11,h10,h7⟩:=bindM h7
  refine jk (ι:={ s // o11=Ctl.next s }) hn (fun s=>[(8,.int s.1)]) (fun s=>[]) [(6,_)] [(6,_)] (fun _ A6 _ R6=>?_) ?_
  ·refine goc hn ?_
   refine bselM h10 (fun hb12 h10=>?_) (fun hb12 h10=>?_)
   ·refine gor hn ?_
    refine Or.inr ?_
    refine A6 _ _ ?_
    exact jn ⟨_,sj h10⟩ []
   refine gos hn ?_
   obtain ⟨o15,h14,h10⟩:=bindM h10
   refine jk (ι:={ s // o15=Ctl.next s }) hn (fun s=>[(8,.int s.1)]) (fun s=>[]) [(6,_)] [(6,_)] (fun _ A7 _ R7=>?_) ?_
   ·refine goc hn ?_
    refine bselM h14 (fun hb16 h14=>?_) (fun hb16 h14=>?_)
    ·refine gor hn ?_
     refine Or.inr ?_
     refine A7 _ _ ?_
     exact jn ⟨_,sj h14⟩ []
    refine gos hn ?_
    refine goc hn ?_
    refine bselM h14 (fun hb17 h14=>?_) (fun hb17 h14=>?_)
    ·refine gor hn ?_
     refine Or.inr ?_
     refine A7 _ _ ?_
     exact jn ⟨_,sj h14⟩ []
    refine gos hn ?_
    refine goc hn ?_
    refine bselM h14 (fun hb18 h14=>?_) (fun hb18 h14=>?_)
    ·refine gos hn ?_
     obtain ⟨r19,hr20,h14⟩:=bindM h14
     show CallOk Try.prog _ _ _ _
     refine cA (qcref1_Bool_ok N (decide (a1.n < a2.n)) r19 hr20) ?_
     refine got hn ?_
     refine R7 _ _ ?_
     refine R6 _ _ ?_
     refine R5 _ _ ?_
     refine R4 _ _ ?_
     refine R3 _ _ ?_
     obtain rfl:=Option.some.inj h14
     obtain rfl:=Option.some.inj h10
     obtain rfl:=Option.some.inj h7
     obtain rfl:=Option.some.inj h
     exact ⟨[],_,fm⟩
    refine gos hn ?_
    refine goc hn ?_
    refine bselM h14 (fun hb21 h14=>?_) (fun hb21 h14=>?_)
    ·refine kp [(4,_),(5,_),(6,_)] [(4,_),(5,_),(6,_)] ?_
     refine gos hn ?_
     obtain ⟨r22,hr23,h14⟩:=bindM h14
     show CallOk Try.prog _ _ _ _
     refine cA (qcref1_Bool_ok N (decide (a1.n=a2.n)) r22 hr23) ?_
     refine got hn ?_
     refine R7 _ _ ?_
     refine R6 _ _ ?_
     refine R5 _ _ ?_
     refine R4 _ _ ?_
     refine R3 _ _ ?_
     obtain rfl:=Option.some.inj h14
     obtain rfl:=Option.some.inj h10
     obtain rfl:=Option.some.inj h7
     obtain rfl:=Option.some.inj h
     exact ⟨[],_,fm⟩
    refine kp [(6,_)] [(6,_)] ?_
    refine gos hn ?_
    refine got hn ?_
    refine R7 _ _ ?_
    refine R6 _ _ ?_
    refine R5 _ _ ?_
    refine R4 _ _ ?_
    refine R3 _ _ ?_
    obtain rfl:=Option.some.inj h14
    obtain rfl:=Option.some.inj h10
    obtain rfl:=Option.some.inj h7
    obtain rfl:=Option.some.inj h
    exact ⟨[],_,fm⟩
   rintro ⟨v13,rfl⟩
   refine A6 _ _ ?_
   exact jn ⟨_,sj h10⟩ []
  rintro ⟨v9,rfl⟩
  refine A5 _ _ ?_
  refine A4 _ _ ?_
  exact jn ⟨_,sj h7⟩ []
 rintro ⟨v6,rfl⟩
 refine A3 _ _ ?_
 refine gos hn ?_
 refine COk.seqQ fun _ A8 _ R8=>?_
 refine gos hn ?_
 refine goc hn ?_
 refine bselM h (fun hb24 h=>?_) (fun hb24 h=>?_)
 ·refine gos hn ?_
  obtain ⟨hg25,h⟩:=guardM h
  refine quoM hg25 ?_
  refine Or.inr ?_
  refine Or.inr ?_
  refine got hn ?_
  refine R8 _ _ ?_
  obtain rfl:=Option.some.inj h
  exact ⟨[],_,fm⟩
 refine gok hn ?_
 refine A8 _ _ ?_
 refine gos hn ?_
 obtain ⟨hg26,h⟩:=guardM h
 refine decM hg26 ?_
 obtain ⟨hg27,h⟩:=guardM h
 refine quoM hg27 ?_
 refine Or.inr ?_
 refine Or.inr ?_
 refine got hn ?_
 obtain rfl:=Option.some.inj h
 exact ⟨[],_,fm⟩

/- (*qcref5.R).Enter -/
set_option maxRecDepth 100000 in
set_option maxHeartbeats 8000000 in
theorem qcref5_R_Enter_f_ok (N:Nat) (gR:(Nat→TR→Int→Me→V→(List V)→Option (V×TR))) (a0:TR) (a1:Int) (a2:Int) (a3:V) (a4:(List V)) (hgR:∀(N:Nat) (a0:TR) (a1:Int) (a2:Me) (a3:V) (a4:(List V)) (r:(V×TR)),gR N a0 a1 a2 a3 a4=some r→Spec Try.prog 83 [(1000,.box [.sl 4 (List.map eCl a0.w.classes),.sl 2 (List.map eOb a0.w.heap),.int a0.w.epoch,.int a0.fuel,.int a0.sends,.int a0.turns,.int a0.deep,.int a0.err,.own 1001,.own 1002] 99),(1001,.row 3 (List.map eSt a0.sites) 56),(1002,.row 1 (List.map eInt a0.of) 3)] [.ptr 1000 0,.int a1,.agg (eMe a2),.agg (eV a3),.sl 2 (List.map eV a4)] (.agg (eV r.1)) [(1000,.box [.sl 4 (List.map eCl r.2.w.classes),.sl 2 (List.map eOb r.2.w.heap),.int r.2.w.epoch,.int r.2.fuel,.int r.2.sends,.int r.2.turns,.int r.2.deep,.int r.2.err,.own 2,.own 3] 99),(2,.row 3 (List.map eSt r.2.sites) 56),(1001,.gone),(3,.row 1 (List.map eInt r.2.of) 3),(1002,.gone)] [2,3]) (r:(V×TR)) (h:qcref5_R_Enter_f N gR a0 a1 a2 a3 a4=some r):Spec Try.prog 46 [(1000,.box [.sl 4 (List.map eCl a0.w.classes),.sl 2 (List.map eOb a0.w.heap),.int a0.w.epoch,.int a0.fuel,.int a0.sends,.int a0.turns,.int a0.deep,.int a0.err,.own 1001,.own 1002] 99),(1001,.row 3 (List.map eSt a0.sites) 56),(1002,.row 1 (List.map eInt a0.of) 3)] [.ptr 1000 0,.int a1,.int a2,.agg (eV a3),.sl 2 (List.map eV a4)] (.agg (eV r.1)) [(1000,.box [.sl 4 (List.map eCl r.2.w.classes),.sl 2 (List.map eOb r.2.w.heap),.int r.2.w.epoch,.int r.2.fuel,.int r.2.sends,.int r.2.turns,.int r.2.deep,.int r.2.err,.own 2,.own 3] 99),(2,.row 3 (List.map eSt r.2.sites) 56),(1001,.gone),(3,.row 1 (List.map eInt r.2.of) 3),(1002,.gone)] [2,3]:=by
 refine Spec.of tabOk Try.func46 rfl Try.ntmps46 (by kernel_rfl) rfl rfl rfl fun Γ hn=>?_
 unfold qcref5_R_Enter_f at h
 refine COk.reidB 1000 8 1001 320 rfl rfl rfl rfl rfl rfl rfl rfl rfl ?_
 refine COk.reidB 1000 9 1002 321 rfl rfl rfl rfl rfl rfl rfl rfl rfl ?_
 refine gos hn ?_
 refine gos hn ?_
 obtain ⟨x1,hx2,h⟩:=bindM h
 refine idxM hx2 ?_
 obtain ⟨x3,hx4,h⟩:=bindM h
 refine idxM hx4 ?_
 refine COk.seqQ fun _ A0 _ R0=>?_
 refine kp [(0,_),(1,_),(4,_),(8,_),(10,_),(11,_)] [(8,_),(10,_),(11,_),(320,_),(321,_),(1000,_),(1001,_),(1002,_)] ?_
 refine gos hn ?_
 refine lenM (fun _=>?_)
 refine goc hn ?_
 refine bselM h (fun hb6 h=>?_) (fun hb6 h=>?_)
 ·refine gos hn ?_
  refine gos hn ?_
  refine got hn ?_
  refine R0 _ _ ?_
  obtain rfl:=Option.some.inj h
  exact ⟨[(2,320),(3,321)],_,fm⟩
 refine gok hn ?_
 refine A0 _ _ ?_
 refine COk.seqQ fun _ A1 _ R1=>?_
 refine COk.seqQ fun _ A2 _ _=>?_
 refine god hn (by kernel_rfl) ?_
 refine A2 _ _ ?_
 refine goc hn ?_
 refine bselM h (fun hb7 h=>?_) (fun hb7 h=>?_)
 ·refine kp [(0,_),(10,_)] [(10,_),(320,_),(321,_),(1000,_),(1001,_),(1002,_)] ?_
  refine gos hn ?_
  refine gos hn ?_
  refine got hn ?_
  refine R1 _ _ ?_
  obtain rfl:=Option.some.inj h
  exact ⟨[(2,320),(3,321)],_,fm⟩
 refine gok hn ?_
 refine A1 _ _ ?_
 refine COk.seqQ fun _ A3 _ R3=>?_
 refine kp [(0,_),(1,_),(4,_),(8,_),(10,_),(11,_)] [(8,_),(10,_),(11,_),(320,_),(321,_),(1000,_),(1001,_),(1002,_)] ?_
 refine gos hn ?_
 refine goc hn ?_
 refine bselM h (fun hb8 h=>?_) (fun hb8 h=>?_)
 ·refine gos hn ?_
  refine Or.inr ?_
  refine COk.seqQ fun _ A4 _ _=>?_
  refine god hn (by kernel_rfl) ?_
  obtain ⟨x9,hx10,h⟩:=bindM h
  refine idxM hx10 ?_
  obtain ⟨r11,hr12,h⟩:=bindM h
  show CallOk Try.prog _ _ _ _
  refine cA (qcref1_Prim_ok N x3.prim a3 x9 r11 hr12) ?_
  refine A4 _ _ ?_
  refine kp [(0,_),(10,_),(12,_),(13,_)] [(10,_),(12,_),(320,_),(321,_),(1000,_),(1001,_),(1002,_)] ?_
  refine gos hn ?_
  refine gos hn ?_
  refine got hn ?_
  refine R3 _ _ ?_
  obtain rfl:=Option.some.inj h
  exact ⟨[(2,320),(3,321)],_,fm⟩
 refine gok hn ?_
 refine A3 _ _ ?_
 refine COk.seqQ fun _ A5 _ R5=>?_
 refine gos hn ?_
 refine goc hn ?_
 refine bselM h (fun hb13 h=>?_) (fun hb13 h=>?_)
 ·refine gos hn ?_
  refine kp [(0,_),(10,_)] [(10,_),(320,_),(321,_),(1000,_),(1001,_),(1002,_)] ?_
  refine gos hn ?_
  refine got hn ?_
  refine R5 _ _ ?_
  obtain rfl:=Option.some.inj h
  exact ⟨[(2,320),(3,321)],_,fm⟩
 refine gok hn ?_
 refine A5 _ _ ?_
 refine gos hn ?_
 refine Or.inr ?_
 refine kp [(0,_),(1,_),(4,_),(8,_),(10,_),(11,_)] [(8,_),(10,_),(11,_),(320,_),(321,_),(1000,_),(1001,_),(1002,_)] ?_
 refine gos hn ?_
 refine Or.inr ?_
 refine gos hn ?_
 obtain ⟨r14,hr15,h⟩:=bindM h
 show CallOk Try.prog _ _ _ _
 refine cA ((hgR N (⟨a0.w,a0.fuel,(wr (a0.sends+(1:Int))),a0.turns,(wr (a0.deep+(1:Int))),a0.err,a0.sites,a0.of⟩:TR) a1 x3 a3 a4 r14 hr15).swl [(1001,320),(1002,321),(2,501),(3,502)] rfl) ?_
 refine kp [(0,_),(10,_),(14,_)] [(10,_),(14,_),(501,_),(502,_),(1000,_),(1001,_),(1002,_)] ?_
 refine gos hn ?_
 refine Or.inr ?_
 refine gos hn ?_
 refine got hn ?_
 obtain rfl:=Option.some.inj h
 exact ⟨[(2,501),(3,502)],_,fm⟩

/- qcref1.Slot -/
set_option maxRecDepth 100000 in
set_option maxHeartbeats 8000000 in
theorem qcref1_Slot_ok (N:Nat) (a0:(List Ob)) (a1:V) (a2:Int) (r:V) (h:qcref1_Slot N a0 a1 a2=some r):Spec Try.prog 111 [] [.sl 2 (List.map eOb a0),.agg (eV a1),.int a2] (.agg (eV r)) [] []:=by
 refine Spec.of tabOk Try.func111 rfl Try.ntmps111 (by kernel_rfl) rfl rfl rfl fun Γ hn=>?_
 unfold qcref1_Slot at h
 refine gos hn ?_
 refine COk.seqQ fun _ A0 _ R0=>?_
 refine COk.seqQ fun _ A1 _ _=>?_
 obtain ⟨o3,h2,h⟩:=bindM h
 refine jk (ι:={ s // o3=s }) hn (fun s=>[(23,.bool s.1)]) (fun s=>[]) [(0,_),(2,_),(4,_),(6,_)] [(4,_),(6,_)] (fun _ A2 _ _=>?_) ?_
 ·refine gor hn ?_
  refine bselM h2 (fun hb4 h2=>?_) (fun hb4 h2=>?_)
  ·refine bselT hb4 ?_
   refine bselT hb4 ?_
   refine bselT hb4 ?_
   refine bselM h2 (fun hb5 h2=>?_) (fun hb5 h2=>?_)
   ·refine bselT hb5 ?_
    refine bselT hb5 ?_
    refine bselT hb5 ?_
    refine lenM (fun _=>?_)
    refine bselT hb5 ?_
    refine bselT hb5 ?_
    refine A2 _ _ ?_
    exact jn ⟨_,sj h2⟩ []
   refine bselF hb5 ?_
   refine bselF hb5 ?_
   refine bselF hb5 ?_
   refine bselF hb5 ?_
   refine bselF hb5 ?_
   refine A2 _ _ ?_
   exact jn ⟨_,sj h2⟩ []
  refine bselF hb4 ?_
  refine bselF hb4 ?_
  refine bselF hb4 ?_
  refine A2 _ _ ?_
  exact jn ⟨_,sj h2⟩ []
 rintro ⟨v1,hv_⟩
 replace hv_:=hv_.symm
 subst hv_
 refine A1 _ _ ?_
 obtain ⟨o8,h7,h⟩:=bindM h
 refine jk (ι:={ s // o8=Ctl.next s }) hn (fun s=>[]) (fun s=>[]) [(6,_)] [(6,_)] (fun _ A3 _ R3=>?_) ?_
 ·refine goc hn ?_
  refine bselM h7 (fun hb9 h7=>?_) (fun hb9 h7=>?_)
  ·refine gos hn ?_
   obtain ⟨x10,hx11,h7⟩:=bindM h7
   refine idxM hx11 ?_
   refine lenM (fun hl12=>?_)
   obtain ⟨o14,h15,h7⟩:=bindM h7
   refine jk (ι:={ s // o14=Ctl.next s }) hn (fun s=>[]) (fun s=>[]) [(6,_)] [(6,_)] (fun _ A4 _ R4=>?_) ?_
   ·refine COk.blkQ fun _ _ E5 _ R5=>?_
    refine lq (ι:={ q:((List V)×Nat) // q.1=x10.slots.drop q.2∧qcref1_Slot_l1 N a2 q.1 q.2=some o14 }) hn (fun q=>[(31,.int (q.1.2:Int))]) (fun q=>[]) (fun q=>q.1.1.length) [(2,_),(6,_),(29,_),(30,_)] [(6,_)] ⟨(x10.slots,0),rfl,h15⟩ [] ?_
    rintro ⟨⟨rest_,k13⟩,hd17,h15⟩ _ A6 X6 R6
    replace hd17:rest_=x10.slots.drop k13:=hd17
    rcases rest_ with _|⟨x19,rest16⟩
    ·have hlt21:=restNil hd17
     replace h15:=(qcref1_Slot_l1.eq_1 _ _ _).symm.trans h15
     refine gos hn ?_
     refine COk.seqQ fun _ _ X7 _=>?_
     refine goc hn ?_
     refine bselF hlt21 ?_
     refine goe hn ?_
     refine X7 _ _ _ ?_
     refine X6 _ _ _ ?_
     refine E5 _ _ ?_
     refine A4 _ _ ?_
     exact jn ⟨_,sj h15⟩ []
    ·obtain ⟨hx20,hd2,hlt21⟩:=restCons hd17
     replace h15:=(qcref1_Slot_l1.eq_2 _ _ _ _ _).symm.trans h15
     refine gos hn ?_
     refine COk.seqQ fun _ A8 _ _=>?_
     refine goc hn ?_
     refine bselT hlt21 ?_
     refine gok hn ?_
     refine A8 _ _ ?_
     refine COk.seqQ fun _ A9 _ R9=>?_
     refine COk.blkQ fun _ A10 _ _ R10=>?_
     refine gos hn ?_
     refine idxK hx20 ?_
     refine gos hn ?_
     refine goc hn ?_
     refine bselM h15 (fun hb22 h15=>?_) (fun hb22 h15=>?_)
     ·refine gos hn ?_
      refine got hn ?_
      refine R10 _ _ ?_
      refine R9 _ _ ?_
      refine R6 _ _ ?_
      refine R5 _ _ ?_
      refine R4 _ _ ?_
      refine R3 _ _ ?_
      refine R0 _ _ ?_
      obtain rfl:=Option.some.inj h15
      obtain rfl:=Option.some.inj h7
      obtain rfl:=Option.some.inj h
      exact ⟨[],_,fm⟩
     refine gok hn ?_
     refine A10 _ _ ?_
     refine A9 _ _ ?_
     refine gor hn ?_
     refine Or.inl (And.intro (inrK hx20 hl12) ?_)
     refine A6 _ _ ?_
     exact jn ⟨(rest16,k13+1),hd2,h15⟩ [] (by show rest16.length < rest16.length+1; omega)
   rintro ⟨⟨⟩,rfl⟩
   refine A3 _ _ ?_
   exact jn ⟨_,sj h7⟩ []
  refine gok hn ?_
  refine A3 _ _ ?_
  exact jn ⟨_,sj h7⟩ []
 rintro ⟨⟨⟩,rfl⟩
 refine A0 _ _ ?_
 refine gos hn ?_
 refine got hn ?_
 obtain rfl:=Option.some.inj h
 exact ⟨[],_,fm⟩

/- (*qcref5.R).Body$1 -/
set_option maxRecDepth 100000 in
set_option maxHeartbeats 8000000 in
theorem qcref5_R_Body_1_ok (N:Nat) (b0:(List V)) (r:(V×(List V))) (h:qcref5_R_Body_1 N b0=some r):Spec Try.prog 110 [(1000,.box [.own 1001] 28),(1001,.row 2 (List.map eV b0) 27)] [.ptr 1000 0] (.agg (eV r.1)) [(1000,.box [.own 2] 28),(2,.row 2 (List.map eV r.2) 27),(1001,.gone)] [2]:=by
 refine Spec.of tabOk Try.func110 rfl Try.ntmps110 (by kernel_rfl) rfl rfl rfl fun Γ hn=>?_
 unfold qcref5_R_Body_1 at h
 refine COk.reidB 1000 0 1001 320 rfl rfl rfl rfl rfl rfl rfl rfl rfl ?_
 refine gos hn ?_
 refine gos hn ?_
 refine lenM (fun _=>?_)
 refine Or.inr ?_
 obtain ⟨x2,hx3,h⟩:=bindM h
 refine ownM hx3 ?_
 refine ldM (nthO_some hx3).2 ?_
 refine gos hn ?_
 refine lenM (fun _=>?_)
 refine Or.inr ?_
 obtain ⟨hg5,h⟩:=guardM h
 refine takeM hg5 rfl rfl ?_
 refine gos hn ?_
 refine got hn ?_
 obtain rfl:=Option.some.inj h
 exact ⟨[(2,13)],_,fm⟩

/- (*qcref5.R).slot -/
set_option maxRecDepth 100000 in
set_option maxHeartbeats 8000000 in
theorem qcref5_R_slot_ok (N:Nat) (a0:TR) (a1:V) (a2:Int) (a3:V) (r:TR) (h:qcref5_R_slot N a0 a1 a2 a3=some r):Spec Try.prog 112 [(1000,.box [.sl 4 (List.map eCl a0.w.classes),.sl 2 (List.map eOb a0.w.heap),.int a0.w.epoch,.int a0.fuel,.int a0.sends,.int a0.turns,.int a0.deep,.int a0.err,.own 1001,.own 1002] 99),(1001,.row 3 (List.map eSt a0.sites) 56),(1002,.row 1 (List.map eInt a0.of) 3)] [.ptr 1000 0,.agg (eV a1),.int a2,.agg (eV a3)] (.tup []) [(1000,.box [.sl 4 (List.map eCl r.w.classes),.sl 2 (List.map eOb r.w.heap),.int r.w.epoch,.int r.fuel,.int r.sends,.int r.turns,.int r.deep,.int r.err,.own 2,.own 3] 99),(2,.row 3 (List.map eSt r.sites) 56),(1001,.gone),(3,.row 1 (List.map eInt r.of) 3),(1002,.gone)] [2,3]:=by
 refine Spec.of tabOk Try.func112 rfl Try.ntmps112 (by kernel_rfl) rfl rfl rfl fun Γ hn=>?_
 unfold qcref5_R_slot at h
 refine COk.reidB 1000 8 1001 320 rfl rfl rfl rfl rfl rfl rfl rfl rfl ?_
 refine COk.reidB 1000 9 1002 321 rfl rfl rfl rfl rfl rfl rfl rfl rfl ?_
 refine gos hn ?_
 refine gos hn ?_
 refine Or.inr ?_
 refine Exists.intro (List.map eOb ([]:List Ob)) (And.intro (by repeat (first|exact trivial|exact rfl|(refine And.intro ?_ ?_))) ?_)
 obtain ⟨hg1,h⟩:=guardM h
 refine appM (l2:=a0.w.heap) hg1 (leLs_refl _) ?_
 refine COk.seqQ fun _ A0 _ _=>?_
 obtain ⟨o4,h3,h⟩:=bindM h
 refine jk (ι:={ s // o4=s }) hn (fun s=>[(37,.bool s.1)]) (fun s=>[]) [(0,_),(2,_),(5,_),(7,_),(8,_)] [(5,_),(7,_),(16,_),(320,_),(321,_),(1000,_),(1001,_),(1002,_)] (fun _ A1 _ _=>?_) ?_
 ·refine gor hn ?_
  refine bselM h3 (fun hb5 h3=>?_) (fun hb5 h3=>?_)
  ·refine bselT hb5 ?_
   refine bselT hb5 ?_
   refine bselT hb5 ?_
   refine lenM (fun _=>?_)
   refine bselT hb5 ?_
   refine bselT hb5 ?_
   refine bselM h3 (fun hb7 h3=>?_) (fun hb7 h3=>?_)
   ·refine bselT hb7 ?_
    refine bselT hb7 ?_
    refine bselT hb7 ?_
    refine bselT hb7 ?_
    obtain ⟨x8,hx9,h3⟩:=bindM h3
    refine ownM hx9 ?_
    refine bselT hb7 ?_
    refine bselT hb7 ?_
    refine ldM (nthO_some hx9).2 ?_
    refine bselT hb7 ?_
    refine lenM (fun _=>?_)
    refine bselT hb7 ?_
    refine bselT hb7 ?_
    refine A1 _ _ ?_
    exact jn ⟨_,sj h3⟩ []
   refine bselF hb7 ?_
   refine bselF hb7 ?_
   refine bselF hb7 ?_
   refine bselF hb7 ?_
   refine bselF hb7 ?_
   refine bselF hb7 ?_
   refine bselF hb7 ?_
   refine bselF hb7 ?_
   refine bselF hb7 ?_
   refine A1 _ _ ?_
   exact jn ⟨_,sj h3⟩ []
  refine bselF hb5 ?_
  refine bselF hb5 ?_
  refine bselF hb5 ?_
  refine bselF hb5 ?_
  refine bselF hb5 ?_
  refine A1 _ _ ?_
  exact jn ⟨_,sj h3⟩ []
 rintro ⟨v2,hv_⟩
 replace hv_:=hv_.symm
 subst hv_
 refine A0 _ _ ?_
 obtain ⟨o13,h12,h⟩:=bindM h
 refine jk (ι:={ s // o13=s }) hn (fun s=>[]) (fun s=>[(1000,.box [.sl 4 (List.map eCl a0.w.classes),.sl 2 (List.map eOb s.1),.int a0.w.epoch,.int a0.fuel,.int a0.sends,.int a0.turns,.int a0.deep,.int a0.err,.own 320,.own 321] 99)]) [(0,_)] [(320,_),(321,_),(1001,_),(1002,_)] (fun _ A2 _ _=>?_) ?_
 ·refine goc hn ?_
  refine bselM h12 (fun hb14 h12=>?_) (fun hb14 h12=>?_)
  ·refine gos hn ?_
   refine Exists.intro (List.map eV ([]:List V)) (And.intro (by repeat (first|exact trivial|exact rfl|(refine And.intro ?_ ?_))) ?_)
   obtain ⟨x15,hx16,h12⟩:=bindM h12
   refine ownM hx16 ?_
   refine ldM (nthO_some hx16).2 ?_
   obtain ⟨hg17,h12⟩:=guardM h12
   refine appM (l2:=x15.slots) hg17 (leLs_refl _) ?_
   refine gos hn ?_
   obtain ⟨x18,hx19,h12⟩:=bindM h12
   refine ownM hx19 ?_
   refine ldM (nthO_some hx19).2 ?_
   refine Exists.intro (List.map eV ((([]:List V)++x15.slots).set a2.toNat a3)) (And.intro (leLs_set (nthO_some hx19).2 (by repeat (first|exact trivial|exact rfl|(refine And.intro ?_ ?_)))) ?_)
   refine COk.fzAll 45 rfl ?_
   refine kp [(0,_),(5,_),(8,_),(9,_)] [(5,_),(16,_),(320,_),(321,_),(1000,_),(1001,_),(1002,_)] ?_
   refine gos hn ?_
   obtain ⟨x20,hx21,h12⟩:=bindM h12
   refine ownM hx21 ?_
   refine ldM (nthO_some hx21).2 ?_
   refine Exists.intro (List.map eOb ((([]:List Ob)++a0.w.heap).set a1.n.toNat (⟨x20.cls,((([]:List V)++x15.slots).set a2.toNat a3)⟩:Ob))) (And.intro (leLs_set (nthO_some hx21).2 (by repeat (first|exact trivial|exact rfl|(refine And.intro ?_ ?_)))) ?_)
   refine gor hn ?_
   refine A2 _ _ ?_
   refine EOk.fzAll 16 rfl ?_
   exact jn ⟨_,sj h12⟩ []
  refine gok hn ?_
  refine A2 _ _ ?_
  exact jn ⟨_,sj h12⟩ []
 rintro ⟨v11,hv_⟩
 replace hv_:=hv_.symm
 subst hv_
 obtain rfl:=Option.some.inj h
 exact ⟨[(2,320),(3,321)],_,fm⟩

/- (*qcref5.R).Body -/
set_option maxRecDepth 100000 in
set_option maxHeartbeats 8000000 in
theorem qcref5_R_Body_f_ok (N:Nat) (gR:(Nat→TR→Int→Int→V→(List V)→Option (V×TR))) (a0:TR) (a1:Int) (a2:Me) (a3:V) (a4:(List V)) (hgR:∀(N:Nat) (a0:TR) (a1:Int) (a2:Int) (a3:V) (a4:(List V)) (r:(V×TR)),gR N a0 a1 a2 a3 a4=some r→Spec Try.prog 46 [(1000,.box [.sl 4 (List.map eCl a0.w.classes),.sl 2 (List.map eOb a0.w.heap),.int a0.w.epoch,.int a0.fuel,.int a0.sends,.int a0.turns,.int a0.deep,.int a0.err,.own 1001,.own 1002] 99),(1001,.row 3 (List.map eSt a0.sites) 56),(1002,.row 1 (List.map eInt a0.of) 3)] [.ptr 1000 0,.int a1,.int a2,.agg (eV a3),.sl 2 (List.map eV a4)] (.agg (eV r.1)) [(1000,.box [.sl 4 (List.map eCl r.2.w.classes),.sl 2 (List.map eOb r.2.w.heap),.int r.2.w.epoch,.int r.2.fuel,.int r.2.sends,.int r.2.turns,.int r.2.deep,.int r.2.err,.own 2,.own 3] 99),(2,.row 3 (List.map eSt r.2.sites) 56),(1001,.gone),(3,.row 1 (List.map eInt r.2.of) 3),(1002,.gone)] [2,3]) (r:(V×TR)) (h:qcref5_R_Body_f N gR a0 a1 a2 a3 a4=some r):Spec Try.prog 83 [(1000,.box [.sl 4 (List.map eCl a0.w.classes),.sl 2 (List.map eOb a0.w.heap),.int a0.w.epoch,.int a0.fuel,.int a0.sends,.int a0.turns,.int a0.deep,.int a0.err,.own 1001,.own 1002] 99),(1001,.row 3 (List.map eSt a0.sites) 56),(1002,.row 1 (List.map eInt a0.of) 3)] [.ptr 1000 0,.int a1,.agg (eMe a2),.agg (eV a3),.sl 2 (List.map eV a4)] (.agg (eV r.1)) [(1000,.box [.sl 4 (List.map eCl r.2.w.classes),.sl 2 (List.map eOb r.2.w.heap),.int r.2.w.epoch,.int r.2.fuel,.int r.2.sends,.int r.2.turns,.int r.2.deep,.int r.2.err,.own 2,.own 3] 99),(2,.row 3 (List.map eSt r.2.sites) 56),(1001,.gone),(3,.row 1 (List.map eInt r.2.of) 3),(1002,.gone)] [2,3]:=by
 refine Spec.of tabOk Try.func83 rfl Try.ntmps83 (by kernel_rfl) rfl rfl rfl fun Γ hn=>?_
 unfold qcref5_R_Body_f at h
 refine COk.reidB 1000 8 1001 320 rfl rfl rfl rfl rfl rfl rfl rfl rfl ?_
 refine COk.reidB 1000 9 1002 321 rfl rfl rfl rfl rfl rfl rfl rfl rfl ?_
 refine gos hn ?_
 refine gos hn ?_
 obtain ⟨hg1,h⟩:=guardM h
 refine mkM (enc:=eV) (x:=(⟨(0:Int),(0:Int)⟩:V)) hg1 (by repeat (first|exact trivial|exact rfl|(refine And.intro ?_ ?_))) ?_
 refine gos hn ?_
 refine gos hn ?_
 refine gos hn ?_
 refine COk.seqQ fun _ A0 _ R0=>?_
 refine COk.nilrowB 12 0 501 2 27 rfl rfl rfl rfl rfl rfl ?_
 obtain ⟨o39,h40,h⟩:=bindM h
 refine jk (ι:={ s // o39=Ctl.next s }) hn (fun s=>[]) (fun s=>[(320,.row 3 (List.map eSt s.1.2.2.2.2.2.2.2.2.1) 56),(321,.row 1 (List.map eInt s.1.2.2.2.2.2.2.2.2.2) 3),(1000,.box [.sl 4 (List.map eCl s.1.1),.sl 2 (List.map eOb s.1.2.1),.int s.1.2.2.1,.int s.1.2.2.2.1,.int s.1.2.2.2.2.1,.int s.1.2.2.2.2.2.1,.int s.1.2.2.2.2.2.2.1,.int s.1.2.2.2.2.2.2.2.1,.own 320,.own 321] 99)]) [(0,_),(10,_)] [(10,_),(1001,_),(1002,_)] (fun _ A1 _ R1=>?_) ?_
 ·refine COk.blkQ fun _ _ E2 _ R2=>?_
  refine lq (ι:={ q:(Nat×(List Cl)×(List Ob)×Int×Int×Int×Int×Int×Int×(List St)×(List Int)×(List V)×(List V)×Int) // qcref5_R_Body_f_l1 N gR a1 a2 a3 a4 q.1 q.2.1 q.2.2.1 q.2.2.2.1 q.2.2.2.2.1 q.2.2.2.2.2.1 q.2.2.2.2.2.2.1 q.2.2.2.2.2.2.2.1 q.2.2.2.2.2.2.2.2.1 q.2.2.2.2.2.2.2.2.2.1 q.2.2.2.2.2.2.2.2.2.2.1 q.2.2.2.2.2.2.2.2.2.2.2.1 q.2.2.2.2.2.2.2.2.2.2.2.2.1 q.2.2.2.2.2.2.2.2.2.2.2.2.2=some o39 }) hn (fun q=>[(14,.int q.1.2.2.2.2.2.2.2.2.2.2.2.2.2)]) (fun q=>[(27,.row 2 (List.map eV q.1.2.2.2.2.2.2.2.2.2.2.2.1) 27),(320,.row 3 (List.map eSt q.1.2.2.2.2.2.2.2.2.2.1) 56),(321,.row 1 (List.map eInt q.1.2.2.2.2.2.2.2.2.2.2.1) 3),(501,.row 2 (List.map eV q.1.2.2.2.2.2.2.2.2.2.2.2.2.1) 27),(1000,.box [.sl 4 (List.map eCl q.1.2.1),.sl 2 (List.map eOb q.1.2.2.1),.int q.1.2.2.2.1,.int q.1.2.2.2.2.1,.int q.1.2.2.2.2.2.1,.int q.1.2.2.2.2.2.2.1,.int q.1.2.2.2.2.2.2.2.1,.int q.1.2.2.2.2.2.2.2.2.1,.own 320,.own 321] 99)]) (fun q=>q.1.1) [(0,_),(1,_),(4,_),(7,_),(8,_),(10,_),(11,_),(12,_),(13,_)] [(7,_),(8,_),(10,_),(12,_),(1001,_),(1002,_)] ⟨(N,a0.w.classes,a0.w.heap,a0.w.epoch,a0.fuel,a0.sends,a0.turns,a0.deep,a0.err,a0.sites,a0.of,(List.replicate a2.temps.toNat (⟨(0:Int),(0:Int)⟩:V)),([]:List V),(0:Int)),h40⟩ [] ?_
  rintro ⟨⟨n_,v3,v4,v5,v6,v7,v8,v9,v10,v11,v12,v13,v14,v15⟩,h40⟩ _ A3 X3 R3
  rcases n_ with _|n43
  ·rw [qcref5_R_Body_f_l1.eq_1] at h40
   cases h40
  ·replace h40:=(qcref5_R_Body_f_l1.eq_2 _ _ _ _ _ _ _ _ _ _ _ _ _ _ _ _ _ _ _ _).symm.trans h40
   refine COk.seqQ fun _ A4 X4 _=>?_
   refine gos hn ?_
   refine goc hn ?_
   refine bselM h40 (fun hb44 h40=>?_) (fun hb44 h40=>?_)
   ·refine gok hn ?_
    refine A4 _ _ ?_
    refine COk.blkQ fun _ A5 _ _ R5=>?_
    refine gos hn ?_
    obtain ⟨x45,hx46,h40⟩:=bindM h40
    refine idxM hx46 ?_
    refine kp [(0,_),(1,_),(4,_),(7,_),(8,_),(10,_),(11,_),(12,_),(13,_),(14,_),(15,_)] [(7,_),(8,_),(10,_),(12,_),(15,_),(27,_),(320,_),(321,_),(501,_),(1000,_),(1001,_),(1002,_)] ?_
    refine gos hn ?_
    refine Or.inr ?_
    refine COk.seqQ fun _ A6 _ R6=>?_
    refine gos hn ?_
    obtain ⟨o61,h60,h40⟩:=bindM h40
    refine jk (ι:={ s // o61=Ctl.next s }) hn (fun s=>[(16,.int s.1.2.2.2.2.2.2.2.2.2.2.2.2)]) (fun s=>[(12,.box [.own 48] 28),(27,.row 2 (List.map eV s.1.2.2.2.2.2.2.2.2.2.2.1) 27),(48,.row 2 (List.map eV s.1.2.2.2.2.2.2.2.2.2.2.2.1) 27),(320,.row 3 (List.map eSt s.1.2.2.2.2.2.2.2.2.1) 56),(321,.row 1 (List.map eInt s.1.2.2.2.2.2.2.2.2.2.1) 3),(1000,.box [.sl 4 (List.map eCl s.1.1),.sl 2 (List.map eOb s.1.2.1),.int s.1.2.2.1,.int s.1.2.2.2.1,.int s.1.2.2.2.2.1,.int s.1.2.2.2.2.2.1,.int s.1.2.2.2.2.2.2.1,.int s.1.2.2.2.2.2.2.2.1,.own 320,.own 321] 99)]) [(0,_),(1,_),(4,_),(7,_),(8,_),(10,_),(11,_),(12,_),(13,_),(14,_)] [(7,_),(8,_),(10,_),(1001,_),(1002,_)] (fun _ A7 _ R7=>?_) ?_
    ·refine COk.blkQ fun _ A8 E8 _ R8=>?_
     refine gos hn ?_
     refine goc hn ?_
     refine bselM h60 (fun hb62 h60=>?_) (fun hb62 h60=>?_)
     ·refine kp [(0,_),(1,_),(4,_),(7,_),(8,_),(10,_),(11,_),(12,_),(13,_),(14,_),(16,_)] [(7,_),(8,_),(10,_),(12,_),(27,_),(320,_),(321,_),(501,_),(1000,_),(1001,_),(1002,_)] ?_
      refine gor hn ?_
      refine Exists.intro (List.map eV [a3]) (And.intro (by repeat (first|exact trivial|exact rfl|(refine And.intro ?_ ?_))) ?_)
      obtain ⟨hg63,h60⟩:=guardM h60
      refine appM (l2:=[a3]) hg63 (leLs_refl _) ?_
      refine A8 _ _ ?_
      refine A7 _ _ ?_
      exact jn ⟨_,sj h60⟩ []
     refine kp [(0,_),(1,_),(4,_),(7,_),(8,_),(10,_),(11,_),(12,_),(13,_),(14,_),(15,_),(16,_),(42,_)] [(7,_),(8,_),(10,_),(12,_),(15,_),(27,_),(320,_),(321,_),(501,_),(1000,_),(1001,_),(1002,_)] ?_
     refine gos hn ?_
     refine goc hn ?_
     refine bselM h60 (fun hb64 h60=>?_) (fun hb64 h60=>?_)
     ·refine god hn (by kernel_rfl) ?_
      obtain ⟨x65,hx66,h60⟩:=bindM h60
      refine idxM hx66 ?_
      refine Exists.intro (List.map eV [x65]) (And.intro (by repeat (first|exact trivial|exact rfl|(refine And.intro ?_ ?_))) ?_)
      obtain ⟨hg67,h60⟩:=guardM h60
      refine appM (l2:=[x65]) hg67 (leLs_refl _) ?_
      refine A8 _ _ ?_
      refine A7 _ _ ?_
      exact jn ⟨_,sj h60⟩ [(48,58)]
     refine gos hn ?_
     refine goc hn ?_
     refine bselM h60 (fun hb68 h60=>?_) (fun hb68 h60=>?_)
     ·refine kp [(0,_),(1,_),(4,_),(7,_),(8,_),(10,_),(11,_),(12,_),(13,_),(14,_),(15,_),(16,_)] [(7,_),(8,_),(10,_),(12,_),(15,_),(27,_),(320,_),(321,_),(501,_),(1000,_),(1001,_),(1002,_)] ?_
      refine god hn (by kernel_rfl) ?_
      obtain ⟨x69,hx70,h60⟩:=bindM h60
      refine ownM hx70 ?_
      refine ldM (nthO_some hx70).2 ?_
      refine Exists.intro (List.map eV [x69]) (And.intro (by repeat (first|exact trivial|exact rfl|(refine And.intro ?_ ?_))) ?_)
      obtain ⟨hg71,h60⟩:=guardM h60
      refine appM (l2:=[x69]) hg71 (leLs_refl _) ?_
      refine A8 _ _ ?_
      refine A7 _ _ ?_
      exact jn ⟨_,sj h60⟩ [(48,68)]
     refine kp [(0,_),(1,_),(4,_),(7,_),(8,_),(10,_),(11,_),(12,_),(13,_),(14,_),(15,_),(16,_),(42,_)] [(7,_),(8,_),(10,_),(12,_),(15,_),(27,_),(320,_),(321,_),(501,_),(1000,_),(1001,_),(1002,_)] ?_
     refine gos hn ?_
     refine goc hn ?_
     refine bselM h60 (fun hb72 h60=>?_) (fun hb72 h60=>?_)
     ·refine god hn (by kernel_rfl) ?_
      obtain ⟨r73,hr74,h60⟩:=bindM h60
      show CallOk Try.prog _ _ _ _
      refine cA (qcref1_Slot_ok N v4 a3 x45.a r73 hr74) ?_
      refine Exists.intro (List.map eV [r73]) (And.intro (by repeat (first|exact trivial|exact rfl|(refine And.intro ?_ ?_))) ?_)
      obtain ⟨hg75,h60⟩:=guardM h60
      refine appM (l2:=[r73]) hg75 (leLs_refl _) ?_
      refine A8 _ _ ?_
      refine A7 _ _ ?_
      exact jn ⟨_,sj h60⟩ [(48,82)]
     refine gos hn ?_
     refine goc hn ?_
     refine bselM h60 (fun hb76 h60=>?_) (fun hb76 h60=>?_)
     ·refine kp [(0,_),(1,_),(4,_),(7,_),(8,_),(10,_),(11,_),(12,_),(13,_),(14,_),(15,_),(16,_)] [(7,_),(8,_),(10,_),(12,_),(15,_),(27,_),(320,_),(321,_),(501,_),(1000,_),(1001,_),(1002,_)] ?_
      refine gor hn ?_
      refine Exists.intro (List.map eV [(⟨(3:Int),x45.a⟩:V)]) (And.intro (by repeat (first|exact trivial|exact rfl|(refine And.intro ?_ ?_))) ?_)
      obtain ⟨hg77,h60⟩:=guardM h60
      refine appM (l2:=[(⟨(3:Int),x45.a⟩:V)]) hg77 (leLs_refl _) ?_
      refine A8 _ _ ?_
      refine A7 _ _ ?_
      exact jn ⟨_,sj h60⟩ [(48,90)]
     refine kp [(0,_),(1,_),(4,_),(7,_),(8,_),(10,_),(11,_),(12,_),(13,_),(14,_),(15,_),(16,_),(42,_)] [(7,_),(8,_),(10,_),(12,_),(15,_),(27,_),(320,_),(321,_),(501,_),(1000,_),(1001,_),(1002,_)] ?_
     refine gos hn ?_
     refine goc hn ?_
     refine bselM h60 (fun hb78 h60=>?_) (fun hb78 h60=>?_)
     ·refine gor hn ?_
      refine Exists.intro (List.map eV [(⟨(0:Int),(0:Int)⟩:V)]) (And.intro (by repeat (first|exact trivial|exact rfl|(refine And.intro ?_ ?_))) ?_)
      obtain ⟨hg79,h60⟩:=guardM h60
      refine appM (l2:=[(⟨(0:Int),(0:Int)⟩:V)]) hg79 (leLs_refl _) ?_
      refine A8 _ _ ?_
      refine A7 _ _ ?_
      exact jn ⟨_,sj h60⟩ [(48,96)]
     refine gos hn ?_
     refine goc hn ?_
     refine bselM h60 (fun hb80 h60=>?_) (fun hb80 h60=>?_)
     ·refine kp [(0,_),(1,_),(4,_),(7,_),(8,_),(10,_),(11,_),(12,_),(13,_),(14,_),(16,_)] [(7,_),(8,_),(10,_),(12,_),(27,_),(320,_),(321,_),(501,_),(1000,_),(1001,_),(1002,_)] ?_
      refine god hn (by kernel_rfl) ?_
      obtain ⟨r81,hr82,h60⟩:=bindM h60
      show CallOk Try.prog _ _ _ _
      refine cA (qcref1_Bool_ok N false r81 hr82) ?_
      refine Exists.intro (List.map eV [r81]) (And.intro (by repeat (first|exact trivial|exact rfl|(refine And.intro ?_ ?_))) ?_)
      obtain ⟨hg83,h60⟩:=guardM h60
      refine appM (l2:=[r81]) hg83 (leLs_refl _) ?_
      refine A8 _ _ ?_
      refine A7 _ _ ?_
      exact jn ⟨_,sj h60⟩ [(48,102)]
     refine kp [(0,_),(1,_),(4,_),(7,_),(8,_),(10,_),(11,_),(12,_),(13,_),(14,_),(15,_),(16,_),(42,_)] [(7,_),(8,_),(10,_),(12,_),(15,_),(27,_),(320,_),(321,_),(501,_),(1000,_),(1001,_),(1002,_)] ?_
     refine gos hn ?_
     refine goc hn ?_
     refine bselM h60 (fun hb84 h60=>?_) (fun hb84 h60=>?_)
     ·refine god hn (by kernel_rfl) ?_
      obtain ⟨r85,hr86,h60⟩:=bindM h60
      show CallOk Try.prog _ _ _ _
      refine cA (qcref1_Bool_ok N true r85 hr86) ?_
      refine Exists.intro (List.map eV [r85]) (And.intro (by repeat (first|exact trivial|exact rfl|(refine And.intro ?_ ?_))) ?_)
      obtain ⟨hg87,h60⟩:=guardM h60
      refine appM (l2:=[r85]) hg87 (leLs_refl _) ?_
      refine A8 _ _ ?_
      refine A7 _ _ ?_
      exact jn ⟨_,sj h60⟩ [(48,108)]
     refine gos hn ?_
     refine goc hn ?_
     refine bselM h60 (fun hb88 h60=>?_) (fun hb88 h60=>?_)
     ·refine kp [(0,_),(1,_),(4,_),(7,_),(8,_),(10,_),(11,_),(12,_),(13,_),(14,_),(16,_)] [(7,_),(8,_),(10,_),(12,_),(27,_),(320,_),(321,_),(501,_),(1000,_),(1001,_),(1002,_)] ?_
      refine gor hn ?_
      obtain ⟨r89,hr90,h60⟩:=bindM h60
      show CallOk Try.prog _ _ _ _
      refine cA ((((qcref5_R_Body_1_ok N v14 r89 hr90).sw 1000 12).sw 1001 501).sw 2 502) ?_
      refine A8 _ _ ?_
      refine A7 _ _ ?_
      exact jn ⟨_,sj h60⟩ [(48,502)]
     refine kp [(0,_),(1,_),(4,_),(7,_),(8,_),(10,_),(11,_),(12,_),(13,_),(14,_),(15,_),(16,_),(42,_)] [(7,_),(8,_),(10,_),(12,_),(15,_),(27,_),(320,_),(321,_),(501,_),(1000,_),(1001,_),(1002,_)] ?_
     refine gos hn ?_
     refine goc hn ?_
     refine bselM h60 (fun hb91 h60=>?_) (fun hb91 h60=>?_)
     ·refine gos hn ?_
      obtain ⟨r92,hr93,h60⟩:=bindM h60
      show CallOk Try.prog _ _ _ _
      refine cA ((((qcref5_R_Body_1_ok N v14 r92 hr93).sw 1000 12).sw 1001 501).sw 2 503) ?_
      refine kp [(0,_),(1,_),(4,_),(7,_),(8,_),(10,_),(11,_),(12,_),(13,_),(14,_),(16,_),(17,_)] [(7,_),(8,_),(10,_),(12,_),(17,_),(27,_),(320,_),(321,_),(503,_),(1000,_),(1001,_),(1002,_)] ?_
      refine gor hn ?_
      refine Exists.intro (List.map eV [r92.1,r92.1]) (And.intro (by repeat (first|exact trivial|exact rfl|(refine And.intro ?_ ?_))) ?_)
      obtain ⟨hg94,h60⟩:=guardM h60
      refine appM (l2:=[r92.1,r92.1]) hg94 (leLs_refl _) ?_
      refine A8 _ _ ?_
      refine A7 _ _ ?_
      exact jn ⟨_,sj h60⟩ [(48,121)]
     refine gos hn ?_
     refine goc hn ?_
     refine bselM h60 (fun hb95 h60=>?_) (fun hb95 h60=>?_)
     ·refine kp [(0,_),(1,_),(4,_),(7,_),(8,_),(10,_),(11,_),(12,_),(13,_),(14,_),(15,_),(16,_)] [(7,_),(8,_),(10,_),(12,_),(15,_),(27,_),(320,_),(321,_),(501,_),(1000,_),(1001,_),(1002,_)] ?_
      refine god hn (by kernel_rfl) ?_
      obtain ⟨r96,hr97,h60⟩:=bindM h60
      show CallOk Try.prog _ _ _ _
      refine cA ((((qcref5_R_Body_1_ok N v14 r96 hr97).sw 1000 12).sw 1001 501).sw 2 504) ?_
      obtain ⟨x98,hx99,h60⟩:=bindM h60
      refine ownM hx99 ?_
      refine ldM (nthO_some hx99).2 ?_
      refine Exists.intro (List.map eV (v13.set x45.a.toNat r96.1)) (And.intro (leLs_set (nthO_some hx99).2 (by repeat (first|exact trivial|exact rfl|(refine And.intro ?_ ?_)))) ?_)
      refine A8 _ _ ?_
      refine A7 _ _ ?_
      exact jn ⟨_,sj h60⟩ [(48,504)]
     refine kp [(0,_),(1,_),(4,_),(7,_),(8,_),(10,_),(11,_),(12,_),(13,_),(14,_),(15,_),(16,_),(42,_)] [(7,_),(8,_),(10,_),(12,_),(15,_),(27,_),(320,_),(321,_),(501,_),(1000,_),(1001,_),(1002,_)] ?_
     refine gos hn ?_
     refine goc hn ?_
     refine bselM h60 (fun hb100 h60=>?_) (fun hb100 h60=>?_)
     ·refine god hn (by kernel_rfl) ?_
      obtain ⟨r101,hr102,h60⟩:=bindM h60
      show CallOk Try.prog _ _ _ _
      refine cA ((((qcref5_R_Body_1_ok N v14 r101 hr102).sw 1000 12).sw 1001 501).sw 2 505) ?_
      obtain ⟨r103,hr104,h60⟩:=bindM h60
      show CallOk Try.prog _ _ _ _
      refine cA ((qcref5_R_slot_ok N (⟨(⟨v3,v4,v5⟩:Wd),v6,v7,v8,v9,v10,v11,v12⟩:TR) a3 x45.a r101.1 r103 hr104).swl [(1001,320),(1002,321),(2,506),(3,507)] rfl) ?_
      refine A8 _ _ ?_
      refine A7 _ _ ?_
      exact jn ⟨_,sj h60⟩ [(320,506),(321,507),(48,505)]
     refine gos hn ?_
     refine goc hn ?_
     refine bselM h60 (fun hb105 h60=>?_) (fun hb105 h60=>?_)
     ·refine COk.seqQ fun _ A9 X9 _=>?_
      refine kp [(0,_),(1,_),(4,_),(7,_),(8,_),(10,_),(11,_),(12,_),(13,_),(14,_),(15,_),(16,_)] [(7,_),(8,_),(10,_),(12,_),(15,_),(27,_),(320,_),(321,_),(501,_),(1000,_),(1001,_),(1002,_)] ?_
      refine gos hn ?_
      refine lenM (fun _=>?_)
      refine goc hn ?_
      refine bselM h60 (fun hb107 h60=>?_) (fun hb107 h60=>?_)
      ·refine kp [(0,_),(1,_),(4,_),(7,_),(8,_),(10,_),(11,_),(12,_),(13,_),(14,_),(16,_)] [(7,_),(8,_),(10,_),(12,_),(27,_),(320,_),(321,_),(501,_),(1000,_),(1001,_),(1002,_)] ?_
       refine gos hn ?_
       refine goe hn ?_
       refine X9 _ _ _ ?_
       refine E8 _ _ ?_
       refine A7 _ _ ?_
       exact jn ⟨_,sj h60⟩ [(48,501)]
      refine gok hn ?_
      refine A9 _ _ ?_
      refine COk.seqQ fun _ A10 _ _=>?_
      refine kp [(0,_),(1,_),(4,_),(7,_),(8,_),(10,_),(11,_),(12,_),(13,_),(14,_),(15,_),(16,_)] [(7,_),(8,_),(10,_),(12,_),(15,_),(27,_),(320,_),(321,_),(501,_),(1000,_),(1001,_),(1002,_)] ?_
      refine god hn (by kernel_rfl) ?_
      refine lenM (fun _=>?_)
      refine Exists.intro (List.map eV [(⟨(4:Int),(v4.length:Int)⟩:V)]) (And.intro (by repeat (first|exact trivial|exact rfl|(refine And.intro ?_ ?_))) ?_)
      obtain ⟨hg109,h60⟩:=guardM h60
      refine appM (l2:=[(⟨(4:Int),(v4.length:Int)⟩:V)]) hg109 (leLs_refl _) ?_
      refine A10 _ _ ?_
      refine kp [(0,_),(1,_),(4,_),(7,_),(8,_),(10,_),(11,_),(12,_),(13,_),(14,_),(15,_),(16,_)] [(7,_),(8,_),(10,_),(12,_),(15,_),(27,_),(160,_),(320,_),(321,_),(1000,_),(1001,_),(1002,_)] ?_
      refine god hn (by kernel_rfl) ?_
      refine Or.inr ?_
      refine Exists.intro (List.map eOb ([]:List Ob)) (And.intro (by repeat (first|exact trivial|exact rfl|(refine And.intro ?_ ?_))) ?_)
      obtain ⟨hg110,h60⟩:=guardM h60
      refine appM (l2:=v4) hg110 (leLs_refl _) ?_
      obtain ⟨r111,hr112,h60⟩:=bindM h60
      show CallOk Try.prog _ _ _ _
      refine cA (qcref1_Slots_ok N (⟨v3,v4,v5⟩:Wd) x45.a r111 hr112) ?_
      obtain ⟨hg113,h60⟩:=guardM h60
      refine mkM (enc:=eV) (x:=(⟨(0:Int),(0:Int)⟩:V)) hg113 (by repeat (first|exact trivial|exact rfl|(refine And.intro ?_ ?_))) ?_
      refine Or.inr ?_
      refine Exists.intro (List.map eOb [(⟨x45.a,(List.replicate r111.toNat (⟨(0:Int),(0:Int)⟩:V))⟩:Ob)]) (And.intro (by repeat (first|exact trivial|exact rfl|(refine And.intro ?_ ?_))) ?_)
      obtain ⟨hg114,h60⟩:=guardM h60
      refine appM (l2:=[(⟨x45.a,(List.replicate r111.toNat (⟨(0:Int),(0:Int)⟩:V))⟩:Ob)]) hg114 (leLs_refl _) ?_
      refine A8 _ _ ?_
      refine A7 _ _ ?_
      refine EOk.fzAll 181 rfl ?_
      exact jn ⟨_,sj h60⟩ [(48,160)]
     refine kp [(0,_),(1,_),(4,_),(7,_),(8,_),(10,_),(11,_),(12,_),(13,_),(14,_),(15,_),(16,_),(42,_)] [(7,_),(8,_),(10,_),(12,_),(15,_),(27,_),(320,_),(321,_),(501,_),(1000,_),(1001,_),(1002,_)] ?_
     refine gos hn ?_
     refine goc hn ?_
     refine bselM h60 (fun hb115 h60=>?_) (fun hb115 h60=>?_)
     ·refine gos hn ?_
      refine lenM (fun _=>?_)
      refine Or.inr ?_
      refine COk.seqQ fun _ A11 _ _=>?_
      refine kp [(0,_),(1,_),(4,_),(7,_),(8,_),(10,_),(11,_),(12,_),(13,_),(14,_),(15,_),(16,_),(18,_)] [(7,_),(8,_),(10,_),(12,_),(15,_),(27,_),(320,_),(321,_),(501,_),(1000,_),(1001,_),(1002,_)] ?_
      refine god hn (by kernel_rfl) ?_
      refine Exists.intro (List.map eV ([]:List V)) (And.intro (by repeat (first|exact trivial|exact rfl|(refine And.intro ?_ ?_))) ?_)
      obtain ⟨hg117,h60⟩:=guardM h60
      refine osrM hg117 rfl rfl ?_
      obtain ⟨hg118,h60⟩:=guardM h60
      refine appM (l2:=(v14.drop ((wr ((v14.length:Int) - x45.a)).toNat))) hg118 (leLs_drop _ _) ?_
      refine Or.inr ?_
      obtain ⟨x119,hx120,h60⟩:=bindM h60
      refine ownM hx120 ?_
      refine ldM (nthO_some hx120).2 ?_
      refine A11 _ _ ?_
      refine kp [(0,_),(1,_),(4,_),(7,_),(8,_),(10,_),(11,_),(12,_),(13,_),(14,_),(15,_),(16,_),(18,_),(19,_),(20,_)] [(7,_),(8,_),(10,_),(12,_),(15,_),(20,_),(27,_),(196,_),(320,_),(321,_),(501,_),(1000,_),(1001,_),(1002,_)] ?_
      refine gos hn ?_
      refine Or.inr ?_
      obtain ⟨hg121,h60⟩:=guardM h60
      refine takeM hg121 rfl rfl ?_
      refine COk.seqQ fun _ A12 _ _=>?_
      refine kp [(0,_),(1,_),(4,_),(7,_),(8,_),(10,_),(11,_),(12,_),(13,_),(14,_),(15,_),(16,_),(19,_),(20,_)] [(7,_),(8,_),(10,_),(12,_),(15,_),(20,_),(27,_),(196,_),(205,_),(320,_),(321,_),(1000,_),(1001,_),(1002,_)] ?_
      refine god hn (by kernel_rfl) ?_
      obtain ⟨r122,hr123,h60⟩:=bindM h60
      show CallOk Try.prog _ _ _ _
      refine cA (qcref1_Class_ok N v4 x119 r122 hr123) ?_
      refine A12 _ _ ?_
      refine COk.seqQ fun _ A13 _ _=>?_
      refine kp [(0,_),(1,_),(4,_),(7,_),(8,_),(10,_),(11,_),(12,_),(13,_),(14,_),(15,_),(16,_),(19,_),(20,_),(21,_)] [(7,_),(8,_),(10,_),(12,_),(15,_),(20,_),(27,_),(196,_),(205,_),(320,_),(321,_),(1000,_),(1001,_),(1002,_)] ?_
      refine god hn (by kernel_rfl) ?_
      refine Exists.intro (List.map eSt [(⟨a1,a2.name,v15⟩:St)]) (And.intro (by repeat (first|exact trivial|exact rfl|(refine And.intro ?_ ?_))) ?_)
      obtain ⟨hg124,h60⟩:=guardM h60
      refine appM (l2:=[(⟨a1,a2.name,v15⟩:St)]) hg124 (leLs_refl _) ?_
      refine Exists.intro (List.map eInt [r122]) (And.intro (by repeat (first|exact trivial|exact rfl|(refine And.intro ?_ ?_))) ?_)
      obtain ⟨hg125,h60⟩:=guardM h60
      refine appM (l2:=[r122]) hg125 (leLs_refl _) ?_
      refine A13 _ _ ?_
      refine COk.seqQ fun _ A14 _ _=>?_
      refine kp [(0,_),(1,_),(4,_),(7,_),(8,_),(10,_),(11,_),(12,_),(13,_),(14,_),(15,_),(16,_),(19,_),(20,_),(21,_)] [(7,_),(8,_),(10,_),(12,_),(15,_),(20,_),(27,_),(196,_),(205,_),(225,_),(232,_),(1000,_),(1001,_),(1002,_)] ?_
      refine god hn (by kernel_rfl) ?_
      obtain ⟨r126,hr127,h60⟩:=bindM h60
      show CallOk Try.prog _ _ _ _
      refine cA (qcref1_Find_ok N (⟨v3,v4,v5⟩:Wd) r122 x45.name r126 hr127) ?_
      refine A14 _ _ ?_
      refine COk.seqQ fun _ A15 X15 _=>?_
      refine kp [(0,_),(1,_),(4,_),(7,_),(8,_),(10,_),(11,_),(12,_),(13,_),(14,_),(16,_),(19,_),(20,_),(22,_),(23,_)] [(7,_),(8,_),(10,_),(12,_),(20,_),(27,_),(196,_),(205,_),(225,_),(232,_),(1000,_),(1001,_),(1002,_)] ?_
      refine gos hn ?_
      refine goc hn ?_
      refine bselM h60 (fun hb128 h60=>?_) (fun hb128 h60=>?_)
      ·refine kp [(0,_),(1,_),(4,_),(7,_),(8,_),(10,_),(11,_),(12,_),(13,_),(14,_),(16,_)] [(7,_),(8,_),(10,_),(12,_),(27,_),(205,_),(225,_),(232,_),(1000,_),(1001,_),(1002,_)] ?_
       refine gos hn ?_
       refine goe hn ?_
       refine X15 _ _ _ ?_
       refine E8 _ _ ?_
       refine A7 _ _ ?_
       exact jn ⟨_,sj h60⟩ [(320,225),(321,232),(48,205)]
      refine gok hn ?_
      refine A15 _ _ ?_
      refine kp [(0,_),(1,_),(4,_),(7,_),(8,_),(10,_),(11,_),(12,_),(13,_),(14,_),(16,_),(19,_),(20,_),(22,_),(23,_)] [(7,_),(8,_),(10,_),(12,_),(20,_),(27,_),(196,_),(205,_),(225,_),(232,_),(1000,_),(1001,_),(1002,_)] ?_
      refine god hn (by kernel_rfl) ?_
      obtain ⟨r129,hr130,h60⟩:=bindM h60
      show CallOk Try.prog _ _ _ _
      refine cF ((hgR N (⟨(⟨v3,v4,v5⟩:Wd),v6,v7,v8,v9,v10,(v11++[(⟨a1,a2.name,v15⟩:St)]),(v12++[r122])⟩:TR) r126.1 r126.2 x119 (([]:List V)++(v14.drop ((wr ((v14.length:Int) - x45.a)).toNat))) r129 hr130).swl [(1001,225),(1002,232),(2,508),(3,509)] rfl) ?_
      refine Exists.intro (List.map eV [r129.1]) (And.intro (by repeat (first|exact trivial|exact rfl|(refine And.intro ?_ ?_))) ?_)
      obtain ⟨hg131,h60⟩:=guardM h60
      refine appM (l2:=[r129.1]) hg131 (leLs_refl _) ?_
      refine A8 _ _ ?_
      refine A7 _ _ ?_
      exact jn ⟨_,sj h60⟩ [(320,508),(321,509),(48,261)]
     refine gos hn ?_
     obtain ⟨o136,h135,h60⟩:=bindM h60
     refine jk (ι:={ s // o136=Ctl.next s }) hn (fun s=>[(16,.int s.1.2.2)]) (fun s=>[(501,.row 2 (List.map eV s.1.2.1) 27),(1000,.box [.sl 4 (List.map eCl v3),.sl 2 (List.map eOb v4),.int v5,.int v6,.int v7,.int v8,.int v9,.int s.1.1,.own 320,.own 321] 99)]) [(0,_),(1,_),(4,_),(7,_),(8,_),(10,_),(11,_),(12,_),(13,_),(14,_)] [(7,_),(8,_),(10,_),(12,_),(27,_),(320,_),(321,_),(1001,_),(1002,_)] (fun _ A16 _ R16=>?_) ?_
     ·refine goc hn ?_
      refine bselM h135 (fun hb137 h135=>?_) (fun hb137 h135=>?_)
      ·refine kp [(0,_),(1,_),(4,_),(7,_),(8,_),(10,_),(11,_),(12,_),(13,_),(14,_),(15,_)] [(7,_),(8,_),(10,_),(12,_),(15,_),(27,_),(320,_),(321,_),(501,_),(1000,_),(1001,_),(1002,_)] ?_
       refine gor hn ?_
       refine A16 _ _ ?_
       exact jn ⟨_,sj h135⟩ []
      refine kp [(0,_),(1,_),(4,_),(7,_),(8,_),(10,_),(11,_),(12,_),(13,_),(14,_),(15,_),(16,_),(42,_)] [(7,_),(8,_),(10,_),(12,_),(15,_),(27,_),(320,_),(321,_),(501,_),(1000,_),(1001,_),(1002,_)] ?_
      refine gos hn ?_
      obtain ⟨o142,h141,h135⟩:=bindM h135
      refine jk (ι:={ s // o142=Ctl.next s }) hn (fun s=>[(16,.int s.1.2.2)]) (fun s=>[(12,.box [.own 510] 28),(510,.row 2 (List.map eV s.1.2.1) 27),(1000,.box [.sl 4 (List.map eCl v3),.sl 2 (List.map eOb v4),.int v5,.int v6,.int v7,.int v8,.int v9,.int s.1.1,.own 320,.own 321] 99)]) [(0,_),(1,_),(4,_),(7,_),(8,_),(10,_),(11,_),(12,_),(13,_),(14,_)] [(7,_),(8,_),(10,_),(27,_),(320,_),(321,_),(1001,_),(1002,_)] (fun _ A17 _ R17=>?_) ?_
      ·refine goc hn ?_
       refine bselM h141 (fun hb143 h141=>?_) (fun hb143 h141=>?_)
       ·refine gos hn ?_
        obtain ⟨r144,hr145,h141⟩:=bindM h141
        show CallOk Try.prog _ _ _ _
        refine cA ((((qcref5_R_Body_1_ok N v14 r144 hr145).sw 1000 12).sw 1001 501).sw 2 510) ?_
        refine kp [(0,_),(1,_),(4,_),(7,_),(8,_),(10,_),(11,_),(12,_),(13,_),(14,_),(15,_),(16,_),(24,_)] [(7,_),(8,_),(10,_),(12,_),(15,_),(24,_),(27,_),(320,_),(321,_),(510,_),(1000,_),(1001,_),(1002,_)] ?_
        refine gos hn ?_
        obtain ⟨o149,h148,h141⟩:=bindM h141
        refine jk (ι:={ s // o149=s }) hn (fun s=>[(16,.int s.1.2)]) (fun s=>[(1000,.box [.sl 4 (List.map eCl v3),.sl 2 (List.map eOb v4),.int v5,.int v6,.int v7,.int v8,.int v9,.int s.1.1,.own 320,.own 321] 99)]) [(0,_),(1,_),(4,_),(7,_),(8,_),(10,_),(11,_),(12,_),(13,_),(14,_)] [(7,_),(8,_),(10,_),(12,_),(27,_),(320,_),(321,_),(510,_),(1001,_),(1002,_)] (fun _ A18 _ _=>?_) ?_
        ·refine goc hn ?_
         refine bselM h148 (fun hb150 h148=>?_) (fun hb150 h148=>?_)
         ·refine gor hn ?_
          refine A18 _ _ ?_
          exact jn ⟨_,sj h148⟩ []
         refine gos hn ?_
         obtain ⟨o153,h152,h148⟩:=bindM h148
         refine jk (ι:={ s // o153=s }) hn (fun s=>[]) (fun s=>[(1000,.box [.sl 4 (List.map eCl v3),.sl 2 (List.map eOb v4),.int v5,.int v6,.int v7,.int v8,.int v9,.int s.1,.own 320,.own 321] 99)]) [(0,_),(1,_),(4,_),(7,_),(8,_),(10,_),(11,_),(12,_),(13,_),(14,_),(16,_)] [(7,_),(8,_),(10,_),(12,_),(27,_),(320,_),(321,_),(510,_),(1001,_),(1002,_)] (fun _ A19 _ _=>?_) ?_
         ·refine goc hn ?_
          refine bselM h152 (fun hb154 h152=>?_) (fun hb154 h152=>?_)
          ·refine kp [(0,_),(1,_),(4,_),(7,_),(8,_),(10,_),(11,_),(12,_),(13,_),(14,_),(16,_)] [(7,_),(8,_),(10,_),(12,_),(27,_),(320,_),(321,_),(510,_),(1000,_),(1001,_),(1002,_)] ?_
           refine gor hn ?_
           refine A19 _ _ ?_
           exact jn ⟨_,sj h152⟩ []
          refine gok hn ?_
          refine A19 _ _ ?_
          exact jn ⟨_,sj h152⟩ []
         rintro ⟨v151,hv_⟩
         replace hv_:=hv_.symm
         subst hv_
         refine A18 _ _ ?_
         exact jn ⟨_,sj h148⟩ []
        rintro ⟨⟨v146,v147⟩,rfl⟩
        refine A17 _ _ ?_
        exact jn ⟨_,sj h141⟩ []
       refine gos hn ?_
       refine goc hn ?_
       refine bselM h141 (fun hb155 h141=>?_) (fun hb155 h141=>?_)
       ·refine kp [(0,_),(10,_),(13,_)] [(10,_),(12,_),(320,_),(321,_),(501,_),(1000,_),(1001,_),(1002,_)] ?_
        refine gos hn ?_
        obtain ⟨r156,hr157,h141⟩:=bindM h141
        show CallOk Try.prog _ _ _ _
        refine cA ((((qcref5_R_Body_1_ok N v14 r156 hr157).sw 1000 12).sw 1001 501).sw 2 511) ?_
        refine got hn ?_
        refine R17 _ _ ?_
        refine R16 _ _ ?_
        refine R8 _ _ ?_
        refine R7 _ _ ?_
        refine R6 _ _ ?_
        refine R5 _ _ ?_
        refine R3 _ _ ?_
        refine R2 _ _ ?_
        refine R1 _ _ ?_
        refine R0 _ _ ?_
        obtain rfl:=Option.some.inj h141
        obtain rfl:=Option.some.inj h135
        obtain rfl:=Option.some.inj h60
        obtain rfl:=Option.some.inj h40
        obtain rfl:=Option.some.inj h
        exact ⟨[(2,320),(3,321)],_,fm⟩
       refine gok hn ?_
       refine A17 _ _ ?_
       exact jn ⟨_,sj h141⟩ [(510,501)]
      rintro ⟨⟨v138,v139,v140⟩,rfl⟩
      refine A16 _ _ ?_
      exact jn ⟨_,sj h135⟩ [(501,510)]
     rintro ⟨⟨v132,v133,v134⟩,rfl⟩
     refine A8 _ _ ?_
     refine A7 _ _ ?_
     exact jn ⟨_,sj h60⟩ [(48,501)]
    rintro ⟨⟨v47,v48,v49,v50,v51,v52,v53,v54,v55,v56,v57,v58,v59⟩,rfl⟩
    refine A6 _ _ ?_
    refine COk.seqQ fun _ A20 _ _=>?_
    refine gos hn ?_
    obtain ⟨o161,h160,h40⟩:=bindM h40
    refine jk (ι:={ s // o161=s }) hn (fun s=>[]) (fun s=>[(1000,.box [.sl 4 (List.map eCl v47),.sl 2 (List.map eOb v48),.int v49,.int v50,.int v51,.int s.1.1,.int v53,.int s.1.2,.own 320,.own 321] 99)]) [(0,_),(1,_),(4,_),(7,_),(8,_),(10,_),(11,_),(12,_),(13,_),(16,_)] [(7,_),(8,_),(10,_),(12,_),(27,_),(48,_),(320,_),(321,_),(1001,_),(1002,_)] (fun _ A21 _ _=>?_) ?_
    ·refine goc hn ?_
     refine bselM h160 (fun hb162 h160=>?_) (fun hb162 h160=>?_)
     ·refine gos hn ?_
      refine Or.inr ?_
      refine kp [(0,_),(1,_),(4,_),(7,_),(8,_),(10,_),(11,_),(12,_),(13,_),(16,_)] [(7,_),(8,_),(10,_),(12,_),(27,_),(48,_),(320,_),(321,_),(1000,_),(1001,_),(1002,_)] ?_
      refine gos hn ?_
      obtain ⟨o165,h164,h160⟩:=bindM h160
      refine jk (ι:={ s // o165=s }) hn (fun s=>[]) (fun s=>[(1000,.box [.sl 4 (List.map eCl v47),.sl 2 (List.map eOb v48),.int v49,.int v50,.int v51,.int (wr (v52+(1:Int))),.int v53,.int s.1,.own 320,.own 321] 99)]) [(0,_),(1,_),(4,_),(7,_),(8,_),(10,_),(11,_),(12,_),(13,_),(16,_)] [(7,_),(8,_),(10,_),(12,_),(27,_),(48,_),(320,_),(321,_),(1001,_),(1002,_)] (fun _ A22 _ _=>?_) ?_
      ·refine goc hn ?_
       refine bselM h164 (fun hb166 h164=>?_) (fun hb166 h164=>?_)
       ·refine gor hn ?_
        refine A22 _ _ ?_
        exact jn ⟨_,sj h164⟩ []
       refine gok hn ?_
       refine A22 _ _ ?_
       exact jn ⟨_,sj h164⟩ []
      rintro ⟨v163,hv_⟩
      replace hv_:=hv_.symm
      subst hv_
      refine A21 _ _ ?_
      exact jn ⟨_,sj h160⟩ []
     refine gok hn ?_
     refine A21 _ _ ?_
     exact jn ⟨_,sj h160⟩ []
    rintro ⟨⟨v158,v159⟩,rfl⟩
    refine A20 _ _ ?_
    refine gor hn ?_
    refine A5 _ _ ?_
    refine A3 _ _ ?_
    exact jn ⟨(n43,v47,v48,v49,v50,v51,v158,v53,v159,v55,v56,v57,v58,v59),h40⟩ [(501,48)] (by show n43 < n43+1; omega)
   refine goe hn ?_
   refine X4 _ _ _ ?_
   refine X3 _ _ _ ?_
   refine E2 _ _ ?_
   refine A1 _ _ ?_
   exact jn ⟨_,sj h40⟩ []
 rintro ⟨⟨v29,v30,v31,v32,v33,v34,v35,v36,v37,v38⟩,rfl⟩
 refine A0 _ _ ?_
 refine gos hn ?_
 refine got hn ?_
 obtain rfl:=Option.some.inj h
 exact ⟨[(2,320),(3,321)],_,fm⟩

/- (*qcref5.R).Enter! -/
set_option maxRecDepth 100000 in
theorem qcref5_R_Enter_r_ok (N n:Nat) (a0:TR) (a1:Int) (a2:Int) (a3:V) (a4:(List V)) (r:(V×TR)) (h:qcref5_R_Enter_r N n a0 a1 a2 a3 a4=some r):Spec Try.prog 46 [(1000,.box [.sl 4 (List.map eCl a0.w.classes),.sl 2 (List.map eOb a0.w.heap),.int a0.w.epoch,.int a0.fuel,.int a0.sends,.int a0.turns,.int a0.deep,.int a0.err,.own 1001,.own 1002] 99),(1001,.row 3 (List.map eSt a0.sites) 56),(1002,.row 1 (List.map eInt a0.of) 3)] [.ptr 1000 0,.int a1,.int a2,.agg (eV a3),.sl 2 (List.map eV a4)] (.agg (eV r.1)) [(1000,.box [.sl 4 (List.map eCl r.2.w.classes),.sl 2 (List.map eOb r.2.w.heap),.int r.2.w.epoch,.int r.2.fuel,.int r.2.sends,.int r.2.turns,.int r.2.deep,.int r.2.err,.own 2,.own 3] 99),(2,.row 3 (List.map eSt r.2.sites) 56),(1001,.gone),(3,.row 1 (List.map eInt r.2.of) 3),(1002,.gone)] [2,3]:=by
  induction n generalizing a0 a1 a2 a3 a4 r with
  |zero =>
    have h:(none:Option (V×TR))=some r:=h
    cases h
  |succ n ih=>exact qcref5_R_Enter_f_ok N _ a0 a1 a2 a3 a4 (fun _ y0_ y1_ y2_ y3_ y4_ r h=>qcref5_R_Body_f_ok N _ y0_ y1_ y2_ y3_ y4_ (fun _ x0_ x1_ x2_ x3_ x4_ r h=>ih x0_ x1_ x2_ x3_ x4_ r h) r h) r h

/- (*qcref5.R).Enter!! -/
set_option maxRecDepth 100000 in
theorem qcref5_R_Enter_ok (N:Nat) (a0:TR) (a1:Int) (a2:Int) (a3:V) (a4:(List V)) (r:(V×TR)) (h:qcref5_R_Enter N a0 a1 a2 a3 a4=some r):Spec Try.prog 46 [(1000,.box [.sl 4 (List.map eCl a0.w.classes),.sl 2 (List.map eOb a0.w.heap),.int a0.w.epoch,.int a0.fuel,.int a0.sends,.int a0.turns,.int a0.deep,.int a0.err,.own 1001,.own 1002] 99),(1001,.row 3 (List.map eSt a0.sites) 56),(1002,.row 1 (List.map eInt a0.of) 3)] [.ptr 1000 0,.int a1,.int a2,.agg (eV a3),.sl 2 (List.map eV a4)] (.agg (eV r.1)) [(1000,.box [.sl 4 (List.map eCl r.2.w.classes),.sl 2 (List.map eOb r.2.w.heap),.int r.2.w.epoch,.int r.2.fuel,.int r.2.sends,.int r.2.turns,.int r.2.deep,.int r.2.err,.own 2,.own 3] 99),(2,.row 3 (List.map eSt r.2.sites) 56),(1001,.gone),(3,.row 1 (List.map eInt r.2.of) 3),(1002,.gone)] [2,3]:=by
  exact qcref5_R_Enter_r_ok N N a0 a1 a2 a3 a4 r h

/- qcref5.Run -/
set_option maxRecDepth 100000 in
set_option maxHeartbeats 8000000 in
theorem qcref5_Run_ok (N:Nat) (a0:Wd) (a1:TCall) (a2:Int) (r:(Wd×TRan×TR)) (h:qcref5_Run N a0 a1 a2=some r):Spec Try.prog 15 [] [.agg (eWd a0),.agg (eTCall a1),.int a2] (.tup [.agg (eWd r.1),.agg (eTRan r.2.1),.fp (eTR r.2.2)]) [] []:=by
 refine Spec.of tabOk Try.func15 rfl Try.ntmps15 (by kernel_rfl) rfl rfl rfl fun Γ hn=>?_
 unfold qcref5_Run at h
 refine gos hn ?_
 refine gos hn ?_
 refine COk.seqQ fun _ A0 _ R0=>?_
 refine gos hn ?_
 obtain ⟨r1,hr2,h⟩:=bindM h
 show CallOk Try.prog _ _ _ _
 refine cA (qcref5_WrongCall_ok N a0 a1 a2 r1 hr2) ?_
 refine kp [(3,_),(4,_),(6,_),(7,_),(9,_),(10,_)] [(3,_),(4,_),(6,_),(7,_),(17,_)] ?_
 refine gos hn ?_
 refine goc hn ?_
 refine bselM h (fun hb3 h=>?_) (fun hb3 h=>?_)
 ·refine gos hn ?_
  refine COk.nilrowB 17 8 501 3 56 rfl rfl rfl rfl rfl rfl ?_
  refine COk.nilrowB 17 9 502 1 3 rfl rfl rfl rfl rfl rfl ?_
  refine COk.fzAll 501 rfl ?_
  refine COk.fzAll 502 rfl ?_
  refine COk.gh (Gh.fzBox 8 17 rfl rfl rfl) (fun _=>?_)
  refine got hn ?_
  refine R0 _ _ ?_
  obtain rfl:=Option.some.inj h
  exact ⟨[],_,fm⟩
 refine gok hn ?_
 refine A0 _ _ ?_
 refine COk.seqQ fun _ A1 _ _=>?_
 refine god hn (by kernel_rfl) ?_
 obtain ⟨r4,hr5,h⟩:=bindM h
 show CallOk Try.prog _ _ _ _
 refine cA (qcref1_Class_ok N a0.heap a1.self_ r4 hr5) ?_
 obtain ⟨r6,hr7,h⟩:=bindM h
 show CallOk Try.prog _ _ _ _
 refine cA (qcref1_Find_ok N a0 r4 a1.name r6 hr7) ?_
 refine A1 _ _ ?_
 refine COk.seqQ fun _ A2 _ R2=>?_
 refine kp [(3,_),(4,_),(6,_),(7,_),(9,_),(11,_),(12,_)] [(3,_),(4,_),(6,_),(7,_),(17,_)] ?_
 refine gos hn ?_
 refine goc hn ?_
 refine bselM h (fun hb8 h=>?_) (fun hb8 h=>?_)
 ·refine gos hn ?_
  refine COk.nilrowB 17 8 503 3 56 rfl rfl rfl rfl rfl rfl ?_
  refine COk.nilrowB 17 9 504 1 3 rfl rfl rfl rfl rfl rfl ?_
  refine COk.fzAll 503 rfl ?_
  refine COk.fzAll 504 rfl ?_
  refine COk.gh (Gh.fzBox 8 17 rfl rfl rfl) (fun _=>?_)
  refine got hn ?_
  refine R2 _ _ ?_
  obtain rfl:=Option.some.inj h
  exact ⟨[],_,fm⟩
 refine gok hn ?_
 refine A2 _ _ ?_
 refine COk.nilrowB 17 8 505 3 56 rfl rfl rfl rfl rfl rfl ?_
 refine COk.nilrowB 17 9 506 1 3 rfl rfl rfl rfl rfl rfl ?_
 refine kp [(3,_),(4,_),(6,_),(7,_),(9,_),(11,_),(12,_)] [(3,_),(4,_),(6,_),(7,_),(17,_),(505,_),(506,_)] ?_
 refine gos hn ?_
 obtain ⟨r9,hr10,h⟩:=bindM h
 show CallOk Try.prog _ _ _ _
 refine cA ((qcref5_R_Enter_ok N (⟨a0,a2,(0:Int),(0:Int),(0:Int),(0:Int),([]:List St),([]:List Int)⟩:TR) r6.1 r6.2 a1.self_ a1.args r9 hr10).swl [(1000,17),(1001,505),(1002,506),(2,507),(3,508)] rfl) ?_
 refine COk.seqQ fun _ A3 _ R3=>?_
 refine gos hn ?_
 refine goc hn ?_
 refine bselM h (fun hb11 h=>?_) (fun hb11 h=>?_)
 ·refine COk.seqQ fun _ A4 _ _=>?_
  refine kp [(3,_),(6,_),(7,_),(9,_)] [(3,_),(6,_),(7,_),(17,_),(507,_),(508,_)] ?_
  refine god hn (by kernel_rfl) ?_
  refine A4 _ _ ?_
  refine COk.fzAll 507 rfl ?_
  refine COk.fzAll 508 rfl ?_
  refine COk.gh (Gh.fzBox 8 17 rfl rfl rfl) (fun _=>?_)
  refine got hn ?_
  refine R3 _ _ ?_
  obtain rfl:=Option.some.inj h
  exact ⟨[],_,fm⟩
 refine gok hn ?_
 refine A3 _ _ ?_
 refine COk.seqQ fun _ A5 _ _=>?_
 refine kp [(6,_),(7,_),(9,_),(13,_)] [(6,_),(7,_),(13,_),(17,_),(507,_),(508,_)] ?_
 refine god hn (by kernel_rfl) ?_
 refine A5 _ _ ?_
 refine COk.fzAll 507 rfl ?_
 refine COk.fzAll 508 rfl ?_
 refine COk.gh (Gh.fzBox 8 17 rfl rfl rfl) (fun _=>?_)
 refine got hn ?_
 obtain rfl:=Option.some.inj h
 exact ⟨[],_,fm⟩

/- qcref1.SameCode -/
set_option maxRecDepth 100000 in
set_option maxHeartbeats 8000000 in
theorem qcref1_SameCode_ok (N:Nat) (a0:(List Ins)) (a1:(List Ins)) (r:Bool) (h:qcref1_SameCode N a0 a1=some r):Spec Try.prog 49 [] [.sl 5 (List.map eIns a0),.sl 5 (List.map eIns a1)] (.bool r) [] []:=by
 refine Spec.of tabOk Try.func49 rfl Try.ntmps49 (by kernel_rfl) rfl rfl rfl fun Γ hn=>?_
 unfold qcref1_SameCode at h
 refine gos hn ?_
 refine COk.seqQ fun _ A0 _ R0=>?_
 refine gos hn ?_
 refine lenM (fun _=>?_)
 refine lenM (fun _=>?_)
 refine goc hn ?_
 refine bselM h (fun hb3 h=>?_) (fun hb3 h=>?_)
 ·refine gos hn ?_
  refine got hn ?_
  refine R0 _ _ ?_
  obtain rfl:=Option.some.inj h
  exact ⟨[],_,fm⟩
 refine gok hn ?_
 refine A0 _ _ ?_
 refine COk.seqQ fun _ A1 _ R1=>?_
 refine gos hn ?_
 refine lenM (fun hl4=>?_)
 obtain ⟨o6,h7,h⟩:=bindM h
 refine jk (ι:={ s // o6=Ctl.next s }) hn (fun s=>[]) (fun s=>[]) [] [] (fun _ A2 _ R2=>?_) ?_
 ·refine COk.blkQ fun _ _ E3 _ R3=>?_
  refine lq (ι:={ q:((List Ins)×Nat) // q.1=a0.drop q.2∧qcref1_SameCode_l1 N a1 q.1 q.2=some o6 }) hn (fun q=>[(13,.int (q.1.2:Int))]) (fun q=>[]) (fun q=>q.1.1.length) [(0,_),(1,_),(12,_)] [] ⟨(a0,0),rfl,h7⟩ [] ?_
  rintro ⟨⟨rest_,k5⟩,hd9,h7⟩ _ A4 X4 R4
  replace hd9:rest_=a0.drop k5:=hd9
  rcases rest_ with _|⟨x11,rest8⟩
  ·have hlt13:=restNil hd9
   replace h7:=(qcref1_SameCode_l1.eq_1 _ _ _).symm.trans h7
   refine gos hn ?_
   refine COk.seqQ fun _ _ X5 _=>?_
   refine goc hn ?_
   refine bselF hlt13 ?_
   refine goe hn ?_
   refine X5 _ _ _ ?_
   refine X4 _ _ _ ?_
   refine E3 _ _ ?_
   refine A2 _ _ ?_
   exact jn ⟨_,sj h7⟩ []
  ·obtain ⟨hx12,hd2,hlt13⟩:=restCons hd9
   replace h7:=(qcref1_SameCode_l1.eq_2 _ _ _ _ _).symm.trans h7
   refine gos hn ?_
   refine COk.seqQ fun _ A6 _ _=>?_
   refine goc hn ?_
   refine bselT hlt13 ?_
   refine gok hn ?_
   refine A6 _ _ ?_
   refine COk.seqQ fun _ A7 _ R7=>?_
   refine COk.blkQ fun _ A8 _ _ R8=>?_
   refine gos hn ?_
   refine COk.seqQ fun _ A9 _ _=>?_
   refine god hn (by kernel_rfl) ?_
   refine idxK hx12 ?_
   obtain ⟨x14,hx15,h7⟩:=bindM h7
   refine idxM hx15 ?_
   refine A9 _ _ ?_
   refine goc hn ?_
   refine bselM h7 (fun hb16 h7=>?_) (fun hb16 h7=>?_)
   ·refine gos hn ?_
    refine got hn ?_
    refine R8 _ _ ?_
    refine R7 _ _ ?_
    refine R4 _ _ ?_
    refine R3 _ _ ?_
    refine R2 _ _ ?_
    refine R1 _ _ ?_
    obtain rfl:=Option.some.inj h7
    obtain rfl:=Option.some.inj h
    exact ⟨[],_,fm⟩
   refine gok hn ?_
   refine A8 _ _ ?_
   refine A7 _ _ ?_
   refine gor hn ?_
   refine Or.inl (And.intro (inrK hx12 hl4) ?_)
   refine A4 _ _ ?_
   exact jn ⟨(rest8,k5+1),hd2,h7⟩ [] (by show rest8.length < rest8.length+1; omega)
 rintro ⟨⟨⟩,rfl⟩
 refine A1 _ _ ?_
 refine gos hn ?_
 refine got hn ?_
 obtain rfl:=Option.some.inj h
 exact ⟨[],_,fm⟩

/- qcref1.SameWorld -/
set_option maxRecDepth 100000 in
set_option maxHeartbeats 8000000 in
theorem qcref1_SameWorld_ok (N:Nat) (a0:Wd) (a1:Wd) (r:Bool) (h:qcref1_SameWorld N a0 a1=some r):Spec Try.prog 18 [] [.agg (eWd a0),.agg (eWd a1)] (.bool r) [] []:=by
 refine Spec.of tabOk Try.func18 rfl Try.ntmps18 (by kernel_rfl) rfl rfl rfl fun Γ hn=>?_
 unfold qcref1_SameWorld at h
 refine gos hn ?_
 refine COk.seqQ fun _ A0 _ R0=>?_
 refine COk.seqQ fun _ A1 _ _=>?_
 obtain ⟨o3,h2,h⟩:=bindM h
 refine jk (ι:={ s // o3=s }) hn (fun s=>[(36,.bool s.1)]) (fun s=>[]) [(2,_),(3,_)] [(2,_),(3,_)] (fun _ A2 _ _=>?_) ?_
 ·refine gor hn ?_
  refine bselM h2 (fun hb4 h2=>?_) (fun hb4 h2=>?_)
  ·refine bselT hb4 ?_
   refine bselT hb4 ?_
   refine bselT hb4 ?_
   refine bselT hb4 ?_
   refine bselT hb4 ?_
   refine bselT hb4 ?_
   refine bselT hb4 ?_
   refine A2 _ _ ?_
   exact jn ⟨_,sj h2⟩ []
  refine bselF hb4 ?_
  refine bselF hb4 ?_
  refine lenM (fun _=>?_)
  refine bselF hb4 ?_
  refine bselF hb4 ?_
  refine bselF hb4 ?_
  refine lenM (fun _=>?_)
  refine bselF hb4 ?_
  refine bselF hb4 ?_
  refine bselM h2 (fun hb7 h2=>?_) (fun hb7 h2=>?_)
  ·refine bselT hb7 ?_
   refine bselT hb7 ?_
   refine bselT hb7 ?_
   refine bselT hb7 ?_
   refine bselT hb7 ?_
   refine bselT hb7 ?_
   refine bselT hb7 ?_
   refine A2 _ _ ?_
   exact jn ⟨_,sj h2⟩ []
  refine bselF hb7 ?_
  refine bselF hb7 ?_
  refine lenM (fun _=>?_)
  refine bselF hb7 ?_
  refine bselF hb7 ?_
  refine bselF hb7 ?_
  refine lenM (fun _=>?_)
  refine bselF hb7 ?_
  refine bselF hb7 ?_
  refine A2 _ _ ?_
  exact jn ⟨_,sj h2⟩ []
 rintro ⟨v1,hv_⟩
 replace hv_:=hv_.symm
 subst hv_
 refine A1 _ _ ?_
 refine goc hn ?_
 refine bselM h (fun hb10 h=>?_) (fun hb10 h=>?_)
 ·refine gos hn ?_
  refine got hn ?_
  refine R0 _ _ ?_
  obtain rfl:=Option.some.inj h
  exact ⟨[],_,fm⟩
 refine gok hn ?_
 refine A0 _ _ ?_
 refine COk.seqQ fun _ A3 _ R3=>?_
 refine gos hn ?_
 refine lenM (fun hl11=>?_)
 obtain ⟨o13,h14,h⟩:=bindM h
 refine jk (ι:={ s // o13=Ctl.next s }) hn (fun s=>[]) (fun s=>[]) [(2,_),(3,_)] [(2,_),(3,_)] (fun _ A4 _ R4=>?_) ?_
 ·refine COk.blkQ fun _ _ E5 _ R5=>?_
  refine lq (ι:={ q:((List Cl)×Nat) // q.1=a0.classes.drop q.2∧qcref1_SameWorld_l1 N a1 q.1 q.2=some o13 }) hn (fun q=>[(40,.int (q.1.2:Int))]) (fun q=>[]) (fun q=>q.1.1.length) [(2,_),(3,_),(38,_),(39,_)] [(2,_),(3,_)] ⟨(a0.classes,0),rfl,h14⟩ [] ?_
  rintro ⟨⟨rest_,k12⟩,hd16,h14⟩ _ A6 X6 R6
  replace hd16:rest_=a0.classes.drop k12:=hd16
  rcases rest_ with _|⟨x18,rest15⟩
  ·have hlt20:=restNil hd16
   replace h14:=(qcref1_SameWorld_l1.eq_1 _ _ _).symm.trans h14
   refine gos hn ?_
   refine COk.seqQ fun _ _ X7 _=>?_
   refine goc hn ?_
   refine bselF hlt20 ?_
   refine goe hn ?_
   refine X7 _ _ _ ?_
   refine X6 _ _ _ ?_
   refine E5 _ _ ?_
   refine A4 _ _ ?_
   exact jn ⟨_,sj h14⟩ []
  ·obtain ⟨hx19,hd2,hlt20⟩:=restCons hd16
   replace h14:=(qcref1_SameWorld_l1.eq_2 _ _ _ _ _).symm.trans h14
   refine gos hn ?_
   refine COk.seqQ fun _ A8 _ _=>?_
   refine goc hn ?_
   refine bselT hlt20 ?_
   refine gok hn ?_
   refine A8 _ _ ?_
   refine COk.seqQ fun _ A9 _ R9=>?_
   refine COk.blkQ fun _ A10 _ _ R10=>?_
   refine gos hn ?_
   refine idxK hx19 ?_
   refine gos hn ?_
   obtain ⟨x21,hx22,h14⟩:=bindM h14
   refine idxM hx22 ?_
   refine COk.seqQ fun _ A11 _ R11=>?_
   refine COk.seqQ fun _ A12 _ _=>?_
   obtain ⟨o25,h24,h14⟩:=bindM h14
   refine jk (ι:={ s // o25=s }) hn (fun s=>[(77,.bool s.1)]) (fun s=>[]) [(2,_),(3,_),(6,_),(7,_),(38,_),(39,_),(40,_)] [(2,_),(3,_),(6,_),(7,_)] (fun _ A13 _ _=>?_) ?_
   ·refine kp [(2,_),(3,_),(6,_),(7,_),(38,_),(39,_),(40,_)] [(2,_),(3,_),(6,_),(7,_)] ?_
    refine gor hn ?_
    refine bselM h24 (fun hb26 h24=>?_) (fun hb26 h24=>?_)
    ·refine bselT hb26 ?_
     refine bselT hb26 ?_
     refine bselT hb26 ?_
     refine bselT hb26 ?_
     refine bselT hb26 ?_
     refine A13 _ _ ?_
     exact jn ⟨_,sj h24⟩ []
    refine bselF hb26 ?_
    refine bselF hb26 ?_
    refine bselF hb26 ?_
    refine bselF hb26 ?_
    refine bselF hb26 ?_
    refine bselM h24 (fun hb27 h24=>?_) (fun hb27 h24=>?_)
    ·refine bselT hb27 ?_
     refine bselT hb27 ?_
     refine bselT hb27 ?_
     refine bselT hb27 ?_
     refine bselT hb27 ?_
     refine A13 _ _ ?_
     exact jn ⟨_,sj h24⟩ []
    refine bselF hb27 ?_
    refine bselF hb27 ?_
    refine bselF hb27 ?_
    refine bselF hb27 ?_
    refine bselF hb27 ?_
    refine bselM h24 (fun hb28 h24=>?_) (fun hb28 h24=>?_)
    ·refine bselT hb28 ?_
     refine bselT hb28 ?_
     refine bselT hb28 ?_
     refine bselT hb28 ?_
     refine bselT hb28 ?_
     refine bselT hb28 ?_
     refine bselT hb28 ?_
     refine A13 _ _ ?_
     exact jn ⟨_,sj h24⟩ []
    refine bselF hb28 ?_
    refine bselF hb28 ?_
    refine lenM (fun _=>?_)
    refine bselF hb28 ?_
    refine bselF hb28 ?_
    refine bselF hb28 ?_
    refine lenM (fun _=>?_)
    refine bselF hb28 ?_
    refine bselF hb28 ?_
    refine A13 _ _ ?_
    exact jn ⟨_,sj h24⟩ []
   rintro ⟨v23,hv_⟩
   replace hv_:=hv_.symm
   subst hv_
   refine A12 _ _ ?_
   refine goc hn ?_
   refine bselM h14 (fun hb31 h14=>?_) (fun hb31 h14=>?_)
   ·refine gos hn ?_
    refine got hn ?_
    refine R11 _ _ ?_
    refine R10 _ _ ?_
    refine R9 _ _ ?_
    refine R6 _ _ ?_
    refine R5 _ _ ?_
    refine R4 _ _ ?_
    refine R3 _ _ ?_
    obtain rfl:=Option.some.inj h14
    obtain rfl:=Option.some.inj h
    exact ⟨[],_,fm⟩
   refine gok hn ?_
   refine A11 _ _ ?_
   refine gos hn ?_
   refine lenM (fun hl32=>?_)
   obtain ⟨o34,h35,h14⟩:=bindM h14
   refine jk (ι:={ s // o34=Ctl.next s }) hn (fun s=>[]) (fun s=>[]) [(2,_),(3,_),(38,_),(39,_),(40,_)] [(2,_),(3,_)] (fun _ A14 _ R14=>?_) ?_
   ·refine COk.blkQ fun _ _ E15 _ R15=>?_
    refine lq (ι:={ q:((List Me)×Nat) // q.1=x18.methods.drop q.2∧qcref1_SameWorld_l2 N x21 q.1 q.2=some o34 }) hn (fun q=>[(81,.int (q.1.2:Int))]) (fun q=>[]) (fun q=>q.1.1.length) [(2,_),(3,_),(7,_),(38,_),(39,_),(40,_),(79,_),(80,_)] [(2,_),(3,_),(7,_)] ⟨(x18.methods,0),rfl,h35⟩ [] ?_
    rintro ⟨⟨rest_,k33⟩,hd37,h35⟩ _ A16 X16 R16
    replace hd37:rest_=x18.methods.drop k33:=hd37
    rcases rest_ with _|⟨x39,rest36⟩
    ·have hlt41:=restNil hd37
     replace h35:=(qcref1_SameWorld_l2.eq_1 _ _ _).symm.trans h35
     refine gos hn ?_
     refine COk.seqQ fun _ _ X17 _=>?_
     refine goc hn ?_
     refine bselF hlt41 ?_
     refine goe hn ?_
     refine X17 _ _ _ ?_
     refine X16 _ _ _ ?_
     refine E15 _ _ ?_
     refine A14 _ _ ?_
     exact jn ⟨_,sj h35⟩ []
    ·obtain ⟨hx40,hd2,hlt41⟩:=restCons hd37
     replace h35:=(qcref1_SameWorld_l2.eq_2 _ _ _ _ _).symm.trans h35
     refine gos hn ?_
     refine COk.seqQ fun _ A18 _ _=>?_
     refine goc hn ?_
     refine bselT hlt41 ?_
     refine gok hn ?_
     refine A18 _ _ ?_
     refine COk.seqQ fun _ A19 _ R19=>?_
     refine COk.blkQ fun _ A20 _ _ R20=>?_
     refine gos hn ?_
     refine idxK hx40 ?_
     refine gos hn ?_
     obtain ⟨x42,hx43,h35⟩:=bindM h35
     refine idxM hx43 ?_
     refine COk.seqQ fun _ A21 _ _=>?_
     obtain ⟨o46,h45,h35⟩:=bindM h35
     refine jk (ι:={ s // o46=s }) hn (fun s=>[(124,.bool s.1)]) (fun s=>[]) [(2,_),(3,_),(7,_),(38,_),(39,_),(40,_),(79,_),(80,_),(81,_)] [(2,_),(3,_),(7,_)] (fun _ A22 _ _=>?_) ?_
     ·refine kp [(2,_),(3,_),(7,_),(9,_),(10,_),(38,_),(39,_),(40,_),(79,_),(80,_),(81,_)] [(2,_),(3,_),(7,_),(9,_),(10,_)] ?_
      refine gor hn ?_
      refine bselM h45 (fun hb47 h45=>?_) (fun hb47 h45=>?_)
      ·refine bselT hb47 ?_
       refine bselT hb47 ?_
       refine bselT hb47 ?_
       refine bselT hb47 ?_
       refine bselT hb47 ?_
       refine A22 _ _ ?_
       exact jn ⟨_,sj h45⟩ []
      refine bselF hb47 ?_
      refine bselF hb47 ?_
      refine bselF hb47 ?_
      refine bselF hb47 ?_
      refine bselF hb47 ?_
      refine bselM h45 (fun hb48 h45=>?_) (fun hb48 h45=>?_)
      ·refine bselT hb48 ?_
       refine bselT hb48 ?_
       refine bselT hb48 ?_
       refine bselT hb48 ?_
       refine bselT hb48 ?_
       refine A22 _ _ ?_
       exact jn ⟨_,sj h45⟩ []
      refine bselF hb48 ?_
      refine bselF hb48 ?_
      refine bselF hb48 ?_
      refine bselF hb48 ?_
      refine bselF hb48 ?_
      refine bselM h45 (fun hb49 h45=>?_) (fun hb49 h45=>?_)
      ·refine bselT hb49 ?_
       refine bselT hb49 ?_
       refine bselT hb49 ?_
       refine bselT hb49 ?_
       refine bselT hb49 ?_
       refine A22 _ _ ?_
       exact jn ⟨_,sj h45⟩ []
      refine bselF hb49 ?_
      refine bselF hb49 ?_
      refine bselF hb49 ?_
      refine bselF hb49 ?_
      refine bselF hb49 ?_
      refine bselM h45 (fun hb50 h45=>?_) (fun hb50 h45=>?_)
      ·refine bselT hb50 ?_
       refine bselT hb50 ?_
       refine bselT hb50 ?_
       refine bselT hb50 ?_
       refine bselT hb50 ?_
       refine bselT hb50 ?_
       refine A22 _ _ ?_
       exact jn ⟨_,sj h45⟩ []
      refine bselF hb50 ?_
      refine bselF hb50 ?_
      refine bselF hb50 ?_
      refine bselF hb50 ?_
      obtain ⟨r51,hr52,h45⟩:=bindM h45
      show CallOk Try.prog _ _ _ _
      refine cA (qcref1_SameCode_ok N x39.code x42.code r51 hr52) ?_
      refine bselF hb50 ?_
      refine bselF hb50 ?_
      refine A22 _ _ ?_
      exact jn ⟨_,sj h45⟩ []
     rintro ⟨v44,hv_⟩
     replace hv_:=hv_.symm
     subst hv_
     refine A21 _ _ ?_
     refine goc hn ?_
     refine bselM h35 (fun hb53 h35=>?_) (fun hb53 h35=>?_)
     ·refine gos hn ?_
      refine got hn ?_
      refine R20 _ _ ?_
      refine R19 _ _ ?_
      refine R16 _ _ ?_
      refine R15 _ _ ?_
      refine R14 _ _ ?_
      refine R10 _ _ ?_
      refine R9 _ _ ?_
      refine R6 _ _ ?_
      refine R5 _ _ ?_
      refine R4 _ _ ?_
      refine R3 _ _ ?_
      obtain rfl:=Option.some.inj h35
      obtain rfl:=Option.some.inj h14
      obtain rfl:=Option.some.inj h
      exact ⟨[],_,fm⟩
     refine gok hn ?_
     refine A20 _ _ ?_
     refine A19 _ _ ?_
     refine gor hn ?_
     refine Or.inl (And.intro (inrK hx40 hl32) ?_)
     refine A16 _ _ ?_
     exact jn ⟨(rest36,k33+1),hd2,h35⟩ [] (by show rest36.length < rest36.length+1; omega)
   rintro ⟨⟨⟩,rfl⟩
   refine A10 _ _ ?_
   refine A9 _ _ ?_
   refine gor hn ?_
   refine Or.inl (And.intro (inrK hx19 hl11) ?_)
   refine A6 _ _ ?_
   exact jn ⟨(rest15,k12+1),hd2,h14⟩ [] (by show rest15.length < rest15.length+1; omega)
 rintro ⟨⟨⟩,rfl⟩
 refine A3 _ _ ?_
 refine COk.seqQ fun _ A23 _ R23=>?_
 refine gos hn ?_
 refine lenM (fun hl54=>?_)
 obtain ⟨o56,h57,h⟩:=bindM h
 refine jk (ι:={ s // o56=Ctl.next s }) hn (fun s=>[]) (fun s=>[]) [] [] (fun _ A24 _ R24=>?_) ?_
 ·refine COk.blkQ fun _ _ E25 _ R25=>?_
  refine lq (ι:={ q:((List Ob)×Nat) // q.1=a0.heap.drop q.2∧qcref1_SameWorld_l3 N a1 q.1 q.2=some o56 }) hn (fun q=>[(130,.int (q.1.2:Int))]) (fun q=>[]) (fun q=>q.1.1.length) [(3,_),(128,_),(129,_)] [(3,_)] ⟨(a0.heap,0),rfl,h57⟩ [] ?_
  rintro ⟨⟨rest_,k55⟩,hd59,h57⟩ _ A26 X26 R26
  replace hd59:rest_=a0.heap.drop k55:=hd59
  rcases rest_ with _|⟨x61,rest58⟩
  ·have hlt63:=restNil hd59
   replace h57:=(qcref1_SameWorld_l3.eq_1 _ _ _).symm.trans h57
   refine gos hn ?_
   refine COk.seqQ fun _ _ X27 _=>?_
   refine goc hn ?_
   refine bselF hlt63 ?_
   refine goe hn ?_
   refine X27 _ _ _ ?_
   refine X26 _ _ _ ?_
   refine E25 _ _ ?_
   refine A24 _ _ ?_
   exact jn ⟨_,sj h57⟩ []
  ·obtain ⟨hx62,hd2,hlt63⟩:=restCons hd59
   replace h57:=(qcref1_SameWorld_l3.eq_2 _ _ _ _ _).symm.trans h57
   refine gos hn ?_
   refine COk.seqQ fun _ A28 _ _=>?_
   refine goc hn ?_
   refine bselT hlt63 ?_
   refine gok hn ?_
   refine A28 _ _ ?_
   refine COk.seqQ fun _ A29 _ R29=>?_
   refine COk.blkQ fun _ A30 _ _ R30=>?_
   refine gos hn ?_
   refine idxK hx62 ?_
   refine COk.seqQ fun _ A31 _ R31=>?_
   refine COk.seqQ fun _ A32 _ _=>?_
   obtain ⟨o66,h65,h57⟩:=bindM h57
   refine jk (ι:={ s // o66=s }) hn (fun s=>[(156,.bool s.1)]) (fun s=>[]) [(3,_),(11,_),(12,_),(128,_),(129,_),(130,_)] [(3,_),(12,_)] (fun _ A33 _ _=>?_) ?_
   ·refine kp [(3,_),(11,_),(12,_),(128,_),(129,_),(130,_)] [(3,_),(12,_)] ?_
    refine god hn (by kernel_rfl) ?_
    obtain ⟨x67,hx68,h65⟩:=bindM h65
    refine idxM hx68 ?_
    refine bselM h65 (fun hb69 h65=>?_) (fun hb69 h65=>?_)
    ·refine bselT hb69 ?_
     refine bselT hb69 ?_
     refine bselT hb69 ?_
     refine bselT hb69 ?_
     refine bselT hb69 ?_
     refine bselT hb69 ?_
     refine bselT hb69 ?_
     refine bselT hb69 ?_
     refine bselT hb69 ?_
     refine bselT hb69 ?_
     refine bselT hb69 ?_
     refine A33 _ _ ?_
     exact jn ⟨_,sj h65⟩ []
    refine bselF hb69 ?_
    refine bselF hb69 ?_
    refine lenM (fun _=>?_)
    refine bselF hb69 ?_
    refine bselF hb69 ?_
    refine bselF hb69 ?_
    refine bselF hb69 ?_
    obtain ⟨x71,hx72,h65⟩:=bindM h65
    refine idxM hx72 ?_
    refine bselF hb69 ?_
    refine bselF hb69 ?_
    refine bselF hb69 ?_
    refine lenM (fun _=>?_)
    refine bselF hb69 ?_
    refine bselF hb69 ?_
    refine A33 _ _ ?_
    exact jn ⟨_,sj h65⟩ []
   rintro ⟨v64,hv_⟩
   replace hv_:=hv_.symm
   subst hv_
   refine A32 _ _ ?_
   refine goc hn ?_
   refine bselM h57 (fun hb74 h57=>?_) (fun hb74 h57=>?_)
   ·refine gos hn ?_
    refine got hn ?_
    refine R31 _ _ ?_
    refine R30 _ _ ?_
    refine R29 _ _ ?_
    refine R26 _ _ ?_
    refine R25 _ _ ?_
    refine R24 _ _ ?_
    refine R23 _ _ ?_
    obtain rfl:=Option.some.inj h57
    obtain rfl:=Option.some.inj h
    exact ⟨[],_,fm⟩
   refine gok hn ?_
   refine A31 _ _ ?_
   refine gos hn ?_
   refine lenM (fun hl75=>?_)
   obtain ⟨o77,h78,h57⟩:=bindM h57
   refine jk (ι:={ s // o77=Ctl.next s }) hn (fun s=>[]) (fun s=>[]) [(3,_),(128,_),(129,_),(130,_)] [(3,_)] (fun _ A34 _ R34=>?_) ?_
   ·refine COk.blkQ fun _ _ E35 _ R35=>?_
    refine lq (ι:={ q:((List V)×Nat) // q.1=x61.slots.drop q.2∧qcref1_SameWorld_l4 N a1 k55 q.1 q.2=some o77 }) hn (fun q=>[(160,.int (q.1.2:Int))]) (fun q=>[]) (fun q=>q.1.1.length) [(3,_),(11,_),(12,_),(128,_),(129,_),(130,_),(159,_)] [(3,_),(12,_)] ⟨(x61.slots,0),rfl,h78⟩ [] ?_
    rintro ⟨⟨rest_,k76⟩,hd80,h78⟩ _ A36 X36 R36
    replace hd80:rest_=x61.slots.drop k76:=hd80
    rcases rest_ with _|⟨x82,rest79⟩
    ·have hlt84:=restNil hd80
     replace h78:=(qcref1_SameWorld_l4.eq_1 _ _ _ _).symm.trans h78
     refine gos hn ?_
     refine COk.seqQ fun _ _ X37 _=>?_
     refine goc hn ?_
     refine bselF hlt84 ?_
     refine goe hn ?_
     refine X37 _ _ _ ?_
     refine X36 _ _ _ ?_
     refine E35 _ _ ?_
     refine A34 _ _ ?_
     exact jn ⟨_,sj h78⟩ []
    ·obtain ⟨hx83,hd2,hlt84⟩:=restCons hd80
     replace h78:=(qcref1_SameWorld_l4.eq_2 _ _ _ _ _ _).symm.trans h78
     refine gos hn ?_
     refine COk.seqQ fun _ A38 _ _=>?_
     refine goc hn ?_
     refine bselT hlt84 ?_
     refine gok hn ?_
     refine A38 _ _ ?_
     refine COk.seqQ fun _ A39 _ R39=>?_
     refine COk.blkQ fun _ A40 _ _ R40=>?_
     refine gos hn ?_
     refine COk.seqQ fun _ A41 _ _=>?_
     refine god hn (by kernel_rfl) ?_
     refine idxK hx83 ?_
     obtain ⟨x85,hx86,h78⟩:=bindM h78
     refine idxM hx86 ?_
     obtain ⟨x87,hx88,h78⟩:=bindM h78
     refine idxM hx88 ?_
     refine A41 _ _ ?_
     refine goc hn ?_
     refine bselM h78 (fun hb89 h78=>?_) (fun hb89 h78=>?_)
     ·refine kp [] [] ?_
      refine gos hn ?_
      refine got hn ?_
      refine R40 _ _ ?_
      refine R39 _ _ ?_
      refine R36 _ _ ?_
      refine R35 _ _ ?_
      refine R34 _ _ ?_
      refine R30 _ _ ?_
      refine R29 _ _ ?_
      refine R26 _ _ ?_
      refine R25 _ _ ?_
      refine R24 _ _ ?_
      refine R23 _ _ ?_
      obtain rfl:=Option.some.inj h78
      obtain rfl:=Option.some.inj h57
      obtain rfl:=Option.some.inj h
      exact ⟨[],_,fm⟩
     refine gok hn ?_
     refine A40 _ _ ?_
     refine A39 _ _ ?_
     refine kp [(3,_),(11,_),(12,_),(128,_),(129,_),(130,_),(159,_),(160,_)] [(3,_),(12,_)] ?_
     refine gor hn ?_
     refine Or.inl (And.intro (inrK hx83 hl75) ?_)
     refine A36 _ _ ?_
     exact jn ⟨(rest79,k76+1),hd2,h78⟩ [] (by show rest79.length < rest79.length+1; omega)
   rintro ⟨⟨⟩,rfl⟩
   refine A30 _ _ ?_
   refine A29 _ _ ?_
   refine gor hn ?_
   refine Or.inl (And.intro (inrK hx62 hl54) ?_)
   refine A26 _ _ ?_
   exact jn ⟨(rest58,k55+1),hd2,h57⟩ [] (by show rest58.length < rest58.length+1; omega)
 rintro ⟨⟨⟩,rfl⟩
 refine A23 _ _ ?_
 refine gos hn ?_
 refine got hn ?_
 obtain rfl:=Option.some.inj h
 exact ⟨[],_,fm⟩

/- qcref1.Make -/
set_option maxRecDepth 100000 in
set_option maxHeartbeats 8000000 in
theorem qcref1_Make_ok (N:Nat) (a0:Wd) (a1:ByteArray) (a2:Int) (a3:Int) (r:(Wd×Int×Int)) (h:qcref1_Make N a0 a1 a2 a3=some r):Spec Try.prog 51 [] [.agg (eWd a0),.str a1,.int a2,.int a3] (.tup [.agg (eWd r.1),.int r.2.1,.int r.2.2]) [] []:=by
 refine Spec.of tabOk Try.func51 rfl Try.ntmps51 (by kernel_rfl) rfl rfl rfl fun Γ hn=>?_
 unfold qcref1_Make at h
 refine gos hn ?_
 refine COk.seqQ fun _ A0 _ R0=>?_
 refine gos hn ?_
 obtain ⟨r1,hr2,h⟩:=bindM h
 show CallOk Try.prog _ _ _ _
 refine cA (qcref1_Name_ok N a1 r1 hr2) ?_
 refine goc hn ?_
 refine bselM h (fun hb3 h=>?_) (fun hb3 h=>?_)
 ·refine gos hn ?_
  refine got hn ?_
  refine R0 _ _ ?_
  obtain rfl:=Option.some.inj h
  exact ⟨[],_,fm⟩
 refine gok hn ?_
 refine A0 _ _ ?_
 refine COk.seqQ fun _ A1 _ R1=>?_
 refine gos hn ?_
 refine lenM (fun hl4=>?_)
 obtain ⟨o6,h7,h⟩:=bindM h
 refine jk (ι:={ s // o6=Ctl.next s }) hn (fun s=>[]) (fun s=>[]) [(1,_),(2,_),(3,_),(4,_),(8,_)] [(4,_),(8,_)] (fun _ A2 _ R2=>?_) ?_
 ·refine COk.blkQ fun _ _ E3 _ R3=>?_
  refine lq (ι:={ q:((List Cl)×Nat) // q.1=a0.classes.drop q.2∧qcref1_Make_l1 N a1 q.1 q.2=some o6 }) hn (fun q=>[(21,.int (q.1.2:Int))]) (fun q=>[]) (fun q=>q.1.1.length) [(1,_),(2,_),(3,_),(4,_),(8,_),(19,_),(20,_)] [(4,_),(8,_)] ⟨(a0.classes,0),rfl,h7⟩ [] ?_
  rintro ⟨⟨rest_,k5⟩,hd9,h7⟩ _ A4 X4 R4
  replace hd9:rest_=a0.classes.drop k5:=hd9
  rcases rest_ with _|⟨x11,rest8⟩
  ·have hlt13:=restNil hd9
   replace h7:=(qcref1_Make_l1.eq_1 _ _ _).symm.trans h7
   refine gos hn ?_
   refine COk.seqQ fun _ _ X5 _=>?_
   refine goc hn ?_
   refine bselF hlt13 ?_
   refine goe hn ?_
   refine X5 _ _ _ ?_
   refine X4 _ _ _ ?_
   refine E3 _ _ ?_
   refine A2 _ _ ?_
   exact jn ⟨_,sj h7⟩ []
  ·obtain ⟨hx12,hd2,hlt13⟩:=restCons hd9
   replace h7:=(qcref1_Make_l1.eq_2 _ _ _ _ _).symm.trans h7
   refine gos hn ?_
   refine COk.seqQ fun _ A6 _ _=>?_
   refine goc hn ?_
   refine bselT hlt13 ?_
   refine gok hn ?_
   refine A6 _ _ ?_
   refine COk.seqQ fun _ A7 _ R7=>?_
   refine COk.blkQ fun _ A8 _ _ R8=>?_
   refine gos hn ?_
   refine idxK hx12 ?_
   refine gos hn ?_
   refine goc hn ?_
   refine bselM h7 (fun hb14 h7=>?_) (fun hb14 h7=>?_)
   ·refine gos hn ?_
    refine got hn ?_
    refine R8 _ _ ?_
    refine R7 _ _ ?_
    refine R4 _ _ ?_
    refine R3 _ _ ?_
    refine R2 _ _ ?_
    refine R1 _ _ ?_
    obtain rfl:=Option.some.inj h7
    obtain rfl:=Option.some.inj h
    exact ⟨[],_,fm⟩
   refine gok hn ?_
   refine A8 _ _ ?_
   refine A7 _ _ ?_
   refine gor hn ?_
   refine Or.inl (And.intro (inrK hx12 hl4) ?_)
   refine A4 _ _ ?_
   exact jn ⟨(rest8,k5+1),hd2,h7⟩ [] (by show rest8.length < rest8.length+1; omega)
 rintro ⟨⟨⟩,rfl⟩
 refine A1 _ _ ?_
 refine COk.seqQ fun _ A9 _ R9=>?_
 refine COk.seqQ fun _ A10 _ _=>?_
 obtain ⟨o17,h16,h⟩:=bindM h
 refine jk (ι:={ s // o17=s }) hn (fun s=>[(39,.bool s.1)]) (fun s=>[]) [(1,_),(2,_),(3,_),(4,_),(8,_)] [(4,_),(8,_)] (fun _ A11 _ _=>?_) ?_
 ·refine gor hn ?_
  refine bselM h16 (fun hb18 h16=>?_) (fun hb18 h16=>?_)
  ·refine bselT hb18 ?_
   refine bselT hb18 ?_
   refine bselT hb18 ?_
   refine bselT hb18 ?_
   refine bselT hb18 ?_
   refine A11 _ _ ?_
   exact jn ⟨_,sj h16⟩ []
  refine bselF hb18 ?_
  refine bselF hb18 ?_
  refine bselF hb18 ?_
  refine lenM (fun _=>?_)
  refine bselF hb18 ?_
  refine bselF hb18 ?_
  refine A11 _ _ ?_
  exact jn ⟨_,sj h16⟩ []
 rintro ⟨v15,hv_⟩
 replace hv_:=hv_.symm
 subst hv_
 refine A10 _ _ ?_
 refine goc hn ?_
 refine bselM h (fun hb20 h=>?_) (fun hb20 h=>?_)
 ·refine gos hn ?_
  refine got hn ?_
  refine R9 _ _ ?_
  obtain rfl:=Option.some.inj h
  exact ⟨[],_,fm⟩
 refine gok hn ?_
 refine A9 _ _ ?_
 refine COk.seqQ fun _ A12 _ R12=>?_
 refine COk.seqQ fun _ A13 _ _=>?_
 obtain ⟨o23,h22,h⟩:=bindM h
 refine jk (ι:={ s // o23=s }) hn (fun s=>[(62,.bool s.1)]) (fun s=>[]) [(1,_),(2,_),(3,_),(4,_),(8,_)] [(4,_),(8,_)] (fun _ A14 _ _=>?_) ?_
 ·refine gor hn ?_
  refine bselM h22 (fun hb24 h22=>?_) (fun hb24 h22=>?_)
  ·refine bselT hb24 ?_
   refine bselT hb24 ?_
   refine A14 _ _ ?_
   exact jn ⟨_,sj h22⟩ []
  refine bselF hb24 ?_
  refine bselF hb24 ?_
  refine bselM h22 (fun hb25 h22=>?_) (fun hb25 h22=>?_)
  ·refine bselT hb25 ?_
   refine bselT hb25 ?_
   refine bselT hb25 ?_
   refine bselT hb25 ?_
   refine bselT hb25 ?_
   refine bselT hb25 ?_
   refine A14 _ _ ?_
   exact jn ⟨_,sj h22⟩ []
  refine bselF hb25 ?_
  refine bselF hb25 ?_
  refine bselF hb25 ?_
  obtain ⟨r26,hr27,h22⟩:=bindM h22
  show CallOk Try.prog _ _ _ _
  refine cA (qcref1_Slots_ok N a0 a2 r26 hr27) ?_
  refine bselF hb25 ?_
  refine Or.inr ?_
  refine bselF hb25 ?_
  refine bselF hb25 ?_
  refine bselM h22 (fun hb28 h22=>?_) (fun hb28 h22=>?_)
  ·refine bselT hb28 ?_
   refine bselT hb28 ?_
   refine bselT hb28 ?_
   refine bselT hb28 ?_
   refine A14 _ _ ?_
   exact jn ⟨_,sj h22⟩ []
  refine bselF hb28 ?_
  refine bselF hb28 ?_
  refine bselM h22 (fun hb29 h22=>?_) (fun hb29 h22=>?_)
  ·refine bselT hb29 ?_
   refine bselF hb28 ?_
   refine bselT hb29 ?_
   refine bselF hb28 ?_
   refine A14 _ _ ?_
   exact jn ⟨_,sj h22⟩ []
  refine bselF hb29 ?_
  refine bselF hb28 ?_
  refine bselF hb29 ?_
  refine bselF hb28 ?_
  refine A14 _ _ ?_
  exact jn ⟨_,sj h22⟩ []
 rintro ⟨v21,hv_⟩
 replace hv_:=hv_.symm
 subst hv_
 refine A13 _ _ ?_
 refine goc hn ?_
 refine bselM h (fun hb30 h=>?_) (fun hb30 h=>?_)
 ·refine gos hn ?_
  refine got hn ?_
  refine R12 _ _ ?_
  obtain rfl:=Option.some.inj h
  exact ⟨[],_,fm⟩
 refine gok hn ?_
 refine A12 _ _ ?_
 refine COk.seqQ fun _ A15 _ R15=>?_
 refine gos hn ?_
 refine lenM (fun _=>?_)
 refine goc hn ?_
 refine bselM h (fun hb32 h=>?_) (fun hb32 h=>?_)
 ·refine gos hn ?_
  refine got hn ?_
  refine R15 _ _ ?_
  obtain rfl:=Option.some.inj h
  exact ⟨[],_,fm⟩
 refine gok hn ?_
 refine A15 _ _ ?_
 refine gos hn ?_
 refine lenM (fun _=>?_)
 refine gos hn ?_
 refine Exists.intro (List.map eCl ([]:List Cl)) (And.intro (by repeat (first|exact trivial|exact rfl|(refine And.intro ?_ ?_))) ?_)
 obtain ⟨hg34,h⟩:=guardM h
 refine appM (l2:=a0.classes) hg34 (leLs_refl _) ?_
 refine Exists.intro (List.map eCl [(⟨a1,a2,a3,[]⟩:Cl)]) (And.intro (by repeat (first|exact trivial|exact rfl|(refine And.intro ?_ ?_))) ?_)
 obtain ⟨hg35,h⟩:=guardM h
 refine appM (l2:=[(⟨a1,a2,a3,[]⟩:Cl)]) hg35 (leLs_refl _) ?_
 refine kp [(4,_),(8,_),(13,_)] [(4,_),(8,_),(81,_)] ?_
 refine gos hn ?_
 refine COk.fzAll 81 rfl ?_
 refine got hn ?_
 obtain rfl:=Option.some.inj h
 exact ⟨[],_,fm⟩

/- qcref1.Install -/
set_option maxRecDepth 100000 in
set_option maxHeartbeats 8000000 in
theorem qcref1_Install_ok (N:Nat) (a0:Wd) (a1:Int) (a2:Me) (r:(Wd×Int)) (h:qcref1_Install N a0 a1 a2=some r):Spec Try.prog 52 [] [.agg (eWd a0),.int a1,.agg (eMe a2)] (.tup [.agg (eWd r.1),.int r.2]) [] []:=by
 refine Spec.of tabOk Try.func52 rfl Try.ntmps52 (by kernel_rfl) rfl rfl rfl fun Γ hn=>?_
 unfold qcref1_Install at h
 refine gos hn ?_
 refine COk.seqQ fun _ A0 _ R0=>?_
 refine COk.seqQ fun _ A1 _ _=>?_
 obtain ⟨o3,h2,h⟩:=bindM h
 refine jk (ι:={ s // o3=s }) hn (fun s=>[(21,.bool s.1)]) (fun s=>[]) [(1,_),(3,_),(5,_),(6,_)] [(3,_),(5,_),(6,_)] (fun _ A2 _ _=>?_) ?_
 ·refine gor hn ?_
  refine bselM h2 (fun hb4 h2=>?_) (fun hb4 h2=>?_)
  ·refine bselT hb4 ?_
   refine bselT hb4 ?_
   refine bselT hb4 ?_
   refine bselT hb4 ?_
   refine bselT hb4 ?_
   refine A2 _ _ ?_
   exact jn ⟨_,sj h2⟩ []
  refine bselF hb4 ?_
  refine bselF hb4 ?_
  refine bselF hb4 ?_
  refine lenM (fun _=>?_)
  refine bselF hb4 ?_
  refine bselF hb4 ?_
  refine A2 _ _ ?_
  exact jn ⟨_,sj h2⟩ []
 rintro ⟨v1,hv_⟩
 replace hv_:=hv_.symm
 subst hv_
 refine A1 _ _ ?_
 refine goc hn ?_
 refine bselM h (fun hb6 h=>?_) (fun hb6 h=>?_)
 ·refine gos hn ?_
  refine got hn ?_
  refine R0 _ _ ?_
  obtain rfl:=Option.some.inj h
  exact ⟨[],_,fm⟩
 refine gok hn ?_
 refine A0 _ _ ?_
 refine gos hn ?_
 refine gos hn ?_
 refine COk.seqQ fun _ A3 _ _=>?_
 refine gos hn ?_
 obtain ⟨x7,hx8,h⟩:=bindM h
 refine idxM hx8 ?_
 refine lenM (fun hl9=>?_)
 refine COk.nilrow 8 208 5 54 rfl rfl rfl ?_
 obtain ⟨o20,h21,h⟩:=bindM h
 refine jk (ι:={ s // o20=s }) hn (fun s=>[(9,.bool s.1.2.1),(10,.bool s.1.2.2)]) (fun s=>[(208,.row 5 (List.map eMe s.1.1) 54)]) [(1,_),(3,_),(5,_),(6,_),(8,_)] [(3,_),(5,_),(6,_)] (fun _ A4 _ _=>?_) ?_
 ·refine COk.blkQ fun _ _ E5 _ _=>?_
  refine lq (ι:={ q:((List Me)×Nat×(List Me)×Bool×Bool) // q.1=x7.methods.drop q.2.1∧qcref1_Install_l1 N a2 q.1 q.2.1 q.2.2.1 q.2.2.2.1 q.2.2.2.2=some o20 }) hn (fun q=>[(9,.bool q.1.2.2.2.1),(10,.bool q.1.2.2.2.2),(30,.int (q.1.2.1:Int))]) (fun q=>[(208,.row 5 (List.map eMe q.1.2.2.1) 54)]) (fun q=>q.1.1.length) [(1,_),(3,_),(5,_),(6,_),(8,_),(28,_),(29,_)] [(3,_),(5,_),(6,_)] ⟨(x7.methods,0,([]:List Me),false,false),rfl,h21⟩ [] ?_
  rintro ⟨⟨rest_,k10,v11,v12,v13⟩,hd23,h21⟩ _ A6 X6 _
  replace hd23:rest_=x7.methods.drop k10:=hd23
  rcases rest_ with _|⟨x25,rest22⟩
  ·have hlt27:=restNil hd23
   replace h21:=(qcref1_Install_l1.eq_1 _ _ _ _ _ _).symm.trans h21
   refine gos hn ?_
   refine COk.seqQ fun _ _ X7 _=>?_
   refine goc hn ?_
   refine bselF hlt27 ?_
   refine goe hn ?_
   refine X7 _ _ _ ?_
   refine X6 _ _ _ ?_
   refine E5 _ _ ?_
   refine A4 _ _ ?_
   exact jn ⟨_,sj h21⟩ []
  ·obtain ⟨hx26,hd2,hlt27⟩:=restCons hd23
   replace h21:=(qcref1_Install_l1.eq_2 _ _ _ _ _ _ _ _).symm.trans h21
   refine gos hn ?_
   refine COk.seqQ fun _ A8 _ _=>?_
   refine goc hn ?_
   refine bselT hlt27 ?_
   refine gok hn ?_
   refine A8 _ _ ?_
   refine COk.seqQ fun _ A9 _ _=>?_
   obtain ⟨o32,h31,h21⟩:=bindM h21
   refine jk (ι:={ s // o32=s }) hn (fun s=>[(8,.own 42),(9,.bool s.1.2.1),(10,.bool s.1.2.2)]) (fun s=>[(42,.row 5 (List.map eMe s.1.1) 54)]) [(1,_),(3,_),(5,_),(6,_),(28,_),(29,_),(30,_)] [(3,_),(5,_),(6,_)] (fun _ A10 _ _=>?_) ?_
   ·refine COk.blkQ fun _ A11 E11 _ _=>?_
    refine gos hn ?_
    refine idxK hx26 ?_
    refine COk.seqQ fun _ A12 X12 _=>?_
    refine gos hn ?_
    refine goc hn ?_
    refine bselM h31 (fun hb33 h31=>?_) (fun hb33 h31=>?_)
    ·refine kp [(1,_),(3,_),(5,_),(6,_),(8,_),(28,_),(29,_),(30,_)] [(3,_),(5,_),(6,_),(208,_)] ?_
     refine gos hn ?_
     refine Exists.intro (List.map eMe [a2]) (And.intro (by repeat (first|exact trivial|exact rfl|(refine And.intro ?_ ?_))) ?_)
     obtain ⟨hg34,h31⟩:=guardM h31
     refine appM (l2:=[a2]) hg34 (leLs_refl _) ?_
     refine gos hn ?_
     refine goe hn ?_
     refine X12 _ _ _ ?_
     refine E11 _ _ ?_
     refine A10 _ _ ?_
     exact jn ⟨_,sj h31⟩ []
    refine gok hn ?_
    refine A12 _ _ ?_
    refine COk.seqQ fun _ A13 _ _=>?_
    refine COk.seqQ fun _ A14 _ _=>?_
    obtain ⟨o37,h36,h31⟩:=bindM h31
    refine jk (ι:={ s // o37=s }) hn (fun s=>[(51,.bool s.1)]) (fun s=>[]) [(1,_),(3,_),(5,_),(6,_),(8,_),(9,_),(10,_),(12,_),(28,_),(29,_),(30,_)] [(3,_),(5,_),(6,_),(12,_),(208,_)] (fun _ A15 _ _=>?_) ?_
    ·refine kp [(1,_),(3,_),(5,_),(6,_),(8,_),(9,_),(10,_),(12,_),(28,_),(29,_),(30,_)] [(3,_),(5,_),(6,_),(12,_),(208,_)] ?_
     refine gor hn ?_
     refine bselM h36 (fun hb38 h36=>?_) (fun hb38 h36=>?_)
     ·refine bselT hb38 ?_
      refine bselT hb38 ?_
      refine bselT hb38 ?_
      refine bselT hb38 ?_
      refine bselT hb38 ?_
      refine A15 _ _ ?_
      exact jn ⟨_,sj h36⟩ []
     refine bselF hb38 ?_
     refine bselF hb38 ?_
     refine bselF hb38 ?_
     refine bselF hb38 ?_
     refine bselF hb38 ?_
     refine A15 _ _ ?_
     exact jn ⟨_,sj h36⟩ []
    rintro ⟨v35,hv_⟩
    replace hv_:=hv_.symm
    subst hv_
    refine A14 _ _ ?_
    obtain ⟨o42,h41,h31⟩:=bindM h31
    refine jk (ι:={ s // o42=s }) hn (fun s=>[(8,.own 55),(9,.bool s.1.2)]) (fun s=>[(55,.row 5 (List.map eMe s.1.1) 54)]) [(1,_),(3,_),(5,_),(6,_),(10,_),(12,_),(28,_),(29,_),(30,_)] [(3,_),(5,_),(6,_),(12,_)] (fun _ A16 _ _=>?_) ?_
    ·refine goc hn ?_
     refine bselM h41 (fun hb43 h41=>?_) (fun hb43 h41=>?_)
     ·refine gos hn ?_
      refine Exists.intro (List.map eMe [a2]) (And.intro (by repeat (first|exact trivial|exact rfl|(refine And.intro ?_ ?_))) ?_)
      obtain ⟨hg44,h41⟩:=guardM h41
      refine appM (l2:=[a2]) hg44 (leLs_refl _) ?_
      refine gor hn ?_
      refine A16 _ _ ?_
      exact jn ⟨_,sj h41⟩ []
     refine gok hn ?_
     refine A16 _ _ ?_
     exact jn ⟨_,sj h41⟩ [(55,208)]
    rintro ⟨⟨v39,v40⟩,rfl⟩
    refine A13 _ _ ?_
    refine gor hn ?_
    refine Exists.intro (List.map eMe [x25]) (And.intro (by repeat (first|exact trivial|exact rfl|(refine And.intro ?_ ?_))) ?_)
    obtain ⟨hg45,h31⟩:=guardM h31
    refine appM (l2:=[x25]) hg45 (leLs_refl _) ?_
    refine A11 _ _ ?_
    refine A10 _ _ ?_
    exact jn ⟨_,sj h31⟩ [(42,59)]
   rintro ⟨⟨v28,v29,v30⟩,rfl⟩
   refine A9 _ _ ?_
   refine gor hn ?_
   refine Or.inl (And.intro (inrK hx26 hl9) ?_)
   refine A6 _ _ ?_
   exact jn ⟨(rest22,k10+1,v28,v29,v30),hd2,h21⟩ [(208,42)] (by show rest22.length < rest22.length+1; omega)
 rintro ⟨⟨v17,v18,v19⟩,rfl⟩
 refine A3 _ _ ?_
 refine COk.seqQ fun _ A17 _ _=>?_
 refine gos hn ?_
 obtain ⟨o48,h47,h⟩:=bindM h
 refine jk (ι:={ s // o48=s }) hn (fun s=>[(8,.own 66)]) (fun s=>[(66,.row 5 (List.map eMe s.1) 54)]) [(1,_),(3,_),(6,_),(10,_)] [(3,_),(6,_)] (fun _ A18 _ _=>?_) ?_
 ·refine goc hn ?_
  refine bselM h47 (fun hb49 h47=>?_) (fun hb49 h47=>?_)
  ·refine gor hn ?_
   refine Exists.intro (List.map eMe [a2]) (And.intro (by repeat (first|exact trivial|exact rfl|(refine And.intro ?_ ?_))) ?_)
   obtain ⟨hg50,h47⟩:=guardM h47
   refine appM (l2:=[a2]) hg50 (leLs_refl _) ?_
   refine A18 _ _ ?_
   exact jn ⟨_,sj h47⟩ []
  refine gok hn ?_
  refine A18 _ _ ?_
  exact jn ⟨_,sj h47⟩ [(66,208)]
 rintro ⟨v46,hv_⟩
 replace hv_:=hv_.symm
 subst hv_
 refine A17 _ _ ?_
 refine COk.seqQ fun _ A19 _ R19=>?_
 refine COk.seqQ fun _ A20 _ _=>?_
 obtain ⟨o53,h52,h⟩:=bindM h
 refine jk (ι:={ s // o53=s }) hn (fun s=>[(78,.bool s.1)]) (fun s=>[]) [(1,_),(3,_),(6,_),(8,_)] [(3,_),(6,_),(66,_)] (fun _ A21 _ _=>?_) ?_
 ·refine gor hn ?_
  refine bselM h52 (fun hb54 h52=>?_) (fun hb54 h52=>?_)
  ·refine bselT hb54 ?_
   refine bselT hb54 ?_
   refine bselT hb54 ?_
   obtain ⟨x55,hx56,h52⟩:=bindM h52
   refine idxM hx56 ?_
   refine bselT hb54 ?_
   refine bselT hb54 ?_
   refine bselT hb54 ?_
   refine lenM (fun _=>?_)
   refine bselT hb54 ?_
   refine bselT hb54 ?_
   refine A21 _ _ ?_
   exact jn ⟨_,sj h52⟩ []
  refine bselF hb54 ?_
  refine bselF hb54 ?_
  refine bselF hb54 ?_
  refine bselF hb54 ?_
  refine bselF hb54 ?_
  refine bselF hb54 ?_
  refine bselF hb54 ?_
  refine bselF hb54 ?_
  refine A21 _ _ ?_
  exact jn ⟨_,sj h52⟩ []
 rintro ⟨v51,hv_⟩
 replace hv_:=hv_.symm
 subst hv_
 refine A20 _ _ ?_
 refine goc hn ?_
 refine bselM h (fun hb58 h=>?_) (fun hb58 h=>?_)
 ·refine gos hn ?_
  refine got hn ?_
  refine R19 _ _ ?_
  obtain rfl:=Option.some.inj h
  exact ⟨[],_,fm⟩
 refine gok hn ?_
 refine A19 _ _ ?_
 refine gos hn ?_
 refine Exists.intro (List.map eCl ([]:List Cl)) (And.intro (by repeat (first|exact trivial|exact rfl|(refine And.intro ?_ ?_))) ?_)
 obtain ⟨hg59,h⟩:=guardM h
 refine appM (l2:=a0.classes) hg59 (leLs_refl _) ?_
 refine COk.fzAll 66 rfl ?_
 refine kp [(1,_),(3,_),(6,_),(8,_)] [(3,_),(6,_),(83,_)] ?_
 refine gos hn ?_
 obtain ⟨x60,hx61,h⟩:=bindM h
 refine ownM hx61 ?_
 refine ldM (nthO_some hx61).2 ?_
 refine Exists.intro (List.map eCl ((([]:List Cl)++a0.classes).set a1.toNat (⟨x60.name,x60.super,x60.slots,v46⟩:Cl))) (And.intro (leLs_set (nthO_some hx61).2 (by repeat (first|exact trivial|exact rfl|(refine And.intro ?_ ?_)))) ?_)
 refine gos hn ?_
 refine Or.inr ?_
 refine gos hn ?_
 refine COk.fzAll 83 rfl ?_
 refine got hn ?_
 obtain rfl:=Option.some.inj h
 exact ⟨[],_,fm⟩

/- (*inline.writer).callee -/
set_option maxRecDepth 100000 in
set_option maxHeartbeats 8000000 in
theorem inline_writer_callee_ok (N:Nat) (a0:TWriter) (a1:Int) (a2:ByteArray) (r:((Option Me)×TWriter)) (h:inline_writer_callee N a0 a1 a2=some r):Spec Try.prog 54 [(1000,.box [.fp (eWd a0.w),.fp (eMe a0.m),.own 1001,.int a0.temps,.own 1002,.own 1003] 113),(1001,.row 5 (List.map eIns a0.out) 60),(1002,.row 1 (List.map eInt a0.at_) 3),(1003,.row 1 (List.map eInt a0.fix) 3)] [.ptr 1000 0,.int a1,.str a2] (optP eMe r.1) [(1000,.box [.fp (eWd r.2.w),.fp (eMe r.2.m),.own 2,.int r.2.temps,.own 3,.own 4] 113),(2,.row 5 (List.map eIns r.2.out) 60),(1001,.gone),(3,.row 1 (List.map eInt r.2.at_) 3),(1002,.gone),(4,.row 1 (List.map eInt r.2.fix) 3),(1003,.gone)] [2,3,4]:=by
 refine Spec.of tabOk Try.func54 rfl Try.ntmps54 (by kernel_rfl) rfl rfl rfl fun Γ hn=>?_
 unfold inline_writer_callee at h
 refine COk.reidB 1000 2 1001 320 rfl rfl rfl rfl rfl rfl rfl rfl rfl ?_
 refine COk.reidB 1000 4 1002 321 rfl rfl rfl rfl rfl rfl rfl rfl rfl ?_
 refine COk.reidB 1000 5 1003 322 rfl rfl rfl rfl rfl rfl rfl rfl rfl ?_
 refine gos hn ?_
 refine gos hn ?_
 obtain ⟨r1,hr2,h⟩:=bindM h
 show CallOk Try.prog _ _ _ _
 refine cA (class_Find_ok N a0.w a1 a2 r1 hr2) ?_
 refine COk.seqQ fun _ A0 _ R0=>?_
 refine kp [(0,_),(7,_),(8,_)] [(320,_),(321,_),(322,_),(1000,_),(1001,_),(1002,_),(1003,_)] ?_
 refine gos hn ?_
 refine goc hn ?_
 refine bselM h (fun hb3 h=>?_) (fun hb3 h=>?_)
 ·refine gos hn ?_
  refine got hn ?_
  refine R0 _ _ ?_
  obtain rfl:=Option.some.inj h
  exact ⟨[(2,320),(3,321),(4,322)],_,fm⟩
 refine gok hn ?_
 refine A0 _ _ ?_
 refine gos hn ?_
 obtain ⟨x4,hx5,h⟩:=bindM h
 refine idxM hx5 ?_
 obtain ⟨x6,hx7,h⟩:=bindM h
 refine idxM hx7 ?_
 refine got hn ?_
 obtain rfl:=Option.some.inj h
 exact ⟨[(2,320),(3,321),(4,322)],_,fm⟩

/- slices.IndexFunc[[]api.Instr,api.Instr] -/
set_option maxRecDepth 100000 in
set_option maxHeartbeats 8000000 in
theorem slices_IndexFunc_api_Instr_api_Instr_ok (N:Nat) (a0:(List Ins)) (g1:Ins→Option Bool) {K1:Nat} (hg1:∀x0_ y_,g1 x0_=some y_→Spec Try.prog K1 [] [.agg (eIns x0_)] (.bool y_) [] []) (r:Int) (h:slices_IndexFunc_api_Instr_api_Instr N a0 g1=some r):Spec Try.prog 113 [] [.sl 5 (List.map eIns a0),.fn K1 []] (.int r) [] []:=by
 refine Spec.of tabOk Try.func113 rfl Try.ntmps113 (by kernel_rfl) rfl rfl rfl fun Γ hn=>?_
 unfold slices_IndexFunc_api_Instr_api_Instr at h
 refine gos hn ?_
 refine COk.seqQ fun _ A0 _ R0=>?_
 refine gos hn ?_
 refine lenM (fun hl1=>?_)
 obtain ⟨o3,h4,h⟩:=bindM h
 refine jk (ι:={ s // o3=Ctl.next s }) hn (fun s=>[]) (fun s=>[]) [] [] (fun _ A1 _ R1=>?_) ?_
 ·refine COk.blkQ fun _ _ E2 _ R2=>?_
  refine lq (ι:={ q:((List Ins)×Nat) // q.1=a0.drop q.2∧slices_IndexFunc_api_Instr_api_Instr_l1 N g1 q.1 q.2=some o3 }) hn (fun q=>[(8,.int (q.1.2:Int))]) (fun q=>[]) (fun q=>q.1.1.length) [(0,_),(1,_),(7,_)] [] ⟨(a0,0),rfl,h4⟩ [] ?_
  rintro ⟨⟨rest_,k2⟩,hd6,h4⟩ _ A3 X3 R3
  replace hd6:rest_=a0.drop k2:=hd6
  rcases rest_ with _|⟨x8,rest5⟩
  ·have hlt10:=restNil hd6
   replace h4:=(slices_IndexFunc_api_Instr_api_Instr_l1.eq_1 _ _ _).symm.trans h4
   refine gos hn ?_
   refine COk.seqQ fun _ _ X4 _=>?_
   refine goc hn ?_
   refine bselF hlt10 ?_
   refine goe hn ?_
   refine X4 _ _ _ ?_
   refine X3 _ _ _ ?_
   refine E2 _ _ ?_
   refine A1 _ _ ?_
   exact jn ⟨_,sj h4⟩ []
  ·obtain ⟨hx9,hd2,hlt10⟩:=restCons hd6
   replace h4:=(slices_IndexFunc_api_Instr_api_Instr_l1.eq_2 _ _ _ _ _).symm.trans h4
   refine gos hn ?_
   refine COk.seqQ fun _ A5 _ _=>?_
   refine goc hn ?_
   refine bselT hlt10 ?_
   refine gok hn ?_
   refine A5 _ _ ?_
   refine COk.seqQ fun _ A6 _ R6=>?_
   refine COk.blkQ fun _ A7 _ _ R7=>?_
   refine gos hn ?_
   refine gos hn ?_
   refine idxK hx9 ?_
   obtain ⟨r11,hr12,h4⟩:=bindM h4
   show CallOk Try.prog _ _ _ _
   refine cA (hg1 _ _ hr12) ?_
   refine goc hn ?_
   refine bselM h4 (fun hb13 h4=>?_) (fun hb13 h4=>?_)
   ·refine gos hn ?_
    refine got hn ?_
    refine R7 _ _ ?_
    refine R6 _ _ ?_
    refine R3 _ _ ?_
    refine R2 _ _ ?_
    refine R1 _ _ ?_
    refine R0 _ _ ?_
    obtain rfl:=Option.some.inj h4
    obtain rfl:=Option.some.inj h
    exact ⟨[],_,fm⟩
   refine gok hn ?_
   refine A7 _ _ ?_
   refine A6 _ _ ?_
   refine gor hn ?_
   refine Or.inl (And.intro (inrK hx9 hl1) ?_)
   refine A3 _ _ ?_
   exact jn ⟨(rest5,k2+1),hd2,h4⟩ [] (by show rest5.length < rest5.length+1; omega)
 rintro ⟨⟨⟩,rfl⟩
 refine A0 _ _ ?_
 refine gos hn ?_
 refine got hn ?_
 obtain rfl:=Option.some.inj h
 exact ⟨[],_,fm⟩

/- slices.ContainsFunc[[]api.Instr,api.Instr] -/
set_option maxRecDepth 100000 in
set_option maxHeartbeats 8000000 in
theorem slices_ContainsFunc_api_Instr_api_Instr_ok (N:Nat) (a0:(List Ins)) (g1:Ins→Option Bool) {K1:Nat} (hg1:∀x0_ y_,g1 x0_=some y_→Spec Try.prog K1 [] [.agg (eIns x0_)] (.bool y_) [] []) (r:Bool) (h:slices_ContainsFunc_api_Instr_api_Instr N a0 g1=some r):Spec Try.prog 84 [] [.sl 5 (List.map eIns a0),.fn K1 []] (.bool r) [] []:=by
 refine Spec.of tabOk Try.func84 rfl Try.ntmps84 (by kernel_rfl) rfl rfl rfl fun Γ hn=>?_
 unfold slices_ContainsFunc_api_Instr_api_Instr at h
 refine gos hn ?_
 refine gos hn ?_
 obtain ⟨r1,hr2,h⟩:=bindM h
 show CallOk Try.prog _ _ _ _
 refine cA (slices_IndexFunc_api_Instr_api_Instr_ok N a0 g1 hg1 r1 hr2) ?_
 refine got hn ?_
 obtain rfl:=Option.some.inj h
 exact ⟨[],_,fm⟩

/- choose.Leaf$1 -/
set_option maxRecDepth 100000 in
set_option maxHeartbeats 8000000 in
theorem choose_Leaf_1_ok (N:Nat) (a0:Ins) (r:Bool) (h:choose_Leaf_1 N a0=some r):Spec Try.prog 85 [] [.agg (eIns a0)] (.bool r) [] []:=by
 refine Spec.of tabOk Try.func85 rfl Try.ntmps85 (by kernel_rfl) rfl rfl rfl fun Γ hn=>?_
 unfold choose_Leaf_1 at h
 refine gos hn ?_
 refine COk.seqQ fun _ A0 _ _=>?_
 obtain ⟨o3,h2,h⟩:=bindM h
 refine jk (ι:={ s // o3=s }) hn (fun s=>[(2,.bool s.1)]) (fun s=>[]) [] [] (fun _ A1 _ _=>?_) ?_
 ·refine gor hn ?_
  refine bselM h2 (fun hb4 h2=>?_) (fun hb4 h2=>?_)
  ·refine bselT hb4 ?_
   refine bselT hb4 ?_
   refine bselT hb4 ?_
   refine A1 _ _ ?_
   exact jn ⟨_,sj h2⟩ []
  refine bselF hb4 ?_
  refine bselF hb4 ?_
  refine bselF hb4 ?_
  refine A1 _ _ ?_
  exact jn ⟨_,sj h2⟩ []
 rintro ⟨v1,hv_⟩
 replace hv_:=hv_.symm
 subst hv_
 refine A0 _ _ ?_
 refine got hn ?_
 obtain rfl:=Option.some.inj h
 exact ⟨[],_,fm⟩

/- choose.Leaf -/
set_option maxRecDepth 100000 in
set_option maxHeartbeats 8000000 in
theorem choose_Leaf_ok (N:Nat) (a0:Me) (r:Bool) (h:choose_Leaf N a0=some r):Spec Try.prog 55 [] [.agg (eMe a0)] (.bool r) [] []:=by
 refine Spec.of tabOk Try.func55 rfl Try.ntmps55 (by kernel_rfl) rfl rfl rfl fun Γ hn=>?_
 unfold choose_Leaf at h
 refine gos hn ?_
 refine COk.seqQ fun _ A0 _ _=>?_
 obtain ⟨o3,h2,h⟩:=bindM h
 refine jk (ι:={ s // o3=s }) hn (fun s=>[(2,.bool s.1)]) (fun s=>[]) [] [] (fun _ A1 _ _=>?_) ?_
 ·refine gor hn ?_
  refine bselM h2 (fun hb4 h2=>?_) (fun hb4 h2=>?_)
  ·refine bselT hb4 ?_
   refine bselT hb4 ?_
   obtain ⟨r5,hr6,h2⟩:=bindM h2
   show CallOk Try.prog _ _ _ _
   refine cA (slices_ContainsFunc_api_Instr_api_Instr_ok N a0.code (fun x0_=>choose_Leaf_1 N x0_) (fun x0_ y_ hy_=>choose_Leaf_1_ok N x0_ y_ hy_) r5 hr6) ?_
   refine bselT hb4 ?_
   refine bselT hb4 ?_
   refine A1 _ _ ?_
   exact jn ⟨_,sj h2⟩ []
  refine bselF hb4 ?_
  refine bselF hb4 ?_
  refine bselF hb4 ?_
  refine bselF hb4 ?_
  refine A1 _ _ ?_
  exact jn ⟨_,sj h2⟩ []
 rintro ⟨v1,hv_⟩
 replace hv_:=hv_.symm
 subst hv_
 refine A0 _ _ ?_
 refine got hn ?_
 obtain rfl:=Option.some.inj h
 exact ⟨[],_,fm⟩

/- inline.size -/
set_option maxRecDepth 100000 in
set_option maxHeartbeats 8000000 in
theorem inline_size_ok (N:Nat) (a0:Me) (r:Int) (h:inline_size N a0=some r):Spec Try.prog 56 [] [.fp (eMe a0)] (.int r) [] []:=by
 refine Spec.of tabOk Try.func56 rfl Try.ntmps56 (by kernel_rfl) rfl rfl rfl fun Γ hn=>?_
 unfold inline_size at h
 refine gos hn ?_
 refine COk.seqQ fun _ A0 _ _=>?_
 refine kp [(0,_)] [] ?_
 refine god hn (by kernel_rfl) ?_
 refine Or.inr ?_
 refine Or.inr ?_
 refine Or.inr ?_
 refine lenM (fun _=>?_)
 refine Or.inr ?_
 refine A0 _ _ ?_
 refine got hn ?_
 obtain rfl:=Option.some.inj h
 exact ⟨[],_,fm⟩

/- (*inline.writer).put -/
set_option maxRecDepth 100000 in
set_option maxHeartbeats 8000000 in
theorem inline_writer_put_ok (N:Nat) (a0:TWriter) (a1:Int) (a2:Int) (a3:Int) (a4:Int) (r:TWriter) (h:inline_writer_put N a0 a1 a2 a3 a4=some r):Spec Try.prog 86 [(1000,.box [.fp (eWd a0.w),.fp (eMe a0.m),.own 1001,.int a0.temps,.own 1002,.own 1003] 113),(1001,.row 5 (List.map eIns a0.out) 60),(1002,.row 1 (List.map eInt a0.at_) 3),(1003,.row 1 (List.map eInt a0.fix) 3)] [.ptr 1000 0,.int a1,.int a2,.int a3,.int a4] (.tup []) [(1000,.box [.fp (eWd r.w),.fp (eMe r.m),.own 2,.int r.temps,.own 3,.own 4] 113),(2,.row 5 (List.map eIns r.out) 60),(1001,.gone),(3,.row 1 (List.map eInt r.at_) 3),(1002,.gone),(4,.row 1 (List.map eInt r.fix) 3),(1003,.gone)] [2,3,4]:=by
 refine Spec.of tabOk Try.func86 rfl Try.ntmps86 (by kernel_rfl) rfl rfl rfl fun Γ hn=>?_
 unfold inline_writer_put at h
 refine COk.reidB 1000 2 1001 320 rfl rfl rfl rfl rfl rfl rfl rfl rfl ?_
 refine COk.reidB 1000 4 1002 321 rfl rfl rfl rfl rfl rfl rfl rfl rfl ?_
 refine COk.reidB 1000 5 1003 322 rfl rfl rfl rfl rfl rfl rfl rfl rfl ?_
 refine gor hn ?_
 refine Exists.intro (List.map eIns [(⟨a1,a2,a3,a4,ByteArray.empty⟩:Ins)]) (And.intro (by repeat (first|exact trivial|exact rfl|(refine And.intro ?_ ?_))) ?_)
 obtain ⟨hg1,h⟩:=guardM h
 refine appM (l2:=[(⟨a1,a2,a3,a4,ByteArray.empty⟩:Ins)]) hg1 (leLs_refl _) ?_
 obtain rfl:=Option.some.inj h
 exact ⟨[(2,21),(3,321),(4,322)],_,fm⟩

/- (*inline.writer).send -/
set_option maxRecDepth 100000 in
set_option maxHeartbeats 8000000 in
theorem inline_writer_send_ok (N:Nat) (a0:TWriter) (a1:Int) (a2:Int) (a3:Ins) (a4:Me) (r:TWriter) (h:inline_writer_send N a0 a1 a2 a3 a4=some r):Spec Try.prog 57 [(1000,.box [.fp (eWd a0.w),.fp (eMe a0.m),.own 1001,.int a0.temps,.own 1002,.own 1003] 113),(1001,.row 5 (List.map eIns a0.out) 60),(1002,.row 1 (List.map eInt a0.at_) 3),(1003,.row 1 (List.map eInt a0.fix) 3)] [.ptr 1000 0,.int a1,.int a2,.agg (eIns a3),.fp (eMe a4)] (.tup []) [(1000,.box [.fp (eWd r.w),.fp (eMe r.m),.own 2,.int r.temps,.own 3,.own 4] 113),(2,.row 5 (List.map eIns r.out) 60),(1001,.gone),(3,.row 1 (List.map eInt r.at_) 3),(1002,.gone),(4,.row 1 (List.map eInt r.fix) 3),(1003,.gone)] [2,3,4]:=by
 refine Spec.of tabOk Try.func57 rfl Try.ntmps57 (by kernel_rfl) rfl rfl rfl fun Γ hn=>?_
 unfold inline_writer_send at h
 refine COk.reidB 1000 2 1001 320 rfl rfl rfl rfl rfl rfl rfl rfl rfl ?_
 refine COk.reidB 1000 4 1002 321 rfl rfl rfl rfl rfl rfl rfl rfl rfl ?_
 refine COk.reidB 1000 5 1003 322 rfl rfl rfl rfl rfl rfl rfl rfl rfl ?_
 refine gos hn ?_
 refine gos hn ?_
 refine COk.seqQ fun _ A0 _ _=>?_
 refine kp [(0,_),(1,_),(2,_),(4,_),(8,_),(10,_)] [(8,_),(320,_),(321,_),(322,_),(1000,_),(1001,_),(1002,_),(1003,_)] ?_
 refine god hn (by kernel_rfl) ?_
 refine Or.inr ?_
 refine Or.inr ?_
 refine Or.inr ?_
 refine A0 _ _ ?_
 refine kp [(0,_),(1,_),(2,_),(4,_),(8,_),(10,_)] [(8,_),(320,_),(321,_),(322,_),(1000,_),(1001,_),(1002,_),(1003,_)] ?_
 refine gos hn ?_
 obtain ⟨r1,hr2,h⟩:=bindM h
 show CallOk Try.prog _ _ _ _
 refine cA ((inline_writer_put_ok N (⟨a0.w,a0.m,a0.out,(wr (a0.temps+(wr ((wr ((1:Int)+a4.args))+a4.temps)))),a0.at_,a0.fix⟩:TWriter) (18:Int) a1 a3.a a2 r1 hr2).swl [(1001,320),(1002,321),(1003,322),(2,501),(3,502),(4,503)] rfl) ?_
 refine gos hn ?_
 obtain ⟨r3,hr4,h⟩:=bindM h
 show CallOk Try.prog _ _ _ _
 refine cA ((inline_writer_put_ok N (⟨r1.w,r1.m,r1.out,r1.temps,r1.at_,r1.fix⟩:TWriter) (21:Int) (0:Int) (0:Int) (0:Int) r3 hr4).swl [(1001,501),(1002,502),(1003,503),(2,504),(3,505),(4,506)] rfl) ?_
 refine COk.seqQ fun _ A1 _ _=>?_
 refine gos hn ?_
 obtain ⟨o26,h27,h⟩:=bindM h
 refine jk (ι:={ s // o26=s }) hn (fun s=>[]) (fun s=>[(504,.row 5 (List.map eIns s.1.2.2.1) 60),(505,.row 1 (List.map eInt s.1.2.2.2.2.1) 3),(506,.row 1 (List.map eInt s.1.2.2.2.2.2) 3),(1000,.box [.fp (eWd s.1.1),.fp (eMe s.1.2.1),.own 504,.int s.1.2.2.2.1,.own 505,.own 506] 113)]) [(0,_),(4,_),(10,_)] [(1001,_),(1002,_),(1003,_)] (fun _ A2 _ _=>?_) ?_
 ·refine COk.blkQ fun _ _ E3 _ _=>?_
  refine lq (ι:={ q:(Nat×Wd×Me×(List Ins)×Int×(List Int)×(List Int)×Int) // inline_writer_send_l1 N a0 q.1 q.2.1 q.2.2.1 q.2.2.2.1 q.2.2.2.2.1 q.2.2.2.2.2.1 q.2.2.2.2.2.2.1 q.2.2.2.2.2.2.2=some o26 }) hn (fun q=>[(11,.int q.1.2.2.2.2.2.2.2)]) (fun q=>[(504,.row 5 (List.map eIns q.1.2.2.2.1) 60),(505,.row 1 (List.map eInt q.1.2.2.2.2.2.1) 3),(506,.row 1 (List.map eInt q.1.2.2.2.2.2.2.1) 3),(1000,.box [.fp (eWd q.1.2.1),.fp (eMe q.1.2.2.1),.own 504,.int q.1.2.2.2.2.1,.own 505,.own 506] 113)]) (fun q=>q.1.1) [(0,_),(4,_),(10,_)] [(1001,_),(1002,_),(1003,_)] ⟨(N,r3.w,r3.m,r3.out,r3.temps,r3.at_,r3.fix,a4.args),h27⟩ [] ?_
  rintro ⟨⟨n_,v6,v7,v8,v9,v10,v11,v12⟩,h27⟩ _ A4 X4 _
  rcases n_ with _|n30
  ·rw [inline_writer_send_l1.eq_1] at h27
   cases h27
  ·replace h27:=(inline_writer_send_l1.eq_2 _ _ _ _ _ _ _ _ _ _).symm.trans h27
   refine COk.seqQ fun _ A5 X5 _=>?_
   refine gos hn ?_
   refine goc hn ?_
   refine bselM h27 (fun hb31 h27=>?_) (fun hb31 h27=>?_)
   ·refine gok hn ?_
    refine A5 _ _ ?_
    refine COk.seqQ fun _ A6 _ _=>?_
    refine COk.blkQ fun _ A7 _ _ _=>?_
    refine gor hn ?_
    refine Or.inr ?_
    obtain ⟨r32,hr33,h27⟩:=bindM h27
    show CallOk Try.prog _ _ _ _
    refine cA ((inline_writer_put_ok N (⟨v6,v7,v8,v9,v10,v11⟩:TWriter) (11:Int) (wr (a0.temps+v12)) (0:Int) (0:Int) r32 hr33).swl [(1001,504),(1002,505),(1003,506),(2,507),(3,508),(4,509)] rfl) ?_
    refine A7 _ _ ?_
    refine A6 _ _ ?_
    refine gor hn ?_
    refine Or.inr ?_
    refine A4 _ _ ?_
    exact jn ⟨(n30,r32.w,r32.m,r32.out,r32.temps,r32.at_,r32.fix,(wr (v12 - (1:Int)))),h27⟩ [(504,507),(505,508),(506,509)] (by show n30 < n30+1; omega)
   refine goe hn ?_
   refine X5 _ _ _ ?_
   refine X4 _ _ _ ?_
   refine E3 _ _ ?_
   refine A2 _ _ ?_
   exact jn ⟨_,sj h27⟩ []
 rintro ⟨⟨v20,v21,v22,v23,v24,v25⟩,rfl⟩
 refine A1 _ _ ?_
 refine COk.seqQ fun _ A8 _ _=>?_
 refine gos hn ?_
 refine COk.rng 61 rfl (fun hrn=>?_)
 obtain ⟨o53,h54,h⟩:=bindM h
 refine jk (ι:={ s // o53=s }) hn (fun s=>[]) (fun s=>[(504,.row 5 (List.map eIns s.1.2.2.1) 60),(505,.row 1 (List.map eInt s.1.2.2.2.2.1) 3),(506,.row 1 (List.map eInt s.1.2.2.2.2.2) 3),(1000,.box [.fp (eWd s.1.1),.fp (eMe s.1.2.1),.own 504,.int s.1.2.2.2.1,.own 505,.own 506] 113)]) [(0,_),(4,_),(10,_)] [(1001,_),(1002,_),(1003,_)] (fun _ A9 _ _=>?_) ?_
 ·refine COk.blkQ fun _ _ E10 _ _=>?_
  refine lq (ι:={ q:(Nat×Nat×Wd×Me×(List Ins)×Int×(List Int)×(List Int)) // q.1=(a4.temps - (q.2.1:Int)).toNat∧inline_writer_send_l2 N a0 a4 q.1 q.2.1 q.2.2.1 q.2.2.2.1 q.2.2.2.2.1 q.2.2.2.2.2.1 q.2.2.2.2.2.2.1 q.2.2.2.2.2.2.2=some o53 }) hn (fun q=>[(62,.int (q.1.2.1:Int))]) (fun q=>[(504,.row 5 (List.map eIns q.1.2.2.2.2.1) 60),(505,.row 1 (List.map eInt q.1.2.2.2.2.2.2.1) 3),(506,.row 1 (List.map eInt q.1.2.2.2.2.2.2.2) 3),(1000,.box [.fp (eWd q.1.2.2.1),.fp (eMe q.1.2.2.2.1),.own 504,.int q.1.2.2.2.2.2.1,.own 505,.own 506] 113)]) (fun q=>q.1.1) [(0,_),(4,_),(10,_),(61,_)] [(1001,_),(1002,_),(1003,_)] ⟨((a4.temps - ((0:Nat):Int)).toNat,0,v20,v21,v22,v23,v24,v25),rfl,h54⟩ [] ?_
  rintro ⟨⟨n_,k34,v35,v36,v37,v38,v39,v40⟩,hd56,h54⟩ _ A11 X11 _
  replace hd56:n_=(a4.temps - (k34:Int)).toNat:=hd56
  rcases n_ with _|n57
  ·have hlt60:=upNil hd56
   replace h54:=(inline_writer_send_l2.eq_1 _ _ _ _ _ _ _ _ _ _).symm.trans h54
   refine gos hn ?_
   refine COk.seqQ fun _ _ X12 _=>?_
   refine goc hn ?_
   refine bselF hlt60 ?_
   refine goe hn ?_
   refine X12 _ _ _ ?_
   refine X11 _ _ _ ?_
   refine E10 _ _ ?_
   refine A9 _ _ ?_
   exact jn ⟨_,sj h54⟩ []
  ·obtain ⟨hd2,hlt60⟩:=upCons hd56
   replace h54:=(inline_writer_send_l2.eq_2 _ _ _ _ _ _ _ _ _ _ _).symm.trans h54
   refine gos hn ?_
   refine COk.seqQ fun _ A13 _ _=>?_
   refine goc hn ?_
   refine bselT hlt60 ?_
   refine gok hn ?_
   refine A13 _ _ ?_
   refine COk.seqQ fun _ A14 _ _=>?_
   refine COk.blkQ fun _ A15 _ _ _=>?_
   refine gos hn ?_
   refine gos hn ?_
   obtain ⟨r61,hr62,h54⟩:=bindM h54
   show CallOk Try.prog _ _ _ _
   refine cA ((inline_writer_put_ok N (⟨v35,v36,v37,v38,v39,v40⟩:TWriter) (6:Int) (0:Int) (0:Int) (0:Int) r61 hr62).swl [(1001,504),(1002,505),(1003,506),(2,510),(3,511),(4,512)] rfl) ?_
   refine gor hn ?_
   refine Or.inr ?_
   refine Or.inr ?_
   refine Or.inr ?_
   obtain ⟨r63,hr64,h54⟩:=bindM h54
   show CallOk Try.prog _ _ _ _
   refine cA ((inline_writer_put_ok N (⟨r61.w,r61.m,r61.out,r61.temps,r61.at_,r61.fix⟩:TWriter) (11:Int) (wr ((wr ((wr (a0.temps+(1:Int)))+a4.args))+(k34:Int))) (0:Int) (0:Int) r63 hr64).swl [(1001,510),(1002,511),(1003,512),(2,513),(3,514),(4,515)] rfl) ?_
   refine A15 _ _ ?_
   refine A14 _ _ ?_
   refine kp [(0,_),(4,_),(10,_),(61,_),(62,_)] [(513,_),(514,_),(515,_),(1000,_),(1001,_),(1002,_),(1003,_)] ?_
   refine gor hn ?_
   refine Or.inl (And.intro (inrU hlt60 hrn) ?_)
   refine A11 _ _ ?_
   exact jn ⟨(n57,k34+1,r63.w,r63.m,r63.out,r63.temps,r63.at_,r63.fix),hd2,h54⟩ [(504,513),(505,514),(506,515)] (by show n57 < n57+1; omega)
 rintro ⟨⟨v47,v48,v49,v50,v51,v52⟩,rfl⟩
 refine A8 _ _ ?_
 refine gos hn ?_
 refine lenM (fun _=>?_)
 refine gos hn ?_
 refine lenM (fun hl66=>?_)
 obtain ⟨o86,h87,h⟩:=bindM h
 refine jk (ι:={ s // o86=s }) hn (fun s=>[]) (fun s=>[(504,.row 5 (List.map eIns s.1.2.2.1) 60),(505,.row 1 (List.map eInt s.1.2.2.2.2.1) 3),(506,.row 1 (List.map eInt s.1.2.2.2.2.2) 3),(1000,.box [.fp (eWd s.1.1),.fp (eMe s.1.2.1),.own 504,.int s.1.2.2.2.1,.own 505,.own 506] 113)]) [(0,_)] [(1001,_),(1002,_),(1003,_)] (fun _ A16 _ _=>?_) ?_
 ·refine COk.blkQ fun _ _ E17 _ _=>?_
  refine lq (ι:={ q:((List Ins)×Nat×Wd×Me×(List Ins)×Int×(List Int)×(List Int)) // q.1=a4.code.drop q.2.1∧inline_writer_send_l3 N a0 a4 v49 q.1 q.2.1 q.2.2.1 q.2.2.2.1 q.2.2.2.2.1 q.2.2.2.2.2.1 q.2.2.2.2.2.2.1 q.2.2.2.2.2.2.2=some o86 }) hn (fun q=>[(89,.int (q.1.2.1:Int))]) (fun q=>[(504,.row 5 (List.map eIns q.1.2.2.2.2.1) 60),(505,.row 1 (List.map eInt q.1.2.2.2.2.2.2.1) 3),(506,.row 1 (List.map eInt q.1.2.2.2.2.2.2.2) 3),(1000,.box [.fp (eWd q.1.2.2.1),.fp (eMe q.1.2.2.2.1),.own 504,.int q.1.2.2.2.2.2.1,.own 505,.own 506] 113)]) (fun q=>q.1.1.length) [(0,_),(4,_),(10,_),(13,_),(87,_),(88,_)] [(1001,_),(1002,_),(1003,_)] ⟨(a4.code,0,v47,v48,v49,v50,v51,v52),rfl,h87⟩ [] ?_
  rintro ⟨⟨rest_,k67,v68,v69,v70,v71,v72,v73⟩,hd89,h87⟩ _ A18 X18 _
  replace hd89:rest_=a4.code.drop k67:=hd89
  rcases rest_ with _|⟨x91,rest88⟩
  ·have hlt93:=restNil hd89
   replace h87:=(inline_writer_send_l3.eq_1 _ _ _ _ _ _ _ _ _ _ _).symm.trans h87
   refine gos hn ?_
   refine COk.seqQ fun _ _ X19 _=>?_
   refine goc hn ?_
   refine bselF hlt93 ?_
   refine goe hn ?_
   refine X19 _ _ _ ?_
   refine X18 _ _ _ ?_
   refine E17 _ _ ?_
   refine A16 _ _ ?_
   exact jn ⟨_,sj h87⟩ []
  ·obtain ⟨hx92,hd2,hlt93⟩:=restCons hd89
   replace h87:=(inline_writer_send_l3.eq_2 _ _ _ _ _ _ _ _ _ _ _ _ _).symm.trans h87
   refine gos hn ?_
   refine COk.seqQ fun _ A20 _ _=>?_
   refine goc hn ?_
   refine bselT hlt93 ?_
   refine gok hn ?_
   refine A20 _ _ ?_
   refine COk.seqQ fun _ A21 _ _=>?_
   obtain ⟨o101,h100,h87⟩:=bindM h87
   refine jk (ι:={ s // o101=s }) hn (fun s=>[]) (fun s=>[(516,.row 5 (List.map eIns s.1.2.2.1) 60),(517,.row 1 (List.map eInt s.1.2.2.2.2.1) 3),(518,.row 1 (List.map eInt s.1.2.2.2.2.2) 3),(1000,.box [.fp (eWd s.1.1),.fp (eMe s.1.2.1),.own 516,.int s.1.2.2.2.1,.own 517,.own 518] 113)]) [(0,_),(4,_),(10,_),(13,_),(87,_),(88,_),(89,_)] [(1001,_),(1002,_),(1003,_)] (fun _ A22 _ _=>?_) ?_
   ·refine COk.blkQ fun _ A23 _ _ _=>?_
    refine gos hn ?_
    refine idxK hx92 ?_
    refine gos hn ?_
    obtain ⟨o109,h108,h100⟩:=bindM h100
    refine jk (ι:={ s // o109=s }) hn (fun s=>[]) (fun s=>[(516,.row 5 (List.map eIns s.1.2.2.1) 60),(517,.row 1 (List.map eInt s.1.2.2.2.2.1) 3),(518,.row 1 (List.map eInt s.1.2.2.2.2.2) 3),(1000,.box [.fp (eWd s.1.1),.fp (eMe s.1.2.1),.own 516,.int s.1.2.2.2.1,.own 517,.own 518] 113)]) [(0,_),(4,_),(10,_),(13,_),(87,_),(88,_),(89,_)] [(1001,_),(1002,_),(1003,_)] (fun _ A24 _ _=>?_) ?_
    ·refine COk.blkQ fun _ A25 _ _ _=>?_
     refine gos hn ?_
     obtain ⟨o117,h116,h108⟩:=bindM h108
     refine jk (ι:={ s // o117=s }) hn (fun s=>[]) (fun s=>[(516,.row 5 (List.map eIns s.1.2.2.1) 60),(517,.row 1 (List.map eInt s.1.2.2.2.2.1) 3),(518,.row 1 (List.map eInt s.1.2.2.2.2.2) 3),(1000,.box [.fp (eWd s.1.1),.fp (eMe s.1.2.1),.own 516,.int s.1.2.2.2.1,.own 517,.own 518] 113)]) [(0,_),(4,_),(10,_),(13,_),(87,_),(88,_),(89,_)] [(1001,_),(1002,_),(1003,_)] (fun _ A26 _ _=>?_) ?_
     ·refine goc hn ?_
      refine bselM h116 (fun hb118 h116=>?_) (fun hb118 h116=>?_)
      ·refine gor hn ?_
       obtain ⟨r119,hr120,h116⟩:=bindM h116
       show CallOk Try.prog _ _ _ _
       refine cA ((inline_writer_put_ok N (⟨v68,v69,v70,v71,v72,v73⟩:TWriter) (3:Int) a0.temps (0:Int) (0:Int) r119 hr120).swl [(1001,504),(1002,505),(1003,506),(2,516),(3,517),(4,518)] rfl) ?_
       refine A26 _ _ ?_
       exact jn ⟨_,sj h116⟩ []
      refine gos hn ?_
      obtain ⟨o128,h127,h116⟩:=bindM h116
      refine jk (ι:={ s // o128=s }) hn (fun s=>[]) (fun s=>[(519,.row 5 (List.map eIns s.1.2.2.1) 60),(520,.row 1 (List.map eInt s.1.2.2.2.2.1) 3),(521,.row 1 (List.map eInt s.1.2.2.2.2.2) 3),(1000,.box [.fp (eWd s.1.1),.fp (eMe s.1.2.1),.own 519,.int s.1.2.2.2.1,.own 520,.own 521] 113)]) [(0,_),(4,_),(10,_),(13,_),(87,_),(88,_),(89,_)] [(1001,_),(1002,_),(1003,_)] (fun _ A27 _ _=>?_) ?_
      ·refine goc hn ?_
       refine bselM h127 (fun hb129 h127=>?_) (fun hb129 h127=>?_)
       ·refine kp [(0,_),(4,_),(10,_),(13,_),(15,_),(87,_),(88,_),(89,_)] [(15,_),(504,_),(505,_),(506,_),(1000,_),(1001,_),(1002,_),(1003,_)] ?_
        refine gor hn ?_
        refine Or.inr ?_
        refine Or.inr ?_
        obtain ⟨r130,hr131,h127⟩:=bindM h127
        show CallOk Try.prog _ _ _ _
        refine cA ((inline_writer_put_ok N (⟨v68,v69,v70,v71,v72,v73⟩:TWriter) (3:Int) (wr ((wr (a0.temps+(1:Int)))+x91.a)) (0:Int) (0:Int) r130 hr131).swl [(1001,504),(1002,505),(1003,506),(2,519),(3,520),(4,521)] rfl) ?_
        refine A27 _ _ ?_
        exact jn ⟨_,sj h127⟩ []
       refine COk.seqQ fun _ A28 _ _=>?_
       refine kp [(0,_),(4,_),(10,_),(13,_),(15,_),(87,_),(88,_),(89,_),(94,_)] [(15,_),(504,_),(505,_),(506,_),(1000,_),(1001,_),(1002,_),(1003,_)] ?_
       refine gos hn ?_
       obtain ⟨o134,h133,h127⟩:=bindM h127
       refine jk (ι:={ s // o134=s }) hn (fun s=>[(115,.bool s.1)]) (fun s=>[]) [(0,_),(4,_),(10,_),(13,_),(15,_),(87,_),(88,_),(89,_),(94,_)] [(15,_),(504,_),(505,_),(506,_),(1000,_),(1001,_),(1002,_),(1003,_)] (fun _ A29 _ _=>?_) ?_
       ·refine goc hn ?_
        refine bselM h133 (fun hb135 h133=>?_) (fun hb135 h133=>?_)
        ·refine gok hn ?_
         refine A29 _ _ ?_
         exact jn ⟨_,sj h133⟩ []
        refine gor hn ?_
        refine A29 _ _ ?_
        exact jn ⟨_,sj h133⟩ []
       rintro ⟨v132,hv_⟩
       replace hv_:=hv_.symm
       subst hv_
       refine A28 _ _ ?_
       obtain ⟨o143,h142,h127⟩:=bindM h127
       refine jk (ι:={ s // o143=s }) hn (fun s=>[]) (fun s=>[(522,.row 5 (List.map eIns s.1.2.2.1) 60),(523,.row 1 (List.map eInt s.1.2.2.2.2.1) 3),(524,.row 1 (List.map eInt s.1.2.2.2.2.2) 3),(1000,.box [.fp (eWd s.1.1),.fp (eMe s.1.2.1),.own 522,.int s.1.2.2.2.1,.own 523,.own 524] 113)]) [(0,_),(4,_),(10,_),(13,_),(87,_),(88,_),(89,_)] [(1001,_),(1002,_),(1003,_)] (fun _ A30 _ _=>?_) ?_
       ·refine goc hn ?_
        refine bselM h142 (fun hb144 h142=>?_) (fun hb144 h142=>?_)
        ·refine god hn (by kernel_rfl) ?_
         refine Or.inr ?_
         refine Or.inr ?_
         refine Or.inr ?_
         obtain ⟨r145,hr146,h142⟩:=bindM h142
         show CallOk Try.prog _ _ _ _
         refine cA ((inline_writer_put_ok N (⟨v68,v69,v70,v71,v72,v73⟩:TWriter) x91.op (wr ((wr ((wr (a0.temps+(1:Int)))+a4.args))+x91.a)) (0:Int) (0:Int) r145 hr146).swl [(1001,504),(1002,505),(1003,506),(2,522),(3,523),(4,524)] rfl) ?_
         refine A30 _ _ ?_
         exact jn ⟨_,sj h142⟩ []
        refine gos hn ?_
        obtain ⟨o154,h153,h142⟩:=bindM h142
        refine jk (ι:={ s // o154=s }) hn (fun s=>[]) (fun s=>[(525,.row 5 (List.map eIns s.1.2.2.1) 60),(526,.row 1 (List.map eInt s.1.2.2.2.2.1) 3),(527,.row 1 (List.map eInt s.1.2.2.2.2.2) 3),(1000,.box [.fp (eWd s.1.1),.fp (eMe s.1.2.1),.own 525,.int s.1.2.2.2.1,.own 526,.own 527] 113)]) [(0,_),(4,_),(10,_),(13,_),(87,_),(88,_),(89,_)] [(1001,_),(1002,_),(1003,_)] (fun _ A31 _ _=>?_) ?_
        ·refine goc hn ?_
         refine bselM h153 (fun hb155 h153=>?_) (fun hb155 h153=>?_)
         ·refine gor hn ?_
          obtain ⟨r156,hr157,h153⟩:=bindM h153
          show CallOk Try.prog _ _ _ _
          refine cA ((inline_writer_put_ok N (⟨v68,v69,v70,v71,v72,v73⟩:TWriter) (19:Int) a0.temps x91.a (0:Int) r156 hr157).swl [(1001,504),(1002,505),(1003,506),(2,525),(3,526),(4,527)] rfl) ?_
          refine A31 _ _ ?_
          exact jn ⟨_,sj h153⟩ []
         refine gos hn ?_
         obtain ⟨o165,h164,h153⟩:=bindM h153
         refine jk (ι:={ s // o165=s }) hn (fun s=>[]) (fun s=>[(528,.row 5 (List.map eIns s.1.2.2.1) 60),(529,.row 1 (List.map eInt s.1.2.2.2.2.1) 3),(530,.row 1 (List.map eInt s.1.2.2.2.2.2) 3),(1000,.box [.fp (eWd s.1.1),.fp (eMe s.1.2.1),.own 528,.int s.1.2.2.2.1,.own 529,.own 530] 113)]) [(0,_),(4,_),(10,_),(13,_),(87,_),(88,_),(89,_)] [(1001,_),(1002,_),(1003,_)] (fun _ A32 _ _=>?_) ?_
         ·refine goc hn ?_
          refine bselM h164 (fun hb166 h164=>?_) (fun hb166 h164=>?_)
          ·refine gor hn ?_
           obtain ⟨r167,hr168,h164⟩:=bindM h164
           show CallOk Try.prog _ _ _ _
           refine cA ((inline_writer_put_ok N (⟨v68,v69,v70,v71,v72,v73⟩:TWriter) (20:Int) a0.temps x91.a (0:Int) r167 hr168).swl [(1001,504),(1002,505),(1003,506),(2,528),(3,529),(4,530)] rfl) ?_
           refine A32 _ _ ?_
           exact jn ⟨_,sj h164⟩ []
          refine COk.seqQ fun _ A33 _ _=>?_
          refine gos hn ?_
          obtain ⟨o171,h170,h164⟩:=bindM h164
          refine jk (ι:={ s // o171=s }) hn (fun s=>[(146,.bool s.1)]) (fun s=>[]) [(0,_),(4,_),(10,_),(13,_),(15,_),(87,_),(88,_),(89,_),(94,_)] [(15,_),(504,_),(505,_),(506,_),(1000,_),(1001,_),(1002,_),(1003,_)] (fun _ A34 _ _=>?_) ?_
          ·refine goc hn ?_
           refine bselM h170 (fun hb172 h170=>?_) (fun hb172 h170=>?_)
           ·refine gok hn ?_
            refine A34 _ _ ?_
            exact jn ⟨_,sj h170⟩ []
           refine gor hn ?_
           refine A34 _ _ ?_
           exact jn ⟨_,sj h170⟩ []
          rintro ⟨v169,hv_⟩
          replace hv_:=hv_.symm
          subst hv_
          refine A33 _ _ ?_
          obtain ⟨o180,h179,h164⟩:=bindM h164
          refine jk (ι:={ s // o180=s }) hn (fun s=>[]) (fun s=>[(531,.row 5 (List.map eIns s.1.2.2.1) 60),(532,.row 1 (List.map eInt s.1.2.2.2.2.1) 3),(533,.row 1 (List.map eInt s.1.2.2.2.2.2) 3),(1000,.box [.fp (eWd s.1.1),.fp (eMe s.1.2.1),.own 531,.int s.1.2.2.2.1,.own 532,.own 533] 113)]) [(0,_),(4,_),(10,_),(13,_),(87,_),(88,_),(89,_)] [(1001,_),(1002,_),(1003,_)] (fun _ A35 _ _=>?_) ?_
          ·refine goc hn ?_
           refine bselM h179 (fun hb181 h179=>?_) (fun hb181 h179=>?_)
           ·refine gor hn ?_
            refine Or.inr ?_
            obtain ⟨r182,hr183,h179⟩:=bindM h179
            show CallOk Try.prog _ _ _ _
            refine cA ((inline_writer_put_ok N (⟨v68,v69,v70,v71,v72,v73⟩:TWriter) x91.op (wr ((v49.length:Int)+x91.a)) (0:Int) (0:Int) r182 hr183).swl [(1001,504),(1002,505),(1003,506),(2,531),(3,532),(4,533)] rfl) ?_
            refine A35 _ _ ?_
            exact jn ⟨_,sj h179⟩ []
           refine gos hn ?_
           obtain ⟨o191,h190,h179⟩:=bindM h179
           refine jk (ι:={ s // o191=s }) hn (fun s=>[]) (fun s=>[(534,.row 5 (List.map eIns s.1.2.2.1) 60),(535,.row 1 (List.map eInt s.1.2.2.2.2.1) 3),(536,.row 1 (List.map eInt s.1.2.2.2.2.2) 3),(1000,.box [.fp (eWd s.1.1),.fp (eMe s.1.2.1),.own 534,.int s.1.2.2.2.1,.own 535,.own 536] 113)]) [(0,_),(4,_),(10,_),(13,_),(87,_),(88,_),(89,_)] [(1001,_),(1002,_),(1003,_)] (fun _ A36 _ _=>?_) ?_
           ·refine goc hn ?_
            refine bselM h190 (fun hb192 h190=>?_) (fun hb192 h190=>?_)
            ·refine gor hn ?_
             refine lenM (fun _=>?_)
             refine Or.inr ?_
             obtain ⟨r194,hr195,h190⟩:=bindM h190
             show CallOk Try.prog _ _ _ _
             refine cA ((inline_writer_put_ok N (⟨v68,v69,v70,v71,v72,v73⟩:TWriter) (15:Int) (wr ((v49.length:Int)+(a4.code.length:Int))) (0:Int) (0:Int) r194 hr195).swl [(1001,504),(1002,505),(1003,506),(2,534),(3,535),(4,536)] rfl) ?_
             refine A36 _ _ ?_
             exact jn ⟨_,sj h190⟩ []
            refine gor hn ?_
            obtain ⟨r196,hr197,h190⟩:=bindM h190
            show CallOk Try.prog _ _ _ _
            refine cA ((inline_writer_put_ok N (⟨v68,v69,v70,v71,v72,v73⟩:TWriter) x91.op x91.a (0:Int) (0:Int) r196 hr197).swl [(1001,504),(1002,505),(1003,506),(2,537),(3,538),(4,539)] rfl) ?_
            refine A36 _ _ ?_
            exact jn ⟨_,sj h190⟩ [(534,537),(535,538),(536,539)]
           rintro ⟨⟨v184,v185,v186,v187,v188,v189⟩,rfl⟩
           refine A35 _ _ ?_
           exact jn ⟨_,sj h179⟩ [(531,534),(532,535),(533,536)]
          rintro ⟨⟨v173,v174,v175,v176,v177,v178⟩,rfl⟩
          refine A32 _ _ ?_
          exact jn ⟨_,sj h164⟩ [(528,531),(529,532),(530,533)]
         rintro ⟨⟨v158,v159,v160,v161,v162,v163⟩,rfl⟩
         refine A31 _ _ ?_
         exact jn ⟨_,sj h153⟩ [(525,528),(526,529),(527,530)]
        rintro ⟨⟨v147,v148,v149,v150,v151,v152⟩,rfl⟩
        refine A30 _ _ ?_
        exact jn ⟨_,sj h142⟩ [(522,525),(523,526),(524,527)]
       rintro ⟨⟨v136,v137,v138,v139,v140,v141⟩,rfl⟩
       refine A27 _ _ ?_
       exact jn ⟨_,sj h127⟩ [(519,522),(520,523),(521,524)]
      rintro ⟨⟨v121,v122,v123,v124,v125,v126⟩,rfl⟩
      refine A26 _ _ ?_
      exact jn ⟨_,sj h116⟩ [(516,519),(517,520),(518,521)]
     rintro ⟨⟨v110,v111,v112,v113,v114,v115⟩,rfl⟩
     refine A25 _ _ ?_
     refine A24 _ _ ?_
     exact jn ⟨_,sj h108⟩ []
    rintro ⟨⟨v102,v103,v104,v105,v106,v107⟩,rfl⟩
    refine A23 _ _ ?_
    refine A22 _ _ ?_
    exact jn ⟨_,sj h100⟩ []
   rintro ⟨⟨v94,v95,v96,v97,v98,v99⟩,rfl⟩
   refine A21 _ _ ?_
   refine gor hn ?_
   refine Or.inl (And.intro (inrK hx92 hl66) ?_)
   refine A18 _ _ ?_
   exact jn ⟨(rest88,k67+1,v94,v95,v96,v97,v98,v99),hd2,h87⟩ [(504,516),(505,517),(506,518)] (by show rest88.length < rest88.length+1; omega)
 rintro ⟨⟨v80,v81,v82,v83,v84,v85⟩,rfl⟩
 obtain rfl:=Option.some.inj h
 exact ⟨[(2,504),(3,505),(4,506)],_,fm⟩

/- inline.Method -/
set_option maxRecDepth 100000 in
set_option maxHeartbeats 8000000 in
theorem inline_Method_ok (N:Nat) (a0:Wd) (a1:Int) (a2:Int) (a3:(List Int)) (r:(Fs×Bool)) (h:inline_Method N a0 a1 a2 a3=some r):Spec Try.prog 24 [] [.agg (eWd a0),.int a1,.int a2,.sl 1 (List.map eInt a3)] (.tup [.agg (eFs r.1),.bool r.2]) [] []:=by
 refine Spec.of tabOk Try.func24 rfl Try.ntmps24 (by kernel_rfl) rfl rfl rfl fun Γ hn=>?_
 unfold inline_Method at h
 refine gos hn ?_
 refine COk.seqQ fun _ A0 _ R0=>?_
 refine COk.seqQ fun _ A1 _ _=>?_
 obtain ⟨o3,h2,h⟩:=bindM h
 refine jk (ι:={ s // o3=s }) hn (fun s=>[(41,.bool s.1)]) (fun s=>[]) [(1,_),(2,_),(3,_),(4,_),(8,_)] [(4,_),(8,_)] (fun _ A2 _ _=>?_) ?_
 ·refine gor hn ?_
  refine bselM h2 (fun hb4 h2=>?_) (fun hb4 h2=>?_)
  ·refine bselT hb4 ?_
   refine bselT hb4 ?_
   refine bselT hb4 ?_
   refine bselT hb4 ?_
   refine bselT hb4 ?_
   refine A2 _ _ ?_
   exact jn ⟨_,sj h2⟩ []
  refine bselF hb4 ?_
  refine bselF hb4 ?_
  refine bselF hb4 ?_
  refine lenM (fun _=>?_)
  refine bselF hb4 ?_
  refine bselF hb4 ?_
  refine bselM h2 (fun hb6 h2=>?_) (fun hb6 h2=>?_)
  ·refine bselT hb6 ?_
   refine bselT hb6 ?_
   refine A2 _ _ ?_
   exact jn ⟨_,sj h2⟩ []
  refine bselF hb6 ?_
  refine bselF hb6 ?_
  refine bselM h2 (fun hb7 h2=>?_) (fun hb7 h2=>?_)
  ·refine bselT hb7 ?_
   refine bselT hb7 ?_
   refine bselT hb7 ?_
   refine bselT hb7 ?_
   refine bselT hb7 ?_
   refine bselT hb7 ?_
   refine bselT hb7 ?_
   refine bselT hb7 ?_
   refine bselT hb7 ?_
   refine A2 _ _ ?_
   exact jn ⟨_,sj h2⟩ []
  refine bselF hb7 ?_
  refine bselF hb7 ?_
  refine bselF hb7 ?_
  refine bselF hb7 ?_
  obtain ⟨x8,hx9,h2⟩:=bindM h2
  refine idxM hx9 ?_
  refine bselF hb7 ?_
  refine bselF hb7 ?_
  refine bselF hb7 ?_
  refine lenM (fun _=>?_)
  refine bselF hb7 ?_
  refine bselF hb7 ?_
  refine A2 _ _ ?_
  exact jn ⟨_,sj h2⟩ []
 rintro ⟨v1,hv_⟩
 replace hv_:=hv_.symm
 subst hv_
 refine A1 _ _ ?_
 refine goc hn ?_
 refine bselM h (fun hb11 h=>?_) (fun hb11 h=>?_)
 ·refine gos hn ?_
  refine got hn ?_
  refine R0 _ _ ?_
  obtain rfl:=Option.some.inj h
  exact ⟨[],_,fm⟩
 refine gok hn ?_
 refine A0 _ _ ?_
 refine gos hn ?_
 obtain ⟨x12,hx13,h⟩:=bindM h
 refine idxM hx13 ?_
 obtain ⟨x14,hx15,h⟩:=bindM h
 refine idxM hx15 ?_
 refine COk.gh (Gh.fzBox 4 4 rfl rfl rfl) (fun _=>?_)
 refine kp [(1,_),(3,_),(4,_),(8,_),(10,_)] [(8,_)] ?_
 refine gos hn ?_
 refine gos hn ?_
 refine COk.seqQ fun _ A3 _ _=>?_
 refine gos hn ?_
 refine lenM (fun hl16=>?_)
 refine COk.nilrowB 57 2 501 5 60 rfl rfl rfl rfl rfl rfl ?_
 refine COk.nilrowB 57 4 502 1 3 rfl rfl rfl rfl rfl rfl ?_
 refine COk.nilrowB 57 5 503 1 3 rfl rfl rfl rfl rfl rfl ?_
 obtain ⟨o39,h40,h⟩:=bindM h
 refine jk (ι:={ s // o39=s }) hn (fun s=>[(12,.bool s.1.2.2.2.2.2.2)]) (fun s=>[(57,.box [.fp (eWd s.1.1),.fp (eMe s.1.2.1),.own 501,.int s.1.2.2.2.1,.own 502,.own 503] 113),(501,.row 5 (List.map eIns s.1.2.2.1) 60),(502,.row 1 (List.map eInt s.1.2.2.2.2.1) 3),(503,.row 1 (List.map eInt s.1.2.2.2.2.2.1) 3)]) [(1,_),(4,_),(8,_),(10,_),(11,_)] [(8,_)] (fun _ A4 _ _=>?_) ?_
 ·refine COk.blkQ fun _ _ E5 _ _=>?_
  refine lq (ι:={ q:((List Ins)×Nat×Wd×Me×(List Ins)×Int×(List Int)×(List Int)×Bool) // q.1=x14.code.drop q.2.1∧inline_Method_l1 N a3 x14 q.1 q.2.1 q.2.2.1 q.2.2.2.1 q.2.2.2.2.1 q.2.2.2.2.2.1 q.2.2.2.2.2.2.1 q.2.2.2.2.2.2.2.1 q.2.2.2.2.2.2.2.2=some o39 }) hn (fun q=>[(12,.bool q.1.2.2.2.2.2.2.2.2),(63,.int (q.1.2.1:Int))]) (fun q=>[(57,.box [.fp (eWd q.1.2.2.1),.fp (eMe q.1.2.2.2.1),.own 501,.int q.1.2.2.2.2.2.1,.own 502,.own 503] 113),(501,.row 5 (List.map eIns q.1.2.2.2.2.1) 60),(502,.row 1 (List.map eInt q.1.2.2.2.2.2.2.1) 3),(503,.row 1 (List.map eInt q.1.2.2.2.2.2.2.2.1) 3)]) (fun q=>q.1.1.length) [(1,_),(3,_),(4,_),(8,_),(10,_),(11,_),(61,_),(62,_)] [(8,_)] ⟨(x14.code,0,a0,x14,([]:List Ins),x14.temps,([]:List Int),([]:List Int),false),rfl,h40⟩ [] ?_
  rintro ⟨⟨rest_,k17,v18,v19,v20,v21,v22,v23,v24⟩,hd42,h40⟩ _ A6 X6 _
  replace hd42:rest_=x14.code.drop k17:=hd42
  rcases rest_ with _|⟨x44,rest41⟩
  ·have hlt46:=restNil hd42
   replace h40:=(inline_Method_l1.eq_1 _ _ _ _ _ _ _ _ _ _ _).symm.trans h40
   refine gos hn ?_
   refine COk.seqQ fun _ _ X7 _=>?_
   refine goc hn ?_
   refine bselF hlt46 ?_
   refine goe hn ?_
   refine X7 _ _ _ ?_
   refine X6 _ _ _ ?_
   refine E5 _ _ ?_
   refine A4 _ _ ?_
   exact jn ⟨_,sj h40⟩ []
  ·obtain ⟨hx45,hd2,hlt46⟩:=restCons hd42
   replace h40:=(inline_Method_l1.eq_2 _ _ _ _ _ _ _ _ _ _ _ _ _).symm.trans h40
   refine gos hn ?_
   refine COk.seqQ fun _ A8 _ _=>?_
   refine goc hn ?_
   refine bselT hlt46 ?_
   refine gok hn ?_
   refine A8 _ _ ?_
   refine COk.seqQ fun _ A9 _ _=>?_
   obtain ⟨o55,h54,h40⟩:=bindM h40
   refine jk (ι:={ s // o55=s }) hn (fun s=>[(12,.bool s.1.2.2.2.2.2.2)]) (fun s=>[(57,.box [.fp (eWd s.1.1),.fp (eMe s.1.2.1),.own 203,.int s.1.2.2.2.1,.own 505,.own 188] 113),(188,.row 1 (List.map eInt s.1.2.2.2.2.2.1) 3),(203,.row 5 (List.map eIns s.1.2.2.1) 60),(505,.row 1 (List.map eInt s.1.2.2.2.2.1) 3)]) [(1,_),(3,_),(4,_),(8,_),(10,_),(11,_),(61,_),(62,_),(63,_)] [(8,_)] (fun _ A10 _ _=>?_) ?_
   ·refine COk.blkQ fun _ A11 E11 _ _=>?_
    refine gos hn ?_
    refine idxK hx45 ?_
    refine COk.seqQ fun _ A12 _ _=>?_
    refine god hn (by kernel_rfl) ?_
    refine lenM (fun _=>?_)
    refine Exists.intro (List.map eInt [(v20.length:Int)]) (And.intro (by repeat (first|exact trivial|exact rfl|(refine And.intro ?_ ?_))) ?_)
    obtain ⟨hg57,h54⟩:=guardM h54
    refine appM (l2:=[(v20.length:Int)]) hg57 (leLs_refl _) ?_
    refine A12 _ _ ?_
    refine COk.seqQ fun _ A13 X13 _=>?_
    refine COk.seqQ fun _ A14 _ _=>?_
    obtain ⟨o60,h59,h54⟩:=bindM h54
    refine jk (ι:={ s // o60=s }) hn (fun s=>[(97,.bool s.1)]) (fun s=>[]) [(1,_),(3,_),(4,_),(8,_),(10,_),(11,_),(12,_),(13,_),(14,_),(61,_),(62,_),(63,_)] [(8,_),(14,_),(57,_),(79,_),(501,_),(503,_)] (fun _ A15 _ _=>?_) ?_
    ·refine kp [(1,_),(3,_),(4,_),(8,_),(10,_),(11,_),(12,_),(13,_),(14,_),(61,_),(62,_),(63,_)] [(8,_),(14,_),(57,_),(79,_),(501,_),(503,_)] ?_
     refine gor hn ?_
     refine bselM h59 (fun hb61 h59=>?_) (fun hb61 h59=>?_)
     ·refine bselT hb61 ?_
      refine bselT hb61 ?_
      refine lenM (fun _=>?_)
      refine bselT hb61 ?_
      refine bselT hb61 ?_
      refine bselM h59 (fun hb63 h59=>?_) (fun hb63 h59=>?_)
      ·refine bselT hb63 ?_
       refine bselT hb63 ?_
       obtain ⟨x64,hx65,h59⟩:=bindM h59
       refine idxM hx65 ?_
       refine bselT hb63 ?_
       refine bselT hb63 ?_
       refine bselT hb63 ?_
       refine A15 _ _ ?_
       exact jn ⟨_,sj h59⟩ []
      refine bselF hb63 ?_
      refine bselF hb63 ?_
      refine bselF hb63 ?_
      refine bselF hb63 ?_
      refine bselF hb63 ?_
      refine A15 _ _ ?_
      exact jn ⟨_,sj h59⟩ []
     refine bselF hb61 ?_
     refine bselF hb61 ?_
     refine bselF hb61 ?_
     refine bselF hb61 ?_
     refine A15 _ _ ?_
     exact jn ⟨_,sj h59⟩ []
    rintro ⟨v58,hv_⟩
    replace hv_:=hv_.symm
    subst hv_
    refine A14 _ _ ?_
    refine goc hn ?_
    refine bselM h54 (fun hb66 h54=>?_) (fun hb66 h54=>?_)
    ·refine COk.seqQ fun _ A16 _ _=>?_
     refine god hn (by kernel_rfl) ?_
     obtain ⟨x67,hx68,h54⟩:=bindM h54
     refine idxM hx68 ?_
     obtain ⟨r69,hr70,h54⟩:=bindM h54
     show CallOk Try.prog _ _ _ _
     refine cA ((inline_writer_callee_ok N (⟨v18,v19,v20,v21,(v22++[(v20.length:Int)]),v23⟩:TWriter) x67 x44.name r69 hr70).swl [(1000,57),(1001,501),(1002,79),(1003,503),(2,504),(3,505),(4,506)] rfl) ?_
     rcases r69 with ⟨_|x72,w71⟩
     ·refine A16 _ _ ?_
      refine COk.seqQ fun _ A17 _ _=>?_
      refine kp [(1,_),(3,_),(4,_),(8,_),(10,_),(11,_),(12,_),(13,_),(14,_),(15,_),(61,_),(62,_),(63,_)] [(8,_),(14,_),(57,_),(504,_),(505,_),(506,_)] ?_
      refine god hn (by kernel_rfl) ?_
      refine A17 _ _ ?_
      refine goc hn ?_
      refine gok hn ?_
      refine A13 _ _ ?_
      refine COk.seqQ fun _ A18 _ _=>?_
      refine COk.seqQ fun _ A19 _ _=>?_
      obtain ⟨o75,h74,h54⟩:=bindM h54
      refine jk (ι:={ s // o75=s }) hn (fun s=>[(176,.bool s.1)]) (fun s=>[]) [(1,_),(3,_),(4,_),(8,_),(10,_),(11,_),(12,_),(13,_),(14,_),(61,_),(62,_),(63,_)] [(8,_),(14,_),(57,_),(504,_),(505,_),(506,_)] (fun _ A20 _ _=>?_) ?_
      ·refine kp [(1,_),(3,_),(4,_),(8,_),(10,_),(11,_),(12,_),(13,_),(14,_),(61,_),(62,_),(63,_)] [(8,_),(14,_),(57,_),(504,_),(505,_),(506,_)] ?_
       refine gor hn ?_
       refine bselM h74 (fun hb76 h74=>?_) (fun hb76 h74=>?_)
       ·refine bselT hb76 ?_
        refine bselT hb76 ?_
        refine bselT hb76 ?_
        refine A20 _ _ ?_
        exact jn ⟨_,sj h74⟩ []
       refine bselF hb76 ?_
       refine bselF hb76 ?_
       refine bselF hb76 ?_
       refine A20 _ _ ?_
       exact jn ⟨_,sj h74⟩ []
      rintro ⟨v73,hv_⟩
      replace hv_:=hv_.symm
      subst hv_
      refine A19 _ _ ?_
      obtain ⟨o79,h78,h54⟩:=bindM h54
      refine jk (ι:={ s // o79=s }) hn (fun s=>[]) (fun s=>[(57,.box [.fp (eWd w71.w),.fp (eMe w71.m),.own 504,.int w71.temps,.own 505,.own 188] 113),(188,.row 1 (List.map eInt s.1) 3)]) [(1,_),(3,_),(4,_),(8,_),(10,_),(11,_),(12,_),(13,_),(14,_),(61,_),(62,_),(63,_)] [(8,_),(14,_),(504,_),(505,_)] (fun _ A21 _ _=>?_) ?_
      ·refine goc hn ?_
       refine bselM h78 (fun hb80 h78=>?_) (fun hb80 h78=>?_)
       ·refine god hn (by kernel_rfl) ?_
        refine lenM (fun _=>?_)
        refine Exists.intro (List.map eInt [(w71.out.length:Int)]) (And.intro (by repeat (first|exact trivial|exact rfl|(refine And.intro ?_ ?_))) ?_)
        obtain ⟨hg82,h78⟩:=guardM h78
        refine appM (l2:=[(w71.out.length:Int)]) hg82 (leLs_refl _) ?_
        refine A21 _ _ ?_
        exact jn ⟨_,sj h78⟩ []
       refine gok hn ?_
       refine A21 _ _ ?_
       exact jn ⟨_,sj h78⟩ [(188,506)]
      rintro ⟨v77,hv_⟩
      replace hv_:=hv_.symm
      subst hv_
      refine A18 _ _ ?_
      refine COk.seqQ fun _ A22 _ _=>?_
      refine gos hn ?_
      obtain ⟨o85,h84,h54⟩:=bindM h54
      refine jk (ι:={ s // o85=s }) hn (fun s=>[]) (fun s=>[(14,.box (eIns s.1) 60)]) [(1,_),(3,_),(4,_),(8,_),(10,_),(11,_),(12,_),(14,_),(61,_),(62,_),(63,_)] [(8,_),(57,_),(188,_),(504,_),(505,_)] (fun _ A23 _ _=>?_) ?_
      ·refine goc hn ?_
       refine bselM h84 (fun hb86 h84=>?_) (fun hb86 h84=>?_)
       ·refine gor hn ?_
        refine A23 _ _ ?_
        exact jn ⟨_,sj h84⟩ []
       refine gok hn ?_
       refine A23 _ _ ?_
       exact jn ⟨_,sj h84⟩ []
      rintro ⟨v83,hv_⟩
      replace hv_:=hv_.symm
      subst hv_
      refine A22 _ _ ?_
      refine god hn (by kernel_rfl) ?_
      refine Exists.intro (List.map eIns [v83]) (And.intro (by repeat (first|exact trivial|exact rfl|(refine And.intro ?_ ?_))) ?_)
      obtain ⟨hg87,h54⟩:=guardM h54
      refine appM (l2:=[v83]) hg87 (leLs_refl _) ?_
      refine A11 _ _ ?_
      refine A10 _ _ ?_
      exact jn ⟨_,sj h54⟩ []
     refine A16 _ _ ?_
     refine COk.seqQ fun _ A24 _ _=>?_
     obtain ⟨o90,h89,h54⟩:=bindM h54
     refine jk (ι:={ s // o90=s }) hn (fun s=>[(159,.bool s.1)]) (fun s=>[]) [(1,_),(3,_),(4,_),(8,_),(10,_),(11,_),(12,_),(13,_),(14,_),(15,_),(61,_),(62,_),(63,_)] [(8,_),(14,_),(57,_),(504,_),(505,_),(506,_)] (fun _ A25 _ _=>?_) ?_
     ·refine kp [(1,_),(3,_),(4,_),(8,_),(10,_),(11,_),(12,_),(13,_),(14,_),(15,_),(61,_),(62,_),(63,_)] [(8,_),(14,_),(57,_),(504,_),(505,_),(506,_)] ?_
      refine god hn (by kernel_rfl) ?_
      obtain ⟨r91,hr92,h89⟩:=bindM h89
      show CallOk Try.prog _ _ _ _
      refine cA (choose_Leaf_ok N x72 r91 hr92) ?_
      refine bselM h89 (fun hb93 h89=>?_) (fun hb93 h89=>?_)
      ·refine bselT hb93 ?_
       refine bselT hb93 ?_
       refine bselT hb93 ?_
       refine bselT hb93 ?_
       refine bselT hb93 ?_
       refine bselT hb93 ?_
       refine bselT hb93 ?_
       refine bselM h89 (fun hb94 h89=>?_) (fun hb94 h89=>?_)
       ·refine bselT hb94 ?_
        refine bselT hb94 ?_
        refine bselT hb94 ?_
        refine bselT hb94 ?_
        refine lenM (fun _=>?_)
        refine bselT hb94 ?_
        refine bselT hb94 ?_
        obtain ⟨r96,hr97,h89⟩:=bindM h89
        show CallOk Try.prog _ _ _ _
        refine cA (inline_size_ok N x72 r96 hr97) ?_
        refine bselT hb94 ?_
        refine Or.inr ?_
        refine bselT hb94 ?_
        refine bselT hb94 ?_
        refine bselT hb94 ?_
        refine bselT hb94 ?_
        refine bselT hb94 ?_
        refine lenM (fun _=>?_)
        refine bselT hb94 ?_
        refine Or.inr ?_
        refine bselT hb94 ?_
        refine bselT hb94 ?_
        refine Or.inr ?_
        refine bselT hb94 ?_
        refine bselT hb94 ?_
        refine bselM h89 (fun hb99 h89=>?_) (fun hb99 h89=>?_)
        ·refine bselT hb99 ?_
         refine bselT hb99 ?_
         refine bselT hb99 ?_
         refine bselT hb99 ?_
         refine Or.inr ?_
         refine bselT hb99 ?_
         refine bselT hb99 ?_
         refine bselT hb99 ?_
         refine bselT hb99 ?_
         refine bselT hb99 ?_
         refine Or.inr ?_
         refine bselT hb99 ?_
         refine bselT hb99 ?_
         refine bselT hb99 ?_
         refine bselT hb99 ?_
         refine bselT hb99 ?_
         refine Or.inr ?_
         refine bselT hb99 ?_
         refine bselT hb99 ?_
         refine A25 _ _ ?_
         exact jn ⟨_,sj h89⟩ []
        refine bselF hb99 ?_
        refine bselF hb99 ?_
        refine bselF hb99 ?_
        refine bselF hb99 ?_
        refine bselF hb99 ?_
        refine bselF hb99 ?_
        refine bselF hb99 ?_
        refine bselF hb99 ?_
        refine bselF hb99 ?_
        refine bselF hb99 ?_
        refine bselF hb99 ?_
        refine bselF hb99 ?_
        refine bselF hb99 ?_
        refine bselF hb99 ?_
        refine bselF hb99 ?_
        refine bselF hb99 ?_
        refine A25 _ _ ?_
        exact jn ⟨_,sj h89⟩ []
       refine bselF hb94 ?_
       refine bselF hb94 ?_
       refine bselF hb94 ?_
       refine bselF hb94 ?_
       refine bselF hb94 ?_
       refine bselF hb94 ?_
       refine bselF hb94 ?_
       refine bselF hb94 ?_
       refine bselF hb94 ?_
       refine bselF hb94 ?_
       refine bselF hb94 ?_
       refine bselF hb94 ?_
       refine bselF hb94 ?_
       refine bselF hb94 ?_
       refine bselF hb94 ?_
       refine bselF hb94 ?_
       refine bselF hb94 ?_
       refine A25 _ _ ?_
       exact jn ⟨_,sj h89⟩ []
      refine bselF hb93 ?_
      refine bselF hb93 ?_
      refine bselF hb93 ?_
      refine bselF hb93 ?_
      refine bselF hb93 ?_
      refine bselF hb93 ?_
      refine bselF hb93 ?_
      refine A25 _ _ ?_
      exact jn ⟨_,sj h89⟩ []
     rintro ⟨v88,hv_⟩
     replace hv_:=hv_.symm
     subst hv_
     refine A24 _ _ ?_
     refine goc hn ?_
     refine bselM h54 (fun hb100 h54=>?_) (fun hb100 h54=>?_)
     ·refine COk.seqQ fun _ A26 _ _=>?_
      refine god hn (by kernel_rfl) ?_
      obtain ⟨x101,hx102,h54⟩:=bindM h54
      refine idxM hx102 ?_
      obtain ⟨r103,hr104,h54⟩:=bindM h54
      show CallOk Try.prog _ _ _ _
      refine cA ((inline_writer_send_ok N (⟨w71.w,w71.m,w71.out,w71.temps,w71.at_,w71.fix⟩:TWriter) x101 (k17:Int) x44 x72 r103 hr104).swl [(1000,57),(1001,504),(1002,505),(1003,506),(2,507),(3,508),(4,509)] rfl) ?_
      refine A26 _ _ ?_
      refine kp [(1,_),(3,_),(4,_),(8,_),(10,_),(11,_),(61,_),(62,_),(63,_)] [(8,_),(57,_),(507,_),(508,_),(509,_)] ?_
      refine gos hn ?_
      refine goe hn ?_
      refine X13 _ _ _ ?_
      refine E11 _ _ ?_
      refine A10 _ _ ?_
      exact jn ⟨_,sj h54⟩ [(203,507),(505,508),(188,509)]
     refine gok hn ?_
     refine A13 _ _ ?_
     refine COk.seqQ fun _ A27 _ _=>?_
     refine COk.seqQ fun _ A28 _ _=>?_
     obtain ⟨o107,h106,h54⟩:=bindM h54
     refine jk (ι:={ s // o107=s }) hn (fun s=>[(176,.bool s.1)]) (fun s=>[]) [(1,_),(3,_),(4,_),(8,_),(10,_),(11,_),(12,_),(13,_),(14,_),(61,_),(62,_),(63,_)] [(8,_),(14,_),(57,_),(504,_),(505,_),(506,_)] (fun _ A29 _ _=>?_) ?_
     ·refine gor hn ?_
      refine bselM h106 (fun hb108 h106=>?_) (fun hb108 h106=>?_)
      ·refine bselT hb108 ?_
       refine bselT hb108 ?_
       refine bselT hb108 ?_
       refine A29 _ _ ?_
       exact jn ⟨_,sj h106⟩ []
      refine bselF hb108 ?_
      refine bselF hb108 ?_
      refine bselF hb108 ?_
      refine A29 _ _ ?_
      exact jn ⟨_,sj h106⟩ []
     rintro ⟨v105,hv_⟩
     replace hv_:=hv_.symm
     subst hv_
     refine A28 _ _ ?_
     obtain ⟨o111,h110,h54⟩:=bindM h54
     refine jk (ι:={ s // o111=s }) hn (fun s=>[]) (fun s=>[(57,.box [.fp (eWd w71.w),.fp (eMe w71.m),.own 504,.int w71.temps,.own 505,.own 188] 113),(188,.row 1 (List.map eInt s.1) 3)]) [(1,_),(3,_),(4,_),(8,_),(10,_),(11,_),(12,_),(13,_),(14,_),(61,_),(62,_),(63,_)] [(8,_),(14,_),(504,_),(505,_)] (fun _ A30 _ _=>?_) ?_
     ·refine goc hn ?_
      refine bselM h110 (fun hb112 h110=>?_) (fun hb112 h110=>?_)
      ·refine god hn (by kernel_rfl) ?_
       refine lenM (fun _=>?_)
       refine Exists.intro (List.map eInt [(w71.out.length:Int)]) (And.intro (by repeat (first|exact trivial|exact rfl|(refine And.intro ?_ ?_))) ?_)
       obtain ⟨hg114,h110⟩:=guardM h110
       refine appM (l2:=[(w71.out.length:Int)]) hg114 (leLs_refl _) ?_
       refine A30 _ _ ?_
       exact jn ⟨_,sj h110⟩ []
      refine gok hn ?_
      refine A30 _ _ ?_
      exact jn ⟨_,sj h110⟩ [(188,506)]
     rintro ⟨v109,hv_⟩
     replace hv_:=hv_.symm
     subst hv_
     refine A27 _ _ ?_
     refine COk.seqQ fun _ A31 _ _=>?_
     refine gos hn ?_
     obtain ⟨o117,h116,h54⟩:=bindM h54
     refine jk (ι:={ s // o117=s }) hn (fun s=>[]) (fun s=>[(14,.box (eIns s.1) 60)]) [(1,_),(3,_),(4,_),(8,_),(10,_),(11,_),(12,_),(14,_),(61,_),(62,_),(63,_)] [(8,_),(57,_),(188,_),(504,_),(505,_)] (fun _ A32 _ _=>?_) ?_
     ·refine goc hn ?_
      refine bselM h116 (fun hb118 h116=>?_) (fun hb118 h116=>?_)
      ·refine gor hn ?_
       refine A32 _ _ ?_
       exact jn ⟨_,sj h116⟩ []
      refine gok hn ?_
      refine A32 _ _ ?_
      exact jn ⟨_,sj h116⟩ []
     rintro ⟨v115,hv_⟩
     replace hv_:=hv_.symm
     subst hv_
     refine A31 _ _ ?_
     refine god hn (by kernel_rfl) ?_
     refine Exists.intro (List.map eIns [v115]) (And.intro (by repeat (first|exact trivial|exact rfl|(refine And.intro ?_ ?_))) ?_)
     obtain ⟨hg119,h54⟩:=guardM h54
     refine appM (l2:=[v115]) hg119 (leLs_refl _) ?_
     refine A11 _ _ ?_
     refine A10 _ _ ?_
     exact jn ⟨_,sj h54⟩ []
    refine gok hn ?_
    refine A13 _ _ ?_
    refine COk.seqQ fun _ A33 _ _=>?_
    refine COk.seqQ fun _ A34 _ _=>?_
    obtain ⟨o122,h121,h54⟩:=bindM h54
    refine jk (ι:={ s // o122=s }) hn (fun s=>[(176,.bool s.1)]) (fun s=>[]) [(1,_),(3,_),(4,_),(8,_),(10,_),(11,_),(12,_),(13,_),(14,_),(61,_),(62,_),(63,_)] [(8,_),(14,_),(57,_),(79,_),(501,_),(503,_)] (fun _ A35 _ _=>?_) ?_
    ·refine gor hn ?_
     refine bselM h121 (fun hb123 h121=>?_) (fun hb123 h121=>?_)
     ·refine bselT hb123 ?_
      refine bselT hb123 ?_
      refine bselT hb123 ?_
      refine A35 _ _ ?_
      exact jn ⟨_,sj h121⟩ []
     refine bselF hb123 ?_
     refine bselF hb123 ?_
     refine bselF hb123 ?_
     refine A35 _ _ ?_
     exact jn ⟨_,sj h121⟩ []
    rintro ⟨v120,hv_⟩
    replace hv_:=hv_.symm
    subst hv_
    refine A34 _ _ ?_
    obtain ⟨o126,h125,h54⟩:=bindM h54
    refine jk (ι:={ s // o126=s }) hn (fun s=>[]) (fun s=>[(57,.box [.fp (eWd v18),.fp (eMe v19),.own 501,.int v21,.own 79,.own 188] 113),(188,.row 1 (List.map eInt s.1) 3)]) [(1,_),(3,_),(4,_),(8,_),(10,_),(11,_),(12,_),(13,_),(14,_),(61,_),(62,_),(63,_)] [(8,_),(14,_),(79,_),(501,_)] (fun _ A36 _ _=>?_) ?_
    ·refine goc hn ?_
     refine bselM h125 (fun hb127 h125=>?_) (fun hb127 h125=>?_)
     ·refine god hn (by kernel_rfl) ?_
      refine lenM (fun _=>?_)
      refine Exists.intro (List.map eInt [(v20.length:Int)]) (And.intro (by repeat (first|exact trivial|exact rfl|(refine And.intro ?_ ?_))) ?_)
      obtain ⟨hg129,h125⟩:=guardM h125
      refine appM (l2:=[(v20.length:Int)]) hg129 (leLs_refl _) ?_
      refine A36 _ _ ?_
      exact jn ⟨_,sj h125⟩ []
     refine gok hn ?_
     refine A36 _ _ ?_
     exact jn ⟨_,sj h125⟩ [(188,503)]
    rintro ⟨v124,hv_⟩
    replace hv_:=hv_.symm
    subst hv_
    refine A33 _ _ ?_
    refine COk.seqQ fun _ A37 _ _=>?_
    refine gos hn ?_
    obtain ⟨o132,h131,h54⟩:=bindM h54
    refine jk (ι:={ s // o132=s }) hn (fun s=>[]) (fun s=>[(14,.box (eIns s.1) 60)]) [(1,_),(3,_),(4,_),(8,_),(10,_),(11,_),(12,_),(14,_),(61,_),(62,_),(63,_)] [(8,_),(57,_),(79,_),(188,_),(501,_)] (fun _ A38 _ _=>?_) ?_
    ·refine goc hn ?_
     refine bselM h131 (fun hb133 h131=>?_) (fun hb133 h131=>?_)
     ·refine gor hn ?_
      refine A38 _ _ ?_
      exact jn ⟨_,sj h131⟩ []
     refine gok hn ?_
     refine A38 _ _ ?_
     exact jn ⟨_,sj h131⟩ []
    rintro ⟨v130,hv_⟩
    replace hv_:=hv_.symm
    subst hv_
    refine A37 _ _ ?_
    refine god hn (by kernel_rfl) ?_
    refine Exists.intro (List.map eIns [v130]) (And.intro (by repeat (first|exact trivial|exact rfl|(refine And.intro ?_ ?_))) ?_)
    obtain ⟨hg134,h54⟩:=guardM h54
    refine appM (l2:=[v130]) hg134 (leLs_refl _) ?_
    refine A11 _ _ ?_
    refine A10 _ _ ?_
    exact jn ⟨_,sj h54⟩ [(505,79)]
   rintro ⟨⟨v47,v48,v49,v50,v51,v52,v53⟩,rfl⟩
   refine A9 _ _ ?_
   refine gor hn ?_
   refine Or.inl (And.intro (inrK hx45 hl16) ?_)
   refine A6 _ _ ?_
   exact jn ⟨(rest41,k17+1,v47,v48,v49,v50,v51,v52,v53),hd2,h40⟩ [(501,203),(502,505),(503,188)] (by show rest41.length < rest41.length+1; omega)
 rintro ⟨⟨v32,v33,v34,v35,v36,v37,v38⟩,rfl⟩
 refine A3 _ _ ?_
 refine COk.seqQ fun _ A39 _ R39=>?_
 refine gos hn ?_
 refine goc hn ?_
 refine bselM h (fun hb135 h=>?_) (fun hb135 h=>?_)
 ·refine gos hn ?_
  refine got hn ?_
  refine R39 _ _ ?_
  obtain rfl:=Option.some.inj h
  exact ⟨[],_,fm⟩
 refine gok hn ?_
 refine A39 _ _ ?_
 refine COk.seqQ fun _ A40 _ _=>?_
 refine gos hn ?_
 refine lenM (fun hl136=>?_)
 obtain ⟨o141,h142,h⟩:=bindM h
 refine jk (ι:={ s // o141=s }) hn (fun s=>[]) (fun s=>[(501,.row 5 (List.map eIns s.1) 60)]) [(1,_),(4,_),(8,_),(10,_),(11,_)] [(8,_),(57,_),(502,_),(503,_)] (fun _ A41 _ _=>?_) ?_
 ·refine COk.blkQ fun _ _ E42 _ _=>?_
  refine lq (ι:={ q:((List Int)×Nat×(List Ins)) // q.1=v37.drop q.2.1∧inline_Method_l2 N v36 v37 q.1 q.2.1 q.2.2=some o141 }) hn (fun q=>[(215,.int (q.1.2.1:Int))]) (fun q=>[(501,.row 5 (List.map eIns q.1.2.2) 60)]) (fun q=>q.1.1.length) [(1,_),(4,_),(8,_),(10,_),(11,_),(213,_),(214,_)] [(8,_),(57,_),(502,_),(503,_)] ⟨(v37,0,v34),rfl,h142⟩ [] ?_
  rintro ⟨⟨rest_,k137,v138⟩,hd144,h142⟩ _ A43 X43 _
  replace hd144:rest_=v37.drop k137:=hd144
  rcases rest_ with _|⟨x146,rest143⟩
  ·have hlt148:=restNil hd144
   replace h142:=(inline_Method_l2.eq_1 _ _ _ _ _).symm.trans h142
   refine gos hn ?_
   refine COk.seqQ fun _ _ X44 _=>?_
   refine goc hn ?_
   refine bselF hlt148 ?_
   refine goe hn ?_
   refine X44 _ _ _ ?_
   refine X43 _ _ _ ?_
   refine E42 _ _ ?_
   refine A41 _ _ ?_
   exact jn ⟨_,sj h142⟩ []
  ·obtain ⟨hx147,hd2,hlt148⟩:=restCons hd144
   replace h142:=(inline_Method_l2.eq_2 _ _ _ _ _ _ _).symm.trans h142
   refine gos hn ?_
   refine COk.seqQ fun _ A45 _ _=>?_
   refine goc hn ?_
   refine bselT hlt148 ?_
   refine gok hn ?_
   refine A45 _ _ ?_
   refine COk.seqQ fun _ A46 _ _=>?_
   refine COk.blkQ fun _ A47 _ _ _=>?_
   refine gos hn ?_
   obtain ⟨x149,hx150,h142⟩:=bindM h142
   refine ownM hx150 ?_
   refine ldM (nthO_some hx150).2 ?_
   refine kp [(1,_),(4,_),(8,_),(10,_),(11,_),(17,_),(213,_),(214,_),(215,_)] [(8,_),(57,_),(501,_),(502,_),(503,_)] ?_
   refine god hn (by kernel_rfl) ?_
   obtain ⟨x151,hx152,h142⟩:=bindM h142
   refine ownM hx152 ?_
   refine ldM (nthO_some hx152).2 ?_
   obtain ⟨x153,hx154,h142⟩:=bindM h142
   refine ownM hx154 ?_
   refine ldM (nthO_some hx154).2 ?_
   obtain ⟨x155,hx156,h142⟩:=bindM h142
   refine ownM hx156 ?_
   refine ldM (nthO_some hx156).2 ?_
   refine Exists.intro (List.map eIns (v138.set x149.toNat (⟨x155.op,x153,x155.b,x155.c,x155.name⟩:Ins))) (And.intro (leLs_set (nthO_some hx156).2 (by repeat (first|exact trivial|exact rfl|(refine And.intro ?_ ?_)))) ?_)
   refine A47 _ _ ?_
   refine A46 _ _ ?_
   refine kp [(1,_),(4,_),(8,_),(10,_),(11,_),(213,_),(214,_),(215,_)] [(8,_),(57,_),(501,_),(502,_),(503,_)] ?_
   refine gor hn ?_
   refine Or.inl (And.intro (inrK hx147 hl136) ?_)
   refine A43 _ _ ?_
   exact jn ⟨(rest143,k137+1,(v138.set x149.toNat (⟨x155.op,x153,x155.b,x155.c,x155.name⟩:Ins))),hd2,h142⟩ [] (by show rest143.length < rest143.length+1; omega)
 rintro ⟨v140,hv_⟩
 replace hv_:=hv_.symm
 subst hv_
 refine A40 _ _ ?_
 refine COk.seqQ fun _ A48 _ _=>?_
 refine kp [(1,_),(4,_),(8,_),(10,_),(11,_)] [(8,_),(57,_),(501,_),(502,_),(503,_)] ?_
 refine god hn (by kernel_rfl) ?_
 refine A48 _ _ ?_
 refine COk.fzAll 501 rfl ?_
 refine got hn ?_
 obtain rfl:=Option.some.inj h
 exact ⟨[],_,fm⟩
end Go.Proofs.Ytkecefjmcimemaa
