/- Walks after the mirrors. Printed by mir.py. -/
import Derived.Test.YtkecefjmcimemaaWk1
namespace Go.Proofs.Ytkecefjmcimemaa
open Go.RowKit
set_option linter.unusedVariables false
/- (*run.frame).pop -/
set_option maxRecDepth 100000 in
set_option maxHeartbeats 8000000 in
theorem bC9 (N:Nat) (fr:(List l6)) (a0:Nat) (r:(V×(List l6))) (h:aF6 N fr a0=some r):Spec Try.prog 95 [(1003,.deep 10 160 [(7,(2,27)),(8,(2,27))] (List.map y7 fr) [(a0,7,1006)] 1005)] [.ep 1003 a0 10 0] (.agg (eV r.1)) [(1003,.deep 10 160 [(7,(2,27)),(8,(2,27))] (List.map y7 r.2) [(a0,7,1006)] 5),(5,.gone)] [5]:=by
 refine Spec.of D5 Try.func95 rfl Try.ntmps95 (by kernel_rfl) rfl rfl rfl fun Γ hn=>?_
 unfold aF6 at h
 refine j6 hn ?_
 refine j5.seqQ fun _ A0 _ _=>?_
 obtain ⟨x1,hx2,h⟩:=j4 h
 refine j5.gh (Gh.detach 1003 501 502 a0 8 rfl rfl (atD hx2) rfl rfl rfl rfl rfl rfl rfl rfl) (fun _=>?_)
 refine kp [(0,_),(2,_)] [(2,_),(501,_),(502,_),(1003,_)] ?_
 refine H7 hn (by kernel_rfl) ?_
 refine W9 hx2 rfl rfl (by decide) rfl ?_
 refine W9 hx2 rfl rfl (by decide) rfl ?_
 refine u7 (fun _=>?_)
 refine Or.inr ?_
 obtain ⟨x4,hx5,h⟩:=j4 h
 refine V6 hx5 ?_
 refine U3 (u6 hx5).2 ?_
 refine A0 _ _ ?_
 refine j5.seqQ fun _ A1 _ _=>?_
 refine H7 hn (by kernel_rfl) ?_
 refine W9 hx2 rfl rfl (by decide) rfl ?_
 refine W9 hx2 rfl rfl (by decide) rfl ?_
 refine u7 (fun _=>?_)
 refine Or.inr ?_
 obtain ⟨hg7,h⟩:=C9 h
 refine bK7 hg7 rfl rfl ?_
 refine bC3 hx2 rfl rfl (by decide) ?_
 refine A1 _ _ ?_
 refine j5.gh (Gh.attach (l':=List.map y7 (fr.set a0 (⟨x1.class_,x1.method,x1.fast,x1.code,x1.self_,x1.args,x1.temps,(x1.stack.take (wr ((x1.stack.length:Int) - (1:Int))).toNat),x1.at_⟩:l6))) 1003 27 503 a0 8 rfl rfl rfl (atD hx2) rfl rfl (aR7 rfl) rfl rfl rfl rfl rfl rfl) (fun _=>?_)
 refine kp [(0,_),(2,_),(3,_)] [(2,_),(3,_),(503,_),(1003,_)] ?_
 refine j6 hn ?_
 refine got hn ?_
 obtain rfl:=Option.some.inj h
 exact ⟨[(5,503)],_,fm⟩

/- class.Slots -/
set_option maxRecDepth 100000 in
set_option maxHeartbeats 8000000 in
theorem cD1 (N:Nat) (a0:Wd) (a1:Int) (r:Int) (h:aR0 N a0 a1=some r):Spec Try.prog 121 [] [.agg (P5 a0),.int a1] (.int r) [] []:=by
 refine Spec.of D5 Try.func121 rfl Try.ntmps121 (by kernel_rfl) rfl rfl rfl fun Γ hn=>?_
 unfold aR0 at h
 refine j6 hn ?_
 refine j6 hn ?_
 refine j5.seqQ fun _ A0 _ _=>?_
 refine j6 hn ?_
 obtain ⟨o9,h10,h⟩:=j4 h
 refine jk (ι:={ s // o9=s }) hn (fun s=>[(5,.int s.1)]) (fun s=>[]) [] [] (fun _ A1 _ _=>?_) ?_
 ·refine j5.blkQ fun _ _ E2 _ _=>?_
  refine lq (ι:={ q:(Nat×Int×Int×Int) // aE4 N a0 q.1 q.2.1 q.2.2.1 q.2.2.2=some o9 }) hn (fun q=>[(1,.int q.1.2.1),(5,.int q.1.2.2.1),(6,.int q.1.2.2.2)]) (fun q=>[]) (fun q=>q.1.1) [(2,_)] [(2,_)] ⟨(N,a1,(0:Int),(0:Int)),h10⟩ [] ?_
  rintro ⟨⟨n_,v2,v3,v4⟩,h10⟩ _ A3 X3 _
  rcases n_ with _|n13
  ·rw [aE4.eq_1] at h10
   cases h10
  ·replace h10:=(aE4.eq_2 _ _ _ _ _ _).symm.trans h10
   refine j5.seqQ fun _ A4 X4 _=>?_
   refine j5.seqQ fun _ A5 _ _=>?_
   obtain ⟨o16,h15,h10⟩:=j4 h10
   refine jk (ι:={ s // o16=s }) hn (fun s=>[(22,.bool s.1)]) (fun s=>[]) [(1,_),(2,_),(5,_),(6,_)] [(2,_)] (fun _ A6 _ _=>?_) ?_
   ·refine q9 hn ?_
    refine l5 h15 (fun hb17 h15=>?_) (fun hb17 h15=>?_)
    ·refine j3 hb17 ?_
     refine j3 hb17 ?_
     refine j3 hb17 ?_
     refine u7 (fun _=>?_)
     refine j3 hb17 ?_
     refine j3 hb17 ?_
     refine l5 h15 (fun hb19 h15=>?_) (fun hb19 h15=>?_)
     ·refine j3 hb19 ?_
      refine j3 hb19 ?_
      refine j3 hb19 ?_
      refine u7 (fun _=>?_)
      refine j3 hb19 ?_
      refine j3 hb19 ?_
      refine A6 _ _ ?_
      exact jn ⟨_,sj h15⟩ []
     refine d9 hb19 ?_
     refine d9 hb19 ?_
     refine d9 hb19 ?_
     refine d9 hb19 ?_
     refine d9 hb19 ?_
     refine A6 _ _ ?_
     exact jn ⟨_,sj h15⟩ []
    refine d9 hb17 ?_
    refine d9 hb17 ?_
    refine d9 hb17 ?_
    refine d9 hb17 ?_
    refine d9 hb17 ?_
    refine A6 _ _ ?_
    exact jn ⟨_,sj h15⟩ []
   rintro ⟨v14,hv_⟩
   replace hv_:=hv_.symm
   subst hv_
   refine A5 _ _ ?_
   refine l8 hn ?_
   refine l5 h10 (fun hb21 h10=>?_) (fun hb21 h10=>?_)
   ·refine q8 hn ?_
    refine A4 _ _ ?_
    refine j5.seqQ fun _ A7 _ _=>?_
    refine j5.blkQ fun _ A8 _ _ _=>?_
    refine j6 hn ?_
    obtain ⟨x22,hx23,h10⟩:=j4 h10
    refine I8 hx23 ?_
    refine Or.inr ?_
    refine q9 hn ?_
    obtain ⟨x24,hx25,h10⟩:=j4 h10
    refine I8 hx25 ?_
    refine A8 _ _ ?_
    refine A7 _ _ ?_
    refine kp [(1,_),(2,_),(5,_),(6,_)] [(2,_)] ?_
    refine q9 hn ?_
    refine Or.inr ?_
    refine A3 _ _ ?_
    exact jn ⟨(n13,x24.super,(wr (v3+x22.slots)),(wr (v4+(1:Int)))),h10⟩ [] (by show n13 < n13+1; omega)
   refine K8 hn ?_
   refine X4 _ _ _ ?_
   refine X3 _ _ _ ?_
   refine E2 _ _ ?_
   refine A1 _ _ ?_
   exact jn ⟨_,sj h10⟩ []
 rintro ⟨v8,hv_⟩
 replace hv_:=hv_.symm
 subst hv_
 refine A0 _ _ ?_
 refine j6 hn ?_
 refine got hn ?_
 obtain rfl:=Option.some.inj h
 exact ⟨[],_,fm⟩

/- value.New -/
set_option maxRecDepth 100000 in
set_option maxHeartbeats 8000000 in
theorem cM9 (N:Nat) (a0:(List Ob)) (a1:Int) (a2:Int) (r:((List Ob)×V×Int)) (h:bC8 N a0 a1 a2=some r):Spec Try.prog 120 [] [.sl 2 (List.map H8 a0),.int a1,.int a2] (.tup [.own 0,.agg (eV r.2.1),.int r.2.2]) [(0,.deep 2 97 [(1,(2,27))] (List.map H8 r.1) [] 1),(1,.gone)] [0,1]:=by
 refine Spec.of D5 Try.func120 rfl Try.ntmps120 (by kernel_rfl) rfl rfl rfl fun Γ hn=>?_
 unfold bC8 at h
 refine j6 hn ?_
 refine j5.seqQ fun _ A0 _ R0=>?_
 refine j6 hn ?_
 refine u7 (fun _=>?_)
 refine l8 hn ?_
 refine l5 h (fun hb2 h=>?_) (fun hb2 h=>?_)
 ·refine j6 hn ?_
  refine j5.nilrow 6 206 2 97 rfl rfl rfl ?_
  refine j5.gh (Gh.toDeep 206 501 [(1,(2,27))] rfl rfl rfl rfl) (fun _=>?_)
  refine got hn ?_
  refine R0 _ _ ?_
  obtain rfl:=Option.some.inj h
  exact ⟨[(0,206),(1,501)],_,fm⟩
 refine q8 hn ?_
 refine A0 _ _ ?_
 refine j5.seqQ fun _ A1 _ _=>?_
 refine H7 hn (by kernel_rfl) ?_
 obtain ⟨r3,hr4,h⟩:=j4 h
 show l7 Try.prog _ _ _ _
 refine cA (((bX2 N a0 r3 hr4).sw 0 14).sw 1 714) ?_
 obtain ⟨hg5,h⟩:=C9 h
 refine mkM (enc:=eV) (x:=(⟨(0:Int),(0:Int)⟩:V)) hg5 (by repeat (first|exact trivial|exact rfl|(refine And.intro ?_ ?_))) ?_
 refine Or.inl ?_
 refine Exists.intro [(1,(2,27))] (Exists.intro (H8 (⟨a1,(List.replicate (max a2 (0:Int)).toNat (⟨(0:Int),(0:Int)⟩:V))⟩:Ob)) (Exists.intro [(18,.row 2 (List.map eV (List.replicate (max a2 (0:Int)).toNat (⟨(0:Int),(0:Int)⟩:V))) 27)] (And.intro rfl (And.intro rfl (And.intro rfl (And.intro (by decide) (And.intro (by decide) (And.intro rfl (And.intro rfl ?_)))))))))
 obtain ⟨hg6,h⟩:=C9 h
 refine c82 (l2:=[(⟨a1,(List.replicate (max a2 (0:Int)).toNat (⟨(0:Int),(0:Int)⟩:V))⟩:Ob)]) hg6 rfl rfl rfl rfl rfl (by decide) (by decide) ?_
 refine u7 (fun _=>?_)
 refine A1 _ _ ?_
 refine got hn ?_
 obtain rfl:=Option.some.inj h
 exact ⟨[(0,21),(1,721)],_,fm⟩

/- qcref5.WrongCall -/
set_option maxRecDepth 100000 in
set_option maxHeartbeats 8000000 in
theorem bT9 (N:Nat) (a0:Wd) (a1:O6) (a2:Int) (r:Int) (h:aJ1 N a0 a1 a2=some r):Spec Try.prog 17 [] [.agg (P5 a0),.agg (bH6 a1),.int a2] (.int r) [] []:=by
 refine Spec.of D5 Try.func17 rfl Try.ntmps17 (by kernel_rfl) rfl rfl rfl fun Γ hn=>?_
 unfold aJ1 at h
 refine j6 hn ?_
 refine j5.seqQ fun _ A0 _ R0=>?_
 refine j6 hn ?_
 obtain ⟨r1,hr2,h⟩:=j4 h
 show l7 Try.prog _ _ _ _
 refine cA (aN7 N a1.name r1 hr2) ?_
 refine l8 hn ?_
 refine l5 h (fun hb3 h=>?_) (fun hb3 h=>?_)
 ·refine j6 hn ?_
  refine got hn ?_
  refine R0 _ _ ?_
  obtain rfl:=Option.some.inj h
  exact ⟨[],_,fm⟩
 refine q8 hn ?_
 refine A0 _ _ ?_
 refine j5.seqQ fun _ A1 _ R1=>?_
 refine j6 hn ?_
 refine u7 (fun _=>?_)
 refine l8 hn ?_
 refine l5 h (fun hb5 h=>?_) (fun hb5 h=>?_)
 ·refine j6 hn ?_
  refine got hn ?_
  refine R1 _ _ ?_
  obtain rfl:=Option.some.inj h
  exact ⟨[],_,fm⟩
 refine q8 hn ?_
 refine A1 _ _ ?_
 refine j5.seqQ fun _ A2 _ R2=>?_
 refine j5.seqQ fun _ A3 _ _=>?_
 obtain ⟨o8,h7,h⟩:=j4 h
 refine jk (ι:={ s // o8=s }) hn (fun s=>[(24,.bool s.1)]) (fun s=>[]) [(3,_),(4,_)] [(3,_),(4,_)] (fun _ A4 _ _=>?_) ?_
 ·refine q9 hn ?_
  refine l5 h7 (fun hb9 h7=>?_) (fun hb9 h7=>?_)
  ·refine j3 hb9 ?_
   refine j3 hb9 ?_
   refine A4 _ _ ?_
   exact jn ⟨_,sj h7⟩ []
  refine d9 hb9 ?_
  refine d9 hb9 ?_
  refine A4 _ _ ?_
  exact jn ⟨_,sj h7⟩ []
 rintro ⟨v6,hv_⟩
 replace hv_:=hv_.symm
 subst hv_
 refine A3 _ _ ?_
 refine l8 hn ?_
 refine l5 h (fun hb10 h=>?_) (fun hb10 h=>?_)
 ·refine j6 hn ?_
  refine got hn ?_
  refine R2 _ _ ?_
  obtain rfl:=Option.some.inj h
  exact ⟨[],_,fm⟩
 refine q8 hn ?_
 refine A2 _ _ ?_
 refine j5.seqQ fun _ A5 _ R5=>?_
 refine j6 hn ?_
 refine u7 (fun _=>?_)
 obtain ⟨r12,hr13,h⟩:=j4 h
 show l7 Try.prog _ _ _ _
 refine cA (aZ7 N a1.self_ (a0.heap.length:Int) r12 hr13) ?_
 refine j6 hn ?_
 refine l8 hn ?_
 refine l5 h (fun hb14 h=>?_) (fun hb14 h=>?_)
 ·refine j6 hn ?_
  refine got hn ?_
  refine R5 _ _ ?_
  obtain rfl:=Option.some.inj h
  exact ⟨[],_,fm⟩
 refine q8 hn ?_
 refine A5 _ _ ?_
 refine j5.seqQ fun _ A6 _ R6=>?_
 refine j6 hn ?_
 refine u7 (fun hl15=>?_)
 obtain ⟨o17,h18,h⟩:=j4 h
 refine jk (ι:={ s // o17=D7.next s }) hn (fun s=>[]) (fun s=>[]) [] [] (fun _ A7 _ R7=>?_) ?_
 ·refine j5.blkQ fun _ _ E8 _ R8=>?_
  refine lq (ι:={ q:((List V)×Nat) // q.1=a1.args.drop q.2∧U8 N a0 q.1 q.2=some o17 }) hn (fun q=>[(37,.int (q.1.2:Int))]) (fun q=>[]) (fun q=>q.1.1.length) [(3,_),(35,_),(36,_)] [(3,_)] ⟨(a1.args,0),rfl,h18⟩ [] ?_
  rintro ⟨⟨rest_,k16⟩,hd20,h18⟩ _ A9 X9 R9
  replace hd20:rest_=a1.args.drop k16:=hd20
  rcases rest_ with _|⟨x22,rest19⟩
  ·have hlt24:=H5 hd20
   replace h18:=(U8.eq_1 _ _ _).symm.trans h18
   refine j6 hn ?_
   refine j5.seqQ fun _ _ X10 _=>?_
   refine l8 hn ?_
   refine d9 hlt24 ?_
   refine K8 hn ?_
   refine X10 _ _ _ ?_
   refine X9 _ _ _ ?_
   refine E8 _ _ ?_
   refine A7 _ _ ?_
   exact jn ⟨_,sj h18⟩ []
  ·obtain ⟨hx23,hd2,hlt24⟩:=F3 hd20
   replace h18:=(U8.eq_2 _ _ _ _ _).symm.trans h18
   refine j6 hn ?_
   refine j5.seqQ fun _ A11 _ _=>?_
   refine l8 hn ?_
   refine j3 hlt24 ?_
   refine q8 hn ?_
   refine A11 _ _ ?_
   refine j5.seqQ fun _ A12 _ R12=>?_
   refine j5.blkQ fun _ A13 _ _ R13=>?_
   refine j6 hn ?_
   refine Z4 hx23 ?_
   refine j6 hn ?_
   refine u7 (fun _=>?_)
   obtain ⟨r26,hr27,h18⟩:=j4 h18
   show l7 Try.prog _ _ _ _
   refine cA (aZ7 N x22 (a0.heap.length:Int) r26 hr27) ?_
   refine j6 hn ?_
   refine l8 hn ?_
   refine l5 h18 (fun hb28 h18=>?_) (fun hb28 h18=>?_)
   ·refine j6 hn ?_
    refine got hn ?_
    refine R13 _ _ ?_
    refine R12 _ _ ?_
    refine R9 _ _ ?_
    refine R8 _ _ ?_
    refine R7 _ _ ?_
    refine R6 _ _ ?_
    obtain rfl:=Option.some.inj h18
    obtain rfl:=Option.some.inj h
    exact ⟨[],_,fm⟩
   refine q8 hn ?_
   refine A13 _ _ ?_
   refine A12 _ _ ?_
   refine q9 hn ?_
   refine Or.inl (And.intro (T9 hx23 hl15) ?_)
   refine A9 _ _ ?_
   exact jn ⟨(rest19,k16+1),hd2,h18⟩ [] (by show rest19.length < rest19.length+1; omega)
 rintro ⟨⟨⟩,rfl⟩
 refine A6 _ _ ?_
 refine j6 hn ?_
 refine got hn ?_
 obtain rfl:=Option.some.inj h
 exact ⟨[],_,fm⟩

/- qcref1.Class -/
set_option maxRecDepth 100000 in
set_option maxHeartbeats 8000000 in
theorem bK0 (N:Nat) (a0:(List Ob)) (a1:V) (r:Int) (h:aN5 N a0 a1=some r):Spec Try.prog 45 [] [.sl 2 (List.map H8 a0),.agg (eV a1)] (.int r) [] []:=by
 refine Spec.of D5 Try.func45 rfl Try.ntmps45 (by kernel_rfl) rfl rfl rfl fun Γ hn=>?_
 unfold aN5 at h
 refine j6 hn ?_
 refine j5.seqQ fun _ A0 _ R0=>?_
 refine j5.seqQ fun _ A1 _ _=>?_
 obtain ⟨o3,h2,h⟩:=j4 h
 refine jk (ι:={ s // o3=s }) hn (fun s=>[(19,.bool s.1)]) (fun s=>[]) [(0,_),(3,_)] [(3,_)] (fun _ A2 _ _=>?_) ?_
 ·refine q9 hn ?_
  refine l5 h2 (fun hb4 h2=>?_) (fun hb4 h2=>?_)
  ·refine j3 hb4 ?_
   refine j3 hb4 ?_
   refine j3 hb4 ?_
   refine l5 h2 (fun hb5 h2=>?_) (fun hb5 h2=>?_)
   ·refine j3 hb5 ?_
    refine j3 hb5 ?_
    refine j3 hb5 ?_
    refine u7 (fun _=>?_)
    refine j3 hb5 ?_
    refine j3 hb5 ?_
    refine A2 _ _ ?_
    exact jn ⟨_,sj h2⟩ []
   refine d9 hb5 ?_
   refine d9 hb5 ?_
   refine d9 hb5 ?_
   refine d9 hb5 ?_
   refine d9 hb5 ?_
   refine A2 _ _ ?_
   exact jn ⟨_,sj h2⟩ []
  refine d9 hb4 ?_
  refine d9 hb4 ?_
  refine d9 hb4 ?_
  refine A2 _ _ ?_
  exact jn ⟨_,sj h2⟩ []
 rintro ⟨v1,hv_⟩
 replace hv_:=hv_.symm
 subst hv_
 refine A1 _ _ ?_
 refine l8 hn ?_
 refine l5 h (fun hb7 h=>?_) (fun hb7 h=>?_)
 ·refine j6 hn ?_
  obtain ⟨x8,hx9,h⟩:=j4 h
  refine I8 hx9 ?_
  refine got hn ?_
  refine R0 _ _ ?_
  obtain rfl:=Option.some.inj h
  exact ⟨[],_,fm⟩
 refine q8 hn ?_
 refine A0 _ _ ?_
 refine j5.seqQ fun _ A3 _ R3=>?_
 refine j5.seqQ fun _ A4 _ _=>?_
 obtain ⟨o12,h11,h⟩:=j4 h
 refine jk (ι:={ s // o12=s }) hn (fun s=>[(33,.bool s.1)]) (fun s=>[]) [(3,_)] [(3,_)] (fun _ A5 _ _=>?_) ?_
 ·refine q9 hn ?_
  refine l5 h11 (fun hb13 h11=>?_) (fun hb13 h11=>?_)
  ·refine j3 hb13 ?_
   refine j3 hb13 ?_
   refine j3 hb13 ?_
   refine A5 _ _ ?_
   exact jn ⟨_,sj h11⟩ []
  refine d9 hb13 ?_
  refine d9 hb13 ?_
  refine d9 hb13 ?_
  refine A5 _ _ ?_
  exact jn ⟨_,sj h11⟩ []
 rintro ⟨v10,hv_⟩
 replace hv_:=hv_.symm
 subst hv_
 refine A4 _ _ ?_
 refine l8 hn ?_
 refine l5 h (fun hb14 h=>?_) (fun hb14 h=>?_)
 ·refine j6 hn ?_
  refine got hn ?_
  refine R3 _ _ ?_
  obtain rfl:=Option.some.inj h
  exact ⟨[],_,fm⟩
 refine q8 hn ?_
 refine A3 _ _ ?_
 refine j6 hn ?_
 refine Exists.intro (List.map C8 [(1:Int),(2:Int),(2:Int),(3:Int)]) (And.intro (by repeat (first|exact trivial|exact rfl|(refine And.intro ?_ ?_))) ?_)
 obtain ⟨x15,hx16,h⟩:=j4 h
 refine V6 hx16 ?_
 refine U3 (u6 hx16).2 ?_
 refine got hn ?_
 obtain rfl:=Option.some.inj h
 exact ⟨[],_,fm⟩

/- qcref1.Find -/
set_option maxRecDepth 100000 in
set_option maxHeartbeats 8000000 in
theorem bP1 (N:Nat) (a0:Wd) (a1:Int) (a2:ByteArray) (r:(Int×Int)) (h:aM4 N a0 a1 a2=some r):Spec Try.prog 22 [] [.agg (P5 a0),.int a1,.str a2] (.tup [.int r.1,.int r.2]) [] []:=by
 refine Spec.of D5 Try.func22 rfl Try.ntmps22 (by kernel_rfl) rfl rfl rfl fun Γ hn=>?_
 unfold aM4 at h
 refine j6 hn ?_
 refine j5.seqQ fun _ A0 _ R0=>?_
 refine j6 hn ?_
 obtain ⟨r1,hr2,h⟩:=j4 h
 show l7 Try.prog _ _ _ _
 refine cA ((bT0 N a0 a1 r1 hr2).sw 0 14) ?_
 refine u7 (fun hl3=>?_)
 obtain ⟨o5,h6,h⟩:=j4 h
 refine jk (ι:={ s // o5=D7.next s }) hn (fun s=>[]) (fun s=>[]) [] [] (fun _ A1 _ R1=>?_) ?_
 ·refine j5.blkQ fun _ _ E2 _ R2=>?_
  refine lq (ι:={ q:((List Int)×Nat) // q.1=r1.drop q.2∧aD7 N a0 a2 r1 q.1 q.2=some o5 }) hn (fun q=>[(16,.int (q.1.2:Int))]) (fun q=>[]) (fun q=>q.1.1.length) [(2,_),(3,_),(14,_),(15,_)] [(3,_),(14,_)] ⟨(r1,0),rfl,h6⟩ [] ?_
  rintro ⟨⟨rest_,k4⟩,hd8,h6⟩ _ A3 X3 R3
  replace hd8:rest_=r1.drop k4:=hd8
  rcases rest_ with _|⟨x10,rest7⟩
  ·have hlt12:=H5 hd8
   replace h6:=(aD7.eq_1 _ _ _ _ _).symm.trans h6
   refine j6 hn ?_
   refine j5.seqQ fun _ _ X4 _=>?_
   refine l8 hn ?_
   refine d9 hlt12 ?_
   refine K8 hn ?_
   refine X4 _ _ _ ?_
   refine X3 _ _ _ ?_
   refine E2 _ _ ?_
   refine A1 _ _ ?_
   exact jn ⟨_,sj h6⟩ []
  ·obtain ⟨hx11,hd2,hlt12⟩:=F3 hd8
   replace h6:=(aD7.eq_2 _ _ _ _ _ _ _).symm.trans h6
   refine j6 hn ?_
   refine j5.seqQ fun _ A5 _ _=>?_
   refine l8 hn ?_
   refine j3 hlt12 ?_
   refine q8 hn ?_
   refine A5 _ _ ?_
   refine j5.seqQ fun _ A6 _ R6=>?_
   refine j5.blkQ fun _ A7 _ _ R7=>?_
   refine j6 hn ?_
   obtain ⟨x13,hx14,h6⟩:=j4 h6
   refine V6 hx14 ?_
   refine U3 (u6 hx14).2 ?_
   refine j6 hn ?_
   obtain ⟨x15,hx16,h6⟩:=j4 h6
   refine I8 hx16 ?_
   refine u7 (fun hl17=>?_)
   obtain ⟨o19,h20,h6⟩:=j4 h6
   refine jk (ι:={ s // o19=D7.next s }) hn (fun s=>[]) (fun s=>[]) [(2,_),(3,_),(14,_),(15,_),(16,_)] [(3,_),(14,_)] (fun _ A8 _ R8=>?_) ?_
   ·refine j5.blkQ fun _ _ E9 _ R9=>?_
    refine lq (ι:={ q:((List Me)×Nat) // q.1=x15.methods.drop q.2∧aD8 N a2 x13 q.1 q.2=some o19 }) hn (fun q=>[(27,.int (q.1.2:Int))]) (fun q=>[]) (fun q=>q.1.1.length) [(2,_),(3,_),(9,_),(14,_),(15,_),(16,_),(25,_),(26,_)] [(3,_),(14,_)] ⟨(x15.methods,0),rfl,h20⟩ [] ?_
    rintro ⟨⟨rest_,k18⟩,hd22,h20⟩ _ A10 X10 R10
    replace hd22:rest_=x15.methods.drop k18:=hd22
    rcases rest_ with _|⟨x24,rest21⟩
    ·have hlt26:=H5 hd22
     replace h20:=(aD8.eq_1 _ _ _ _).symm.trans h20
     refine j6 hn ?_
     refine j5.seqQ fun _ _ X11 _=>?_
     refine l8 hn ?_
     refine d9 hlt26 ?_
     refine K8 hn ?_
     refine X11 _ _ _ ?_
     refine X10 _ _ _ ?_
     refine E9 _ _ ?_
     refine A8 _ _ ?_
     exact jn ⟨_,sj h20⟩ []
    ·obtain ⟨hx25,hd2,hlt26⟩:=F3 hd22
     replace h20:=(aD8.eq_2 _ _ _ _ _ _).symm.trans h20
     refine j6 hn ?_
     refine j5.seqQ fun _ A12 _ _=>?_
     refine l8 hn ?_
     refine j3 hlt26 ?_
     refine q8 hn ?_
     refine A12 _ _ ?_
     refine j5.seqQ fun _ A13 _ R13=>?_
     refine j5.blkQ fun _ A14 _ _ R14=>?_
     refine j6 hn ?_
     refine Z4 hx25 ?_
     refine j6 hn ?_
     refine l8 hn ?_
     refine l5 h20 (fun hb27 h20=>?_) (fun hb27 h20=>?_)
     ·refine kp [(9,_),(10,_)] [] ?_
      refine j6 hn ?_
      refine got hn ?_
      refine R14 _ _ ?_
      refine R13 _ _ ?_
      refine R10 _ _ ?_
      refine R9 _ _ ?_
      refine R8 _ _ ?_
      refine R7 _ _ ?_
      refine R6 _ _ ?_
      refine R3 _ _ ?_
      refine R2 _ _ ?_
      refine R1 _ _ ?_
      refine R0 _ _ ?_
      obtain rfl:=Option.some.inj h20
      obtain rfl:=Option.some.inj h6
      obtain rfl:=Option.some.inj h
      exact ⟨[],_,fm⟩
     refine q8 hn ?_
     refine A14 _ _ ?_
     refine A13 _ _ ?_
     refine kp [(2,_),(3,_),(9,_),(14,_),(15,_),(16,_),(25,_),(26,_),(27,_)] [(3,_),(14,_)] ?_
     refine q9 hn ?_
     refine Or.inl (And.intro (T9 hx25 hl17) ?_)
     refine A10 _ _ ?_
     exact jn ⟨(rest21,k18+1),hd2,h20⟩ [] (by show rest21.length < rest21.length+1; omega)
   rintro ⟨⟨⟩,rfl⟩
   refine A7 _ _ ?_
   refine A6 _ _ ?_
   refine q9 hn ?_
   refine Or.inl (And.intro (T9 hx11 hl3) ?_)
   refine A3 _ _ ?_
   exact jn ⟨(rest7,k4+1),hd2,h6⟩ [] (by show rest7.length < rest7.length+1; omega)
 rintro ⟨⟨⟩,rfl⟩
 refine A0 _ _ ?_
 refine j6 hn ?_
 refine got hn ?_
 obtain rfl:=Option.some.inj h
 exact ⟨[],_,fm⟩

/- qcref1.Bool -/
set_option maxRecDepth 100000 in
set_option maxHeartbeats 8000000 in
theorem aU2 (N:Nat) (a0:Bool) (r:V) (h:aM8 N a0=some r):Spec Try.prog 109 [] [.bool a0] (.agg (eV r)) [] []:=by
 refine Spec.of D5 Try.func109 rfl Try.ntmps109 (by kernel_rfl) rfl rfl rfl fun Γ hn=>?_
 unfold aM8 at h
 refine j6 hn ?_
 refine j5.seqQ fun _ A0 _ R0=>?_
 refine j6 hn ?_
 refine l8 hn ?_
 refine l5 h (fun hb1 h=>?_) (fun hb1 h=>?_)
 ·refine j6 hn ?_
  refine got hn ?_
  refine R0 _ _ ?_
  obtain rfl:=Option.some.inj h
  exact ⟨[],_,fm⟩
 refine q8 hn ?_
 refine A0 _ _ ?_
 refine j6 hn ?_
 refine got hn ?_
 obtain rfl:=Option.some.inj h
 exact ⟨[],_,fm⟩

/- qcref1.Prim -/
set_option maxRecDepth 100000 in
set_option maxHeartbeats 8000000 in
theorem cB5 (N:Nat) (a0:Int) (a1:V) (a2:V) (r:(V×Int)) (h:aW3 N a0 a1 a2=some r):Spec Try.prog 82 [] [.int a0,.agg (eV a1),.agg (eV a2)] (.tup [.agg (eV r.1),.int r.2]) [] []:=by
 refine Spec.of D5 Try.func82 rfl Try.ntmps82 (by kernel_rfl) rfl rfl rfl fun Γ hn=>?_
 unfold aW3 at h
 refine j6 hn ?_
 refine j5.seqQ fun _ A0 _ R0=>?_
 refine j5.seqQ fun _ A1 _ _=>?_
 obtain ⟨o3,h2,h⟩:=j4 h
 refine jk (ι:={ s // o3=s }) hn (fun s=>[(17,.bool s.1)]) (fun s=>[]) [(0,_),(4,_),(5,_),(6,_)] [(4,_),(5,_),(6,_)] (fun _ A2 _ _=>?_) ?_
 ·refine q9 hn ?_
  refine l5 h2 (fun hb4 h2=>?_) (fun hb4 h2=>?_)
  ·refine j3 hb4 ?_
   refine j3 hb4 ?_
   refine j3 hb4 ?_
   refine A2 _ _ ?_
   exact jn ⟨_,sj h2⟩ []
  refine d9 hb4 ?_
  refine d9 hb4 ?_
  refine d9 hb4 ?_
  refine A2 _ _ ?_
  exact jn ⟨_,sj h2⟩ []
 rintro ⟨v1,hv_⟩
 replace hv_:=hv_.symm
 subst hv_
 refine A1 _ _ ?_
 refine l8 hn ?_
 refine l5 h (fun hb5 h=>?_) (fun hb5 h=>?_)
 ·refine j6 hn ?_
  refine got hn ?_
  refine R0 _ _ ?_
  obtain rfl:=Option.some.inj h
  exact ⟨[],_,fm⟩
 refine q8 hn ?_
 refine A0 _ _ ?_
 refine j6 hn ?_
 refine j5.seqQ fun _ A3 _ R3=>?_
 refine j6 hn ?_
 obtain ⟨o8,h7,h⟩:=j4 h
 refine jk (ι:={ s // o8=D7.next s }) hn (fun s=>[(8,.int s.1)]) (fun s=>[]) [(6,_)] [(6,_)] (fun _ A4 _ R4=>?_) ?_
 ·refine j5.blkQ fun _ A5 _ _ R5=>?_
  refine j6 hn ?_
  obtain ⟨o11,h10,h7⟩:=j4 h7
  refine jk (ι:={ s // o11=D7.next s }) hn (fun s=>[(8,.int s.1)]) (fun s=>[]) [(6,_)] [(6,_)] (fun _ A6 _ R6=>?_) ?_
  ·refine l8 hn ?_
   refine l5 h10 (fun hb12 h10=>?_) (fun hb12 h10=>?_)
   ·refine q9 hn ?_
    refine Or.inr ?_
    refine A6 _ _ ?_
    exact jn ⟨_,sj h10⟩ []
   refine j6 hn ?_
   obtain ⟨o15,h14,h10⟩:=j4 h10
   refine jk (ι:={ s // o15=D7.next s }) hn (fun s=>[(8,.int s.1)]) (fun s=>[]) [(6,_)] [(6,_)] (fun _ A7 _ R7=>?_) ?_
   ·refine l8 hn ?_
    refine l5 h14 (fun hb16 h14=>?_) (fun hb16 h14=>?_)
    ·refine q9 hn ?_
     refine Or.inr ?_
     refine A7 _ _ ?_
     exact jn ⟨_,sj h14⟩ []
    refine j6 hn ?_
    refine l8 hn ?_
    refine l5 h14 (fun hb17 h14=>?_) (fun hb17 h14=>?_)
    ·refine q9 hn ?_
     refine Or.inr ?_
     refine A7 _ _ ?_
     exact jn ⟨_,sj h14⟩ []
    refine j6 hn ?_
    refine l8 hn ?_
    refine l5 h14 (fun hb18 h14=>?_) (fun hb18 h14=>?_)
    ·refine j6 hn ?_
     obtain ⟨r19,hr20,h14⟩:=j4 h14
     show l7 Try.prog _ _ _ _
     refine cA (aU2 N (decide (a1.n < a2.n)) r19 hr20) ?_
     refine got hn ?_
     refine R7 _ _ ?_
     refine R6 _ _ ?_
     refine R5 _ _ ?_
     refine R4 _ _ ?_
     refine R3 _ _ ?_
     obtain rfl:=Option.some.inj h14
     obtain rfl:=Option.some.inj h10
     obtain rfl:=Option.some.inj h7
     obtain rfl:=Option.some.inj h
     exact ⟨[],_,fm⟩
    refine j6 hn ?_
    refine l8 hn ?_
    refine l5 h14 (fun hb21 h14=>?_) (fun hb21 h14=>?_)
    ·refine kp [(4,_),(5,_),(6,_)] [(4,_),(5,_),(6,_)] ?_
     refine j6 hn ?_
     obtain ⟨r22,hr23,h14⟩:=j4 h14
     show l7 Try.prog _ _ _ _
     refine cA (aU2 N (decide (a1.n=a2.n)) r22 hr23) ?_
     refine got hn ?_
     refine R7 _ _ ?_
     refine R6 _ _ ?_
     refine R5 _ _ ?_
     refine R4 _ _ ?_
     refine R3 _ _ ?_
     obtain rfl:=Option.some.inj h14
     obtain rfl:=Option.some.inj h10
     obtain rfl:=Option.some.inj h7
     obtain rfl:=Option.some.inj h
     exact ⟨[],_,fm⟩
    refine kp [(6,_)] [(6,_)] ?_
    refine j6 hn ?_
    refine got hn ?_
    refine R7 _ _ ?_
    refine R6 _ _ ?_
    refine R5 _ _ ?_
    refine R4 _ _ ?_
    refine R3 _ _ ?_
    obtain rfl:=Option.some.inj h14
    obtain rfl:=Option.some.inj h10
    obtain rfl:=Option.some.inj h7
    obtain rfl:=Option.some.inj h
    exact ⟨[],_,fm⟩
   rintro ⟨v13,rfl⟩
   refine A6 _ _ ?_
   exact jn ⟨_,sj h10⟩ []
  rintro ⟨v9,rfl⟩
  refine A5 _ _ ?_
  refine A4 _ _ ?_
  exact jn ⟨_,sj h7⟩ []
 rintro ⟨v6,rfl⟩
 refine A3 _ _ ?_
 refine j6 hn ?_
 refine j5.seqQ fun _ A8 _ R8=>?_
 refine j6 hn ?_
 refine l8 hn ?_
 refine l5 h (fun hb24 h=>?_) (fun hb24 h=>?_)
 ·refine j6 hn ?_
  obtain ⟨hg25,h⟩:=C9 h
  refine dJ8 hg25 ?_
  refine Or.inr ?_
  refine Or.inr ?_
  refine got hn ?_
  refine R8 _ _ ?_
  obtain rfl:=Option.some.inj h
  exact ⟨[],_,fm⟩
 refine q8 hn ?_
 refine A8 _ _ ?_
 refine j6 hn ?_
 obtain ⟨hg26,h⟩:=C9 h
 refine cV3 hg26 ?_
 obtain ⟨hg27,h⟩:=C9 h
 refine dJ8 hg27 ?_
 refine Or.inr ?_
 refine Or.inr ?_
 refine got hn ?_
 obtain rfl:=Option.some.inj h
 exact ⟨[],_,fm⟩

/- (*qcref5.R).Enter -/
set_option maxRecDepth 100000 in
set_option maxHeartbeats 8000000 in
theorem bU4 (N:Nat) (gR:(Nat→TR→Int→Me→V→(List V)→Option (V×TR))) (a0:TR) (a1:Int) (a2:Int) (a3:V) (a4:(List V)) (hgR:∀(N:Nat) (a0:TR) (a1:Int) (a2:Me) (a3:V) (a4:(List V)) (r:(V×TR)),gR N a0 a1 a2 a3 a4=some r→Spec Try.prog 83 [(1000,.box [.sl 4 (List.map K7 a0.w.classes),.sl 2 (List.map H8 a0.w.heap),.int a0.w.epoch,.int a0.fuel,.int a0.sends,.int a0.turns,.int a0.deep,.int a0.err,.own 1001,.own 1002] 99),(1001,.row 3 (List.map eSt a0.sites) 56),(1002,.row 1 (List.map C8 a0.of) 3)] [.ptr 1000 0,.int a1,.agg (O1 a2),.agg (eV a3),.sl 2 (List.map eV a4)] (.agg (eV r.1)) [(1000,.box [.sl 4 (List.map K7 r.2.w.classes),.sl 2 (List.map H8 r.2.w.heap),.int r.2.w.epoch,.int r.2.fuel,.int r.2.sends,.int r.2.turns,.int r.2.deep,.int r.2.err,.own 2,.own 3] 99),(2,.row 3 (List.map eSt r.2.sites) 56),(1001,.gone),(3,.row 1 (List.map C8 r.2.of) 3),(1002,.gone)] [2,3]) (r:(V×TR)) (h:aK6 N gR a0 a1 a2 a3 a4=some r):Spec Try.prog 46 [(1000,.box [.sl 4 (List.map K7 a0.w.classes),.sl 2 (List.map H8 a0.w.heap),.int a0.w.epoch,.int a0.fuel,.int a0.sends,.int a0.turns,.int a0.deep,.int a0.err,.own 1001,.own 1002] 99),(1001,.row 3 (List.map eSt a0.sites) 56),(1002,.row 1 (List.map C8 a0.of) 3)] [.ptr 1000 0,.int a1,.int a2,.agg (eV a3),.sl 2 (List.map eV a4)] (.agg (eV r.1)) [(1000,.box [.sl 4 (List.map K7 r.2.w.classes),.sl 2 (List.map H8 r.2.w.heap),.int r.2.w.epoch,.int r.2.fuel,.int r.2.sends,.int r.2.turns,.int r.2.deep,.int r.2.err,.own 2,.own 3] 99),(2,.row 3 (List.map eSt r.2.sites) 56),(1001,.gone),(3,.row 1 (List.map C8 r.2.of) 3),(1002,.gone)] [2,3]:=by
 refine Spec.of D5 Try.func46 rfl Try.ntmps46 (by kernel_rfl) rfl rfl rfl fun Γ hn=>?_
 unfold aK6 at h
 refine j5.reidB 1000 8 1001 320 rfl rfl rfl rfl rfl rfl rfl rfl rfl ?_
 refine j5.reidB 1000 9 1002 321 rfl rfl rfl rfl rfl rfl rfl rfl rfl ?_
 refine j6 hn ?_
 refine j6 hn ?_
 obtain ⟨x1,hx2,h⟩:=j4 h
 refine I8 hx2 ?_
 obtain ⟨x3,hx4,h⟩:=j4 h
 refine I8 hx4 ?_
 refine j5.seqQ fun _ A0 _ R0=>?_
 refine kp [(0,_),(1,_),(4,_),(8,_),(10,_),(11,_)] [(8,_),(10,_),(11,_),(320,_),(321,_),(1000,_),(1001,_),(1002,_)] ?_
 refine j6 hn ?_
 refine u7 (fun _=>?_)
 refine l8 hn ?_
 refine l5 h (fun hb6 h=>?_) (fun hb6 h=>?_)
 ·refine j6 hn ?_
  refine j6 hn ?_
  refine got hn ?_
  refine R0 _ _ ?_
  obtain rfl:=Option.some.inj h
  exact ⟨[(2,320),(3,321)],_,fm⟩
 refine q8 hn ?_
 refine A0 _ _ ?_
 refine j5.seqQ fun _ A1 _ R1=>?_
 refine j5.seqQ fun _ A2 _ _=>?_
 refine H7 hn (by kernel_rfl) ?_
 refine A2 _ _ ?_
 refine l8 hn ?_
 refine l5 h (fun hb7 h=>?_) (fun hb7 h=>?_)
 ·refine kp [(0,_),(10,_)] [(10,_),(320,_),(321,_),(1000,_),(1001,_),(1002,_)] ?_
  refine j6 hn ?_
  refine j6 hn ?_
  refine got hn ?_
  refine R1 _ _ ?_
  obtain rfl:=Option.some.inj h
  exact ⟨[(2,320),(3,321)],_,fm⟩
 refine q8 hn ?_
 refine A1 _ _ ?_
 refine j5.seqQ fun _ A3 _ R3=>?_
 refine kp [(0,_),(1,_),(4,_),(8,_),(10,_),(11,_)] [(8,_),(10,_),(11,_),(320,_),(321,_),(1000,_),(1001,_),(1002,_)] ?_
 refine j6 hn ?_
 refine l8 hn ?_
 refine l5 h (fun hb8 h=>?_) (fun hb8 h=>?_)
 ·refine j6 hn ?_
  refine Or.inr ?_
  refine j5.seqQ fun _ A4 _ _=>?_
  refine H7 hn (by kernel_rfl) ?_
  obtain ⟨x9,hx10,h⟩:=j4 h
  refine I8 hx10 ?_
  obtain ⟨r11,hr12,h⟩:=j4 h
  show l7 Try.prog _ _ _ _
  refine cA (cB5 N x3.prim a3 x9 r11 hr12) ?_
  refine A4 _ _ ?_
  refine kp [(0,_),(10,_),(12,_),(13,_)] [(10,_),(12,_),(320,_),(321,_),(1000,_),(1001,_),(1002,_)] ?_
  refine j6 hn ?_
  refine j6 hn ?_
  refine got hn ?_
  refine R3 _ _ ?_
  obtain rfl:=Option.some.inj h
  exact ⟨[(2,320),(3,321)],_,fm⟩
 refine q8 hn ?_
 refine A3 _ _ ?_
 refine j5.seqQ fun _ A5 _ R5=>?_
 refine j6 hn ?_
 refine l8 hn ?_
 refine l5 h (fun hb13 h=>?_) (fun hb13 h=>?_)
 ·refine j6 hn ?_
  refine kp [(0,_),(10,_)] [(10,_),(320,_),(321,_),(1000,_),(1001,_),(1002,_)] ?_
  refine j6 hn ?_
  refine got hn ?_
  refine R5 _ _ ?_
  obtain rfl:=Option.some.inj h
  exact ⟨[(2,320),(3,321)],_,fm⟩
 refine q8 hn ?_
 refine A5 _ _ ?_
 refine j6 hn ?_
 refine Or.inr ?_
 refine kp [(0,_),(1,_),(4,_),(8,_),(10,_),(11,_)] [(8,_),(10,_),(11,_),(320,_),(321,_),(1000,_),(1001,_),(1002,_)] ?_
 refine j6 hn ?_
 refine Or.inr ?_
 refine j6 hn ?_
 obtain ⟨r14,hr15,h⟩:=j4 h
 show l7 Try.prog _ _ _ _
 refine cA ((hgR N (⟨a0.w,a0.fuel,(wr (a0.sends+(1:Int))),a0.turns,(wr (a0.deep+(1:Int))),a0.err,a0.sites,a0.of⟩:TR) a1 x3 a3 a4 r14 hr15).swl [(1001,320),(1002,321),(2,501),(3,502)] rfl) ?_
 refine kp [(0,_),(10,_),(14,_)] [(10,_),(14,_),(501,_),(502,_),(1000,_),(1001,_),(1002,_)] ?_
 refine j6 hn ?_
 refine Or.inr ?_
 refine j6 hn ?_
 refine got hn ?_
 obtain rfl:=Option.some.inj h
 exact ⟨[(2,501),(3,502)],_,fm⟩

/- qcref1.Slot -/
set_option maxRecDepth 100000 in
set_option maxHeartbeats 8000000 in
theorem cE3 (N:Nat) (a0:(List Ob)) (a1:V) (a2:Int) (r:V) (h:aW1 N a0 a1 a2=some r):Spec Try.prog 111 [] [.sl 2 (List.map H8 a0),.agg (eV a1),.int a2] (.agg (eV r)) [] []:=by
 refine Spec.of D5 Try.func111 rfl Try.ntmps111 (by kernel_rfl) rfl rfl rfl fun Γ hn=>?_
 unfold aW1 at h
 refine j6 hn ?_
 refine j5.seqQ fun _ A0 _ R0=>?_
 refine j5.seqQ fun _ A1 _ _=>?_
 obtain ⟨o3,h2,h⟩:=j4 h
 refine jk (ι:={ s // o3=s }) hn (fun s=>[(23,.bool s.1)]) (fun s=>[]) [(0,_),(2,_),(4,_),(6,_)] [(4,_),(6,_)] (fun _ A2 _ _=>?_) ?_
 ·refine q9 hn ?_
  refine l5 h2 (fun hb4 h2=>?_) (fun hb4 h2=>?_)
  ·refine j3 hb4 ?_
   refine j3 hb4 ?_
   refine j3 hb4 ?_
   refine l5 h2 (fun hb5 h2=>?_) (fun hb5 h2=>?_)
   ·refine j3 hb5 ?_
    refine j3 hb5 ?_
    refine j3 hb5 ?_
    refine u7 (fun _=>?_)
    refine j3 hb5 ?_
    refine j3 hb5 ?_
    refine A2 _ _ ?_
    exact jn ⟨_,sj h2⟩ []
   refine d9 hb5 ?_
   refine d9 hb5 ?_
   refine d9 hb5 ?_
   refine d9 hb5 ?_
   refine d9 hb5 ?_
   refine A2 _ _ ?_
   exact jn ⟨_,sj h2⟩ []
  refine d9 hb4 ?_
  refine d9 hb4 ?_
  refine d9 hb4 ?_
  refine A2 _ _ ?_
  exact jn ⟨_,sj h2⟩ []
 rintro ⟨v1,hv_⟩
 replace hv_:=hv_.symm
 subst hv_
 refine A1 _ _ ?_
 obtain ⟨o8,h7,h⟩:=j4 h
 refine jk (ι:={ s // o8=D7.next s }) hn (fun s=>[]) (fun s=>[]) [(6,_)] [(6,_)] (fun _ A3 _ R3=>?_) ?_
 ·refine l8 hn ?_
  refine l5 h7 (fun hb9 h7=>?_) (fun hb9 h7=>?_)
  ·refine j6 hn ?_
   obtain ⟨x10,hx11,h7⟩:=j4 h7
   refine I8 hx11 ?_
   refine u7 (fun hl12=>?_)
   obtain ⟨o14,h15,h7⟩:=j4 h7
   refine jk (ι:={ s // o14=D7.next s }) hn (fun s=>[]) (fun s=>[]) [(6,_)] [(6,_)] (fun _ A4 _ R4=>?_) ?_
   ·refine j5.blkQ fun _ _ E5 _ R5=>?_
    refine lq (ι:={ q:((List V)×Nat) // q.1=x10.slots.drop q.2∧aB5 N a2 q.1 q.2=some o14 }) hn (fun q=>[(31,.int (q.1.2:Int))]) (fun q=>[]) (fun q=>q.1.1.length) [(2,_),(6,_),(29,_),(30,_)] [(6,_)] ⟨(x10.slots,0),rfl,h15⟩ [] ?_
    rintro ⟨⟨rest_,k13⟩,hd17,h15⟩ _ A6 X6 R6
    replace hd17:rest_=x10.slots.drop k13:=hd17
    rcases rest_ with _|⟨x19,rest16⟩
    ·have hlt21:=H5 hd17
     replace h15:=(aB5.eq_1 _ _ _).symm.trans h15
     refine j6 hn ?_
     refine j5.seqQ fun _ _ X7 _=>?_
     refine l8 hn ?_
     refine d9 hlt21 ?_
     refine K8 hn ?_
     refine X7 _ _ _ ?_
     refine X6 _ _ _ ?_
     refine E5 _ _ ?_
     refine A4 _ _ ?_
     exact jn ⟨_,sj h15⟩ []
    ·obtain ⟨hx20,hd2,hlt21⟩:=F3 hd17
     replace h15:=(aB5.eq_2 _ _ _ _ _).symm.trans h15
     refine j6 hn ?_
     refine j5.seqQ fun _ A8 _ _=>?_
     refine l8 hn ?_
     refine j3 hlt21 ?_
     refine q8 hn ?_
     refine A8 _ _ ?_
     refine j5.seqQ fun _ A9 _ R9=>?_
     refine j5.blkQ fun _ A10 _ _ R10=>?_
     refine j6 hn ?_
     refine Z4 hx20 ?_
     refine j6 hn ?_
     refine l8 hn ?_
     refine l5 h15 (fun hb22 h15=>?_) (fun hb22 h15=>?_)
     ·refine j6 hn ?_
      refine got hn ?_
      refine R10 _ _ ?_
      refine R9 _ _ ?_
      refine R6 _ _ ?_
      refine R5 _ _ ?_
      refine R4 _ _ ?_
      refine R3 _ _ ?_
      refine R0 _ _ ?_
      obtain rfl:=Option.some.inj h15
      obtain rfl:=Option.some.inj h7
      obtain rfl:=Option.some.inj h
      exact ⟨[],_,fm⟩
     refine q8 hn ?_
     refine A10 _ _ ?_
     refine A9 _ _ ?_
     refine q9 hn ?_
     refine Or.inl (And.intro (T9 hx20 hl12) ?_)
     refine A6 _ _ ?_
     exact jn ⟨(rest16,k13+1),hd2,h15⟩ [] (by show rest16.length < rest16.length+1; omega)
   rintro ⟨⟨⟩,rfl⟩
   refine A3 _ _ ?_
   exact jn ⟨_,sj h7⟩ []
  refine q8 hn ?_
  refine A3 _ _ ?_
  exact jn ⟨_,sj h7⟩ []
 rintro ⟨⟨⟩,rfl⟩
 refine A0 _ _ ?_
 refine j6 hn ?_
 refine got hn ?_
 obtain rfl:=Option.some.inj h
 exact ⟨[],_,fm⟩

/- (*qcref5.R).Body$1 -/
set_option maxRecDepth 100000 in
set_option maxHeartbeats 8000000 in
theorem aB6 (N:Nat) (b0:(List V)) (r:(V×(List V))) (h:Q9 N b0=some r):Spec Try.prog 110 [(1000,.box [.own 1001] 28),(1001,.row 2 (List.map eV b0) 27)] [.ptr 1000 0] (.agg (eV r.1)) [(1000,.box [.own 2] 28),(2,.row 2 (List.map eV r.2) 27),(1001,.gone)] [2]:=by
 refine Spec.of D5 Try.func110 rfl Try.ntmps110 (by kernel_rfl) rfl rfl rfl fun Γ hn=>?_
 unfold Q9 at h
 refine j5.reidB 1000 0 1001 320 rfl rfl rfl rfl rfl rfl rfl rfl rfl ?_
 refine j6 hn ?_
 refine j6 hn ?_
 refine u7 (fun _=>?_)
 refine Or.inr ?_
 obtain ⟨x2,hx3,h⟩:=j4 h
 refine V6 hx3 ?_
 refine U3 (u6 hx3).2 ?_
 refine j6 hn ?_
 refine u7 (fun _=>?_)
 refine Or.inr ?_
 obtain ⟨hg5,h⟩:=C9 h
 refine bK7 hg5 rfl rfl ?_
 refine j6 hn ?_
 refine got hn ?_
 obtain rfl:=Option.some.inj h
 exact ⟨[(2,13)],_,fm⟩

/- (*qcref5.R).slot -/
set_option maxRecDepth 100000 in
set_option maxHeartbeats 8000000 in
theorem b48 (N:Nat) (a0:TR) (a1:V) (a2:Int) (a3:V) (r:TR) (h:aQ0 N a0 a1 a2 a3=some r):Spec Try.prog 112 [(1000,.box [.sl 4 (List.map K7 a0.w.classes),.sl 2 (List.map H8 a0.w.heap),.int a0.w.epoch,.int a0.fuel,.int a0.sends,.int a0.turns,.int a0.deep,.int a0.err,.own 1001,.own 1002] 99),(1001,.row 3 (List.map eSt a0.sites) 56),(1002,.row 1 (List.map C8 a0.of) 3)] [.ptr 1000 0,.agg (eV a1),.int a2,.agg (eV a3)] (.tup []) [(1000,.box [.sl 4 (List.map K7 r.w.classes),.sl 2 (List.map H8 r.w.heap),.int r.w.epoch,.int r.fuel,.int r.sends,.int r.turns,.int r.deep,.int r.err,.own 2,.own 3] 99),(2,.row 3 (List.map eSt r.sites) 56),(1001,.gone),(3,.row 1 (List.map C8 r.of) 3),(1002,.gone)] [2,3]:=by
 refine Spec.of D5 Try.func112 rfl Try.ntmps112 (by kernel_rfl) rfl rfl rfl fun Γ hn=>?_
 unfold aQ0 at h
 refine j5.reidB 1000 8 1001 320 rfl rfl rfl rfl rfl rfl rfl rfl rfl ?_
 refine j5.reidB 1000 9 1002 321 rfl rfl rfl rfl rfl rfl rfl rfl rfl ?_
 refine j6 hn ?_
 refine j6 hn ?_
 refine Or.inr ?_
 refine Exists.intro (List.map H8 ([]:List Ob)) (And.intro (by repeat (first|exact trivial|exact rfl|(refine And.intro ?_ ?_))) ?_)
 obtain ⟨hg1,h⟩:=C9 h
 refine O7 (l2:=a0.w.heap) hg1 (z8 _) ?_
 refine j5.seqQ fun _ A0 _ _=>?_
 obtain ⟨o4,h3,h⟩:=j4 h
 refine jk (ι:={ s // o4=s }) hn (fun s=>[(37,.bool s.1)]) (fun s=>[]) [(0,_),(2,_),(5,_),(7,_),(8,_)] [(5,_),(7,_),(16,_),(320,_),(321,_),(1000,_),(1001,_),(1002,_)] (fun _ A1 _ _=>?_) ?_
 ·refine q9 hn ?_
  refine l5 h3 (fun hb5 h3=>?_) (fun hb5 h3=>?_)
  ·refine j3 hb5 ?_
   refine j3 hb5 ?_
   refine j3 hb5 ?_
   refine u7 (fun _=>?_)
   refine j3 hb5 ?_
   refine j3 hb5 ?_
   refine l5 h3 (fun hb7 h3=>?_) (fun hb7 h3=>?_)
   ·refine j3 hb7 ?_
    refine j3 hb7 ?_
    refine j3 hb7 ?_
    refine j3 hb7 ?_
    obtain ⟨x8,hx9,h3⟩:=j4 h3
    refine V6 hx9 ?_
    refine j3 hb7 ?_
    refine j3 hb7 ?_
    refine U3 (u6 hx9).2 ?_
    refine j3 hb7 ?_
    refine u7 (fun _=>?_)
    refine j3 hb7 ?_
    refine j3 hb7 ?_
    refine A1 _ _ ?_
    exact jn ⟨_,sj h3⟩ []
   refine d9 hb7 ?_
   refine d9 hb7 ?_
   refine d9 hb7 ?_
   refine d9 hb7 ?_
   refine d9 hb7 ?_
   refine d9 hb7 ?_
   refine d9 hb7 ?_
   refine d9 hb7 ?_
   refine d9 hb7 ?_
   refine A1 _ _ ?_
   exact jn ⟨_,sj h3⟩ []
  refine d9 hb5 ?_
  refine d9 hb5 ?_
  refine d9 hb5 ?_
  refine d9 hb5 ?_
  refine d9 hb5 ?_
  refine A1 _ _ ?_
  exact jn ⟨_,sj h3⟩ []
 rintro ⟨v2,hv_⟩
 replace hv_:=hv_.symm
 subst hv_
 refine A0 _ _ ?_
 obtain ⟨o13,h12,h⟩:=j4 h
 refine jk (ι:={ s // o13=s }) hn (fun s=>[]) (fun s=>[(1000,.box [.sl 4 (List.map K7 a0.w.classes),.sl 2 (List.map H8 s.1),.int a0.w.epoch,.int a0.fuel,.int a0.sends,.int a0.turns,.int a0.deep,.int a0.err,.own 320,.own 321] 99)]) [(0,_)] [(320,_),(321,_),(1001,_),(1002,_)] (fun _ A2 _ _=>?_) ?_
 ·refine l8 hn ?_
  refine l5 h12 (fun hb14 h12=>?_) (fun hb14 h12=>?_)
  ·refine j6 hn ?_
   refine Exists.intro (List.map eV ([]:List V)) (And.intro (by repeat (first|exact trivial|exact rfl|(refine And.intro ?_ ?_))) ?_)
   obtain ⟨x15,hx16,h12⟩:=j4 h12
   refine V6 hx16 ?_
   refine U3 (u6 hx16).2 ?_
   obtain ⟨hg17,h12⟩:=C9 h12
   refine O7 (l2:=x15.slots) hg17 (z8 _) ?_
   refine j6 hn ?_
   obtain ⟨x18,hx19,h12⟩:=j4 h12
   refine V6 hx19 ?_
   refine U3 (u6 hx19).2 ?_
   refine Exists.intro (List.map eV ((([]:List V)++x15.slots).set a2.toNat a3)) (And.intro (aP3 (u6 hx19).2 (by repeat (first|exact trivial|exact rfl|(refine And.intro ?_ ?_)))) ?_)
   refine j5.fzAll 45 rfl ?_
   refine kp [(0,_),(5,_),(8,_),(9,_)] [(5,_),(16,_),(320,_),(321,_),(1000,_),(1001,_),(1002,_)] ?_
   refine j6 hn ?_
   obtain ⟨x20,hx21,h12⟩:=j4 h12
   refine V6 hx21 ?_
   refine U3 (u6 hx21).2 ?_
   refine Exists.intro (List.map H8 ((([]:List Ob)++a0.w.heap).set a1.n.toNat (⟨x20.cls,((([]:List V)++x15.slots).set a2.toNat a3)⟩:Ob))) (And.intro (aP3 (u6 hx21).2 (by repeat (first|exact trivial|exact rfl|(refine And.intro ?_ ?_)))) ?_)
   refine q9 hn ?_
   refine A2 _ _ ?_
   refine I4.fzAll 16 rfl ?_
   exact jn ⟨_,sj h12⟩ []
  refine q8 hn ?_
  refine A2 _ _ ?_
  exact jn ⟨_,sj h12⟩ []
 rintro ⟨v11,hv_⟩
 replace hv_:=hv_.symm
 subst hv_
 obtain rfl:=Option.some.inj h
 exact ⟨[(2,320),(3,321)],_,fm⟩

/- (*qcref5.R).Body -/
set_option maxRecDepth 100000 in
set_option maxHeartbeats 8000000 in
theorem bV8 (N:Nat) (gR:(Nat→TR→Int→Int→V→(List V)→Option (V×TR))) (a0:TR) (a1:Int) (a2:Me) (a3:V) (a4:(List V)) (hgR:∀(N:Nat) (a0:TR) (a1:Int) (a2:Int) (a3:V) (a4:(List V)) (r:(V×TR)),gR N a0 a1 a2 a3 a4=some r→Spec Try.prog 46 [(1000,.box [.sl 4 (List.map K7 a0.w.classes),.sl 2 (List.map H8 a0.w.heap),.int a0.w.epoch,.int a0.fuel,.int a0.sends,.int a0.turns,.int a0.deep,.int a0.err,.own 1001,.own 1002] 99),(1001,.row 3 (List.map eSt a0.sites) 56),(1002,.row 1 (List.map C8 a0.of) 3)] [.ptr 1000 0,.int a1,.int a2,.agg (eV a3),.sl 2 (List.map eV a4)] (.agg (eV r.1)) [(1000,.box [.sl 4 (List.map K7 r.2.w.classes),.sl 2 (List.map H8 r.2.w.heap),.int r.2.w.epoch,.int r.2.fuel,.int r.2.sends,.int r.2.turns,.int r.2.deep,.int r.2.err,.own 2,.own 3] 99),(2,.row 3 (List.map eSt r.2.sites) 56),(1001,.gone),(3,.row 1 (List.map C8 r.2.of) 3),(1002,.gone)] [2,3]) (r:(V×TR)) (h:aL9 N gR a0 a1 a2 a3 a4=some r):Spec Try.prog 83 [(1000,.box [.sl 4 (List.map K7 a0.w.classes),.sl 2 (List.map H8 a0.w.heap),.int a0.w.epoch,.int a0.fuel,.int a0.sends,.int a0.turns,.int a0.deep,.int a0.err,.own 1001,.own 1002] 99),(1001,.row 3 (List.map eSt a0.sites) 56),(1002,.row 1 (List.map C8 a0.of) 3)] [.ptr 1000 0,.int a1,.agg (O1 a2),.agg (eV a3),.sl 2 (List.map eV a4)] (.agg (eV r.1)) [(1000,.box [.sl 4 (List.map K7 r.2.w.classes),.sl 2 (List.map H8 r.2.w.heap),.int r.2.w.epoch,.int r.2.fuel,.int r.2.sends,.int r.2.turns,.int r.2.deep,.int r.2.err,.own 2,.own 3] 99),(2,.row 3 (List.map eSt r.2.sites) 56),(1001,.gone),(3,.row 1 (List.map C8 r.2.of) 3),(1002,.gone)] [2,3]:=by
 refine Spec.of D5 Try.func83 rfl Try.ntmps83 (by kernel_rfl) rfl rfl rfl fun Γ hn=>?_
 unfold aL9 at h
 refine j5.reidB 1000 8 1001 320 rfl rfl rfl rfl rfl rfl rfl rfl rfl ?_
 refine j5.reidB 1000 9 1002 321 rfl rfl rfl rfl rfl rfl rfl rfl rfl ?_
 refine j6 hn ?_
 refine j6 hn ?_
 obtain ⟨hg1,h⟩:=C9 h
 refine mkM (enc:=eV) (x:=(⟨(0:Int),(0:Int)⟩:V)) hg1 (by repeat (first|exact trivial|exact rfl|(refine And.intro ?_ ?_))) ?_
 refine j6 hn ?_
 refine j6 hn ?_
 refine j6 hn ?_
 refine j5.seqQ fun _ A0 _ R0=>?_
 refine j5.nilrowB 12 0 501 2 27 rfl rfl rfl rfl rfl rfl ?_
 obtain ⟨o39,h40,h⟩:=j4 h
 refine jk (ι:={ s // o39=D7.next s }) hn (fun s=>[]) (fun s=>[(320,.row 3 (List.map eSt s.1.2.2.2.2.2.2.2.2.1) 56),(321,.row 1 (List.map C8 s.1.2.2.2.2.2.2.2.2.2) 3),(1000,.box [.sl 4 (List.map K7 s.1.1),.sl 2 (List.map H8 s.1.2.1),.int s.1.2.2.1,.int s.1.2.2.2.1,.int s.1.2.2.2.2.1,.int s.1.2.2.2.2.2.1,.int s.1.2.2.2.2.2.2.1,.int s.1.2.2.2.2.2.2.2.1,.own 320,.own 321] 99)]) [(0,_),(10,_)] [(10,_),(1001,_),(1002,_)] (fun _ A1 _ R1=>?_) ?_
 ·refine j5.blkQ fun _ _ E2 _ R2=>?_
  refine lq (ι:={ q:(Nat×(List Cl)×(List Ob)×Int×Int×Int×Int×Int×Int×(List St)×(List Int)×(List V)×(List V)×Int) // G7 N gR a1 a2 a3 a4 q.1 q.2.1 q.2.2.1 q.2.2.2.1 q.2.2.2.2.1 q.2.2.2.2.2.1 q.2.2.2.2.2.2.1 q.2.2.2.2.2.2.2.1 q.2.2.2.2.2.2.2.2.1 q.2.2.2.2.2.2.2.2.2.1 q.2.2.2.2.2.2.2.2.2.2.1 q.2.2.2.2.2.2.2.2.2.2.2.1 q.2.2.2.2.2.2.2.2.2.2.2.2.1 q.2.2.2.2.2.2.2.2.2.2.2.2.2=some o39 }) hn (fun q=>[(14,.int q.1.2.2.2.2.2.2.2.2.2.2.2.2.2)]) (fun q=>[(27,.row 2 (List.map eV q.1.2.2.2.2.2.2.2.2.2.2.2.1) 27),(320,.row 3 (List.map eSt q.1.2.2.2.2.2.2.2.2.2.1) 56),(321,.row 1 (List.map C8 q.1.2.2.2.2.2.2.2.2.2.2.1) 3),(501,.row 2 (List.map eV q.1.2.2.2.2.2.2.2.2.2.2.2.2.1) 27),(1000,.box [.sl 4 (List.map K7 q.1.2.1),.sl 2 (List.map H8 q.1.2.2.1),.int q.1.2.2.2.1,.int q.1.2.2.2.2.1,.int q.1.2.2.2.2.2.1,.int q.1.2.2.2.2.2.2.1,.int q.1.2.2.2.2.2.2.2.1,.int q.1.2.2.2.2.2.2.2.2.1,.own 320,.own 321] 99)]) (fun q=>q.1.1) [(0,_),(1,_),(4,_),(7,_),(8,_),(10,_),(11,_),(12,_),(13,_)] [(7,_),(8,_),(10,_),(12,_),(1001,_),(1002,_)] ⟨(N,a0.w.classes,a0.w.heap,a0.w.epoch,a0.fuel,a0.sends,a0.turns,a0.deep,a0.err,a0.sites,a0.of,(List.replicate a2.temps.toNat (⟨(0:Int),(0:Int)⟩:V)),([]:List V),(0:Int)),h40⟩ [] ?_
  rintro ⟨⟨n_,v3,v4,v5,v6,v7,v8,v9,v10,v11,v12,v13,v14,v15⟩,h40⟩ _ A3 X3 R3
  rcases n_ with _|n43
  ·rw [G7.eq_1] at h40
   cases h40
  ·replace h40:=(G7.eq_2 _ _ _ _ _ _ _ _ _ _ _ _ _ _ _ _ _ _ _ _).symm.trans h40
   refine j5.seqQ fun _ A4 X4 _=>?_
   refine j6 hn ?_
   refine l8 hn ?_
   refine l5 h40 (fun hb44 h40=>?_) (fun hb44 h40=>?_)
   ·refine q8 hn ?_
    refine A4 _ _ ?_
    refine j5.blkQ fun _ A5 _ _ R5=>?_
    refine j6 hn ?_
    obtain ⟨x45,hx46,h40⟩:=j4 h40
    refine I8 hx46 ?_
    refine kp [(0,_),(1,_),(4,_),(7,_),(8,_),(10,_),(11,_),(12,_),(13,_),(14,_),(15,_)] [(7,_),(8,_),(10,_),(12,_),(15,_),(27,_),(320,_),(321,_),(501,_),(1000,_),(1001,_),(1002,_)] ?_
    refine j6 hn ?_
    refine Or.inr ?_
    refine j5.seqQ fun _ A6 _ R6=>?_
    refine j6 hn ?_
    obtain ⟨o61,h60,h40⟩:=j4 h40
    refine jk (ι:={ s // o61=D7.next s }) hn (fun s=>[(16,.int s.1.2.2.2.2.2.2.2.2.2.2.2.2)]) (fun s=>[(12,.box [.own 48] 28),(27,.row 2 (List.map eV s.1.2.2.2.2.2.2.2.2.2.2.1) 27),(48,.row 2 (List.map eV s.1.2.2.2.2.2.2.2.2.2.2.2.1) 27),(320,.row 3 (List.map eSt s.1.2.2.2.2.2.2.2.2.1) 56),(321,.row 1 (List.map C8 s.1.2.2.2.2.2.2.2.2.2.1) 3),(1000,.box [.sl 4 (List.map K7 s.1.1),.sl 2 (List.map H8 s.1.2.1),.int s.1.2.2.1,.int s.1.2.2.2.1,.int s.1.2.2.2.2.1,.int s.1.2.2.2.2.2.1,.int s.1.2.2.2.2.2.2.1,.int s.1.2.2.2.2.2.2.2.1,.own 320,.own 321] 99)]) [(0,_),(1,_),(4,_),(7,_),(8,_),(10,_),(11,_),(12,_),(13,_),(14,_)] [(7,_),(8,_),(10,_),(1001,_),(1002,_)] (fun _ A7 _ R7=>?_) ?_
    ·refine j5.blkQ fun _ A8 E8 _ R8=>?_
     refine j6 hn ?_
     refine l8 hn ?_
     refine l5 h60 (fun hb62 h60=>?_) (fun hb62 h60=>?_)
     ·refine kp [(0,_),(1,_),(4,_),(7,_),(8,_),(10,_),(11,_),(12,_),(13,_),(14,_),(16,_)] [(7,_),(8,_),(10,_),(12,_),(27,_),(320,_),(321,_),(501,_),(1000,_),(1001,_),(1002,_)] ?_
      refine q9 hn ?_
      refine Exists.intro (List.map eV [a3]) (And.intro (by repeat (first|exact trivial|exact rfl|(refine And.intro ?_ ?_))) ?_)
      obtain ⟨hg63,h60⟩:=C9 h60
      refine O7 (l2:=[a3]) hg63 (z8 _) ?_
      refine A8 _ _ ?_
      refine A7 _ _ ?_
      exact jn ⟨_,sj h60⟩ []
     refine kp [(0,_),(1,_),(4,_),(7,_),(8,_),(10,_),(11,_),(12,_),(13,_),(14,_),(15,_),(16,_),(42,_)] [(7,_),(8,_),(10,_),(12,_),(15,_),(27,_),(320,_),(321,_),(501,_),(1000,_),(1001,_),(1002,_)] ?_
     refine j6 hn ?_
     refine l8 hn ?_
     refine l5 h60 (fun hb64 h60=>?_) (fun hb64 h60=>?_)
     ·refine H7 hn (by kernel_rfl) ?_
      obtain ⟨x65,hx66,h60⟩:=j4 h60
      refine I8 hx66 ?_
      refine Exists.intro (List.map eV [x65]) (And.intro (by repeat (first|exact trivial|exact rfl|(refine And.intro ?_ ?_))) ?_)
      obtain ⟨hg67,h60⟩:=C9 h60
      refine O7 (l2:=[x65]) hg67 (z8 _) ?_
      refine A8 _ _ ?_
      refine A7 _ _ ?_
      exact jn ⟨_,sj h60⟩ [(48,58)]
     refine j6 hn ?_
     refine l8 hn ?_
     refine l5 h60 (fun hb68 h60=>?_) (fun hb68 h60=>?_)
     ·refine kp [(0,_),(1,_),(4,_),(7,_),(8,_),(10,_),(11,_),(12,_),(13,_),(14,_),(15,_),(16,_)] [(7,_),(8,_),(10,_),(12,_),(15,_),(27,_),(320,_),(321,_),(501,_),(1000,_),(1001,_),(1002,_)] ?_
      refine H7 hn (by kernel_rfl) ?_
      obtain ⟨x69,hx70,h60⟩:=j4 h60
      refine V6 hx70 ?_
      refine U3 (u6 hx70).2 ?_
      refine Exists.intro (List.map eV [x69]) (And.intro (by repeat (first|exact trivial|exact rfl|(refine And.intro ?_ ?_))) ?_)
      obtain ⟨hg71,h60⟩:=C9 h60
      refine O7 (l2:=[x69]) hg71 (z8 _) ?_
      refine A8 _ _ ?_
      refine A7 _ _ ?_
      exact jn ⟨_,sj h60⟩ [(48,68)]
     refine kp [(0,_),(1,_),(4,_),(7,_),(8,_),(10,_),(11,_),(12,_),(13,_),(14,_),(15,_),(16,_),(42,_)] [(7,_),(8,_),(10,_),(12,_),(15,_),(27,_),(320,_),(321,_),(501,_),(1000,_),(1001,_),(1002,_)] ?_
     refine j6 hn ?_
     refine l8 hn ?_
     refine l5 h60 (fun hb72 h60=>?_) (fun hb72 h60=>?_)
     ·refine H7 hn (by kernel_rfl) ?_
      obtain ⟨r73,hr74,h60⟩:=j4 h60
      show l7 Try.prog _ _ _ _
      refine cA (cE3 N v4 a3 x45.a r73 hr74) ?_
      refine Exists.intro (List.map eV [r73]) (And.intro (by repeat (first|exact trivial|exact rfl|(refine And.intro ?_ ?_))) ?_)
      obtain ⟨hg75,h60⟩:=C9 h60
      refine O7 (l2:=[r73]) hg75 (z8 _) ?_
      refine A8 _ _ ?_
      refine A7 _ _ ?_
      exact jn ⟨_,sj h60⟩ [(48,82)]
     refine j6 hn ?_
     refine l8 hn ?_
     refine l5 h60 (fun hb76 h60=>?_) (fun hb76 h60=>?_)
     ·refine kp [(0,_),(1,_),(4,_),(7,_),(8,_),(10,_),(11,_),(12,_),(13,_),(14,_),(15,_),(16,_)] [(7,_),(8,_),(10,_),(12,_),(15,_),(27,_),(320,_),(321,_),(501,_),(1000,_),(1001,_),(1002,_)] ?_
      refine q9 hn ?_
      refine Exists.intro (List.map eV [(⟨(3:Int),x45.a⟩:V)]) (And.intro (by repeat (first|exact trivial|exact rfl|(refine And.intro ?_ ?_))) ?_)
      obtain ⟨hg77,h60⟩:=C9 h60
      refine O7 (l2:=[(⟨(3:Int),x45.a⟩:V)]) hg77 (z8 _) ?_
      refine A8 _ _ ?_
      refine A7 _ _ ?_
      exact jn ⟨_,sj h60⟩ [(48,90)]
     refine kp [(0,_),(1,_),(4,_),(7,_),(8,_),(10,_),(11,_),(12,_),(13,_),(14,_),(15,_),(16,_),(42,_)] [(7,_),(8,_),(10,_),(12,_),(15,_),(27,_),(320,_),(321,_),(501,_),(1000,_),(1001,_),(1002,_)] ?_
     refine j6 hn ?_
     refine l8 hn ?_
     refine l5 h60 (fun hb78 h60=>?_) (fun hb78 h60=>?_)
     ·refine q9 hn ?_
      refine Exists.intro (List.map eV [(⟨(0:Int),(0:Int)⟩:V)]) (And.intro (by repeat (first|exact trivial|exact rfl|(refine And.intro ?_ ?_))) ?_)
      obtain ⟨hg79,h60⟩:=C9 h60
      refine O7 (l2:=[(⟨(0:Int),(0:Int)⟩:V)]) hg79 (z8 _) ?_
      refine A8 _ _ ?_
      refine A7 _ _ ?_
      exact jn ⟨_,sj h60⟩ [(48,96)]
     refine j6 hn ?_
     refine l8 hn ?_
     refine l5 h60 (fun hb80 h60=>?_) (fun hb80 h60=>?_)
     ·refine kp [(0,_),(1,_),(4,_),(7,_),(8,_),(10,_),(11,_),(12,_),(13,_),(14,_),(16,_)] [(7,_),(8,_),(10,_),(12,_),(27,_),(320,_),(321,_),(501,_),(1000,_),(1001,_),(1002,_)] ?_
      refine H7 hn (by kernel_rfl) ?_
      obtain ⟨r81,hr82,h60⟩:=j4 h60
      show l7 Try.prog _ _ _ _
      refine cA (aU2 N false r81 hr82) ?_
      refine Exists.intro (List.map eV [r81]) (And.intro (by repeat (first|exact trivial|exact rfl|(refine And.intro ?_ ?_))) ?_)
      obtain ⟨hg83,h60⟩:=C9 h60
      refine O7 (l2:=[r81]) hg83 (z8 _) ?_
      refine A8 _ _ ?_
      refine A7 _ _ ?_
      exact jn ⟨_,sj h60⟩ [(48,102)]
     refine kp [(0,_),(1,_),(4,_),(7,_),(8,_),(10,_),(11,_),(12,_),(13,_),(14,_),(15,_),(16,_),(42,_)] [(7,_),(8,_),(10,_),(12,_),(15,_),(27,_),(320,_),(321,_),(501,_),(1000,_),(1001,_),(1002,_)] ?_
     refine j6 hn ?_
     refine l8 hn ?_
     refine l5 h60 (fun hb84 h60=>?_) (fun hb84 h60=>?_)
     ·refine H7 hn (by kernel_rfl) ?_
      obtain ⟨r85,hr86,h60⟩:=j4 h60
      show l7 Try.prog _ _ _ _
      refine cA (aU2 N true r85 hr86) ?_
      refine Exists.intro (List.map eV [r85]) (And.intro (by repeat (first|exact trivial|exact rfl|(refine And.intro ?_ ?_))) ?_)
      obtain ⟨hg87,h60⟩:=C9 h60
      refine O7 (l2:=[r85]) hg87 (z8 _) ?_
      refine A8 _ _ ?_
      refine A7 _ _ ?_
      exact jn ⟨_,sj h60⟩ [(48,108)]
     refine j6 hn ?_
     refine l8 hn ?_
     refine l5 h60 (fun hb88 h60=>?_) (fun hb88 h60=>?_)
     ·refine kp [(0,_),(1,_),(4,_),(7,_),(8,_),(10,_),(11,_),(12,_),(13,_),(14,_),(16,_)] [(7,_),(8,_),(10,_),(12,_),(27,_),(320,_),(321,_),(501,_),(1000,_),(1001,_),(1002,_)] ?_
      refine q9 hn ?_
      obtain ⟨r89,hr90,h60⟩:=j4 h60
      show l7 Try.prog _ _ _ _
      refine cA ((((aB6 N v14 r89 hr90).sw 1000 12).sw 1001 501).sw 2 502) ?_
      refine A8 _ _ ?_
      refine A7 _ _ ?_
      exact jn ⟨_,sj h60⟩ [(48,502)]
     refine kp [(0,_),(1,_),(4,_),(7,_),(8,_),(10,_),(11,_),(12,_),(13,_),(14,_),(15,_),(16,_),(42,_)] [(7,_),(8,_),(10,_),(12,_),(15,_),(27,_),(320,_),(321,_),(501,_),(1000,_),(1001,_),(1002,_)] ?_
     refine j6 hn ?_
     refine l8 hn ?_
     refine l5 h60 (fun hb91 h60=>?_) (fun hb91 h60=>?_)
     ·refine j6 hn ?_
      obtain ⟨r92,hr93,h60⟩:=j4 h60
      show l7 Try.prog _ _ _ _
      refine cA ((((aB6 N v14 r92 hr93).sw 1000 12).sw 1001 501).sw 2 503) ?_
      refine kp [(0,_),(1,_),(4,_),(7,_),(8,_),(10,_),(11,_),(12,_),(13,_),(14,_),(16,_),(17,_)] [(7,_),(8,_),(10,_),(12,_),(17,_),(27,_),(320,_),(321,_),(503,_),(1000,_),(1001,_),(1002,_)] ?_
      refine q9 hn ?_
      refine Exists.intro (List.map eV [r92.1,r92.1]) (And.intro (by repeat (first|exact trivial|exact rfl|(refine And.intro ?_ ?_))) ?_)
      obtain ⟨hg94,h60⟩:=C9 h60
      refine O7 (l2:=[r92.1,r92.1]) hg94 (z8 _) ?_
      refine A8 _ _ ?_
      refine A7 _ _ ?_
      exact jn ⟨_,sj h60⟩ [(48,121)]
     refine j6 hn ?_
     refine l8 hn ?_
     refine l5 h60 (fun hb95 h60=>?_) (fun hb95 h60=>?_)
     ·refine kp [(0,_),(1,_),(4,_),(7,_),(8,_),(10,_),(11,_),(12,_),(13,_),(14,_),(15,_),(16,_)] [(7,_),(8,_),(10,_),(12,_),(15,_),(27,_),(320,_),(321,_),(501,_),(1000,_),(1001,_),(1002,_)] ?_
      refine H7 hn (by kernel_rfl) ?_
      obtain ⟨r96,hr97,h60⟩:=j4 h60
      show l7 Try.prog _ _ _ _
      refine cA ((((aB6 N v14 r96 hr97).sw 1000 12).sw 1001 501).sw 2 504) ?_
      obtain ⟨x98,hx99,h60⟩:=j4 h60
      refine V6 hx99 ?_
      refine U3 (u6 hx99).2 ?_
      refine Exists.intro (List.map eV (v13.set x45.a.toNat r96.1)) (And.intro (aP3 (u6 hx99).2 (by repeat (first|exact trivial|exact rfl|(refine And.intro ?_ ?_)))) ?_)
      refine A8 _ _ ?_
      refine A7 _ _ ?_
      exact jn ⟨_,sj h60⟩ [(48,504)]
     refine kp [(0,_),(1,_),(4,_),(7,_),(8,_),(10,_),(11,_),(12,_),(13,_),(14,_),(15,_),(16,_),(42,_)] [(7,_),(8,_),(10,_),(12,_),(15,_),(27,_),(320,_),(321,_),(501,_),(1000,_),(1001,_),(1002,_)] ?_
     refine j6 hn ?_
     refine l8 hn ?_
     refine l5 h60 (fun hb100 h60=>?_) (fun hb100 h60=>?_)
     ·refine H7 hn (by kernel_rfl) ?_
      obtain ⟨r101,hr102,h60⟩:=j4 h60
      show l7 Try.prog _ _ _ _
      refine cA ((((aB6 N v14 r101 hr102).sw 1000 12).sw 1001 501).sw 2 505) ?_
      obtain ⟨r103,hr104,h60⟩:=j4 h60
      show l7 Try.prog _ _ _ _
      refine cA ((b48 N (⟨(⟨v3,v4,v5⟩:Wd),v6,v7,v8,v9,v10,v11,v12⟩:TR) a3 x45.a r101.1 r103 hr104).swl [(1001,320),(1002,321),(2,506),(3,507)] rfl) ?_
      refine A8 _ _ ?_
      refine A7 _ _ ?_
      exact jn ⟨_,sj h60⟩ [(320,506),(321,507),(48,505)]
     refine j6 hn ?_
     refine l8 hn ?_
     refine l5 h60 (fun hb105 h60=>?_) (fun hb105 h60=>?_)
     ·refine j5.seqQ fun _ A9 X9 _=>?_
      refine kp [(0,_),(1,_),(4,_),(7,_),(8,_),(10,_),(11,_),(12,_),(13,_),(14,_),(15,_),(16,_)] [(7,_),(8,_),(10,_),(12,_),(15,_),(27,_),(320,_),(321,_),(501,_),(1000,_),(1001,_),(1002,_)] ?_
      refine j6 hn ?_
      refine u7 (fun _=>?_)
      refine l8 hn ?_
      refine l5 h60 (fun hb107 h60=>?_) (fun hb107 h60=>?_)
      ·refine kp [(0,_),(1,_),(4,_),(7,_),(8,_),(10,_),(11,_),(12,_),(13,_),(14,_),(16,_)] [(7,_),(8,_),(10,_),(12,_),(27,_),(320,_),(321,_),(501,_),(1000,_),(1001,_),(1002,_)] ?_
       refine j6 hn ?_
       refine K8 hn ?_
       refine X9 _ _ _ ?_
       refine E8 _ _ ?_
       refine A7 _ _ ?_
       exact jn ⟨_,sj h60⟩ [(48,501)]
      refine q8 hn ?_
      refine A9 _ _ ?_
      refine j5.seqQ fun _ A10 _ _=>?_
      refine kp [(0,_),(1,_),(4,_),(7,_),(8,_),(10,_),(11,_),(12,_),(13,_),(14,_),(15,_),(16,_)] [(7,_),(8,_),(10,_),(12,_),(15,_),(27,_),(320,_),(321,_),(501,_),(1000,_),(1001,_),(1002,_)] ?_
      refine H7 hn (by kernel_rfl) ?_
      refine u7 (fun _=>?_)
      refine Exists.intro (List.map eV [(⟨(4:Int),(v4.length:Int)⟩:V)]) (And.intro (by repeat (first|exact trivial|exact rfl|(refine And.intro ?_ ?_))) ?_)
      obtain ⟨hg109,h60⟩:=C9 h60
      refine O7 (l2:=[(⟨(4:Int),(v4.length:Int)⟩:V)]) hg109 (z8 _) ?_
      refine A10 _ _ ?_
      refine kp [(0,_),(1,_),(4,_),(7,_),(8,_),(10,_),(11,_),(12,_),(13,_),(14,_),(15,_),(16,_)] [(7,_),(8,_),(10,_),(12,_),(15,_),(27,_),(160,_),(320,_),(321,_),(1000,_),(1001,_),(1002,_)] ?_
      refine H7 hn (by kernel_rfl) ?_
      refine Or.inr ?_
      refine Exists.intro (List.map H8 ([]:List Ob)) (And.intro (by repeat (first|exact trivial|exact rfl|(refine And.intro ?_ ?_))) ?_)
      obtain ⟨hg110,h60⟩:=C9 h60
      refine O7 (l2:=v4) hg110 (z8 _) ?_
      obtain ⟨r111,hr112,h60⟩:=j4 h60
      show l7 Try.prog _ _ _ _
      refine cA (aF9 N (⟨v3,v4,v5⟩:Wd) x45.a r111 hr112) ?_
      obtain ⟨hg113,h60⟩:=C9 h60
      refine mkM (enc:=eV) (x:=(⟨(0:Int),(0:Int)⟩:V)) hg113 (by repeat (first|exact trivial|exact rfl|(refine And.intro ?_ ?_))) ?_
      refine Or.inr ?_
      refine Exists.intro (List.map H8 [(⟨x45.a,(List.replicate r111.toNat (⟨(0:Int),(0:Int)⟩:V))⟩:Ob)]) (And.intro (by repeat (first|exact trivial|exact rfl|(refine And.intro ?_ ?_))) ?_)
      obtain ⟨hg114,h60⟩:=C9 h60
      refine O7 (l2:=[(⟨x45.a,(List.replicate r111.toNat (⟨(0:Int),(0:Int)⟩:V))⟩:Ob)]) hg114 (z8 _) ?_
      refine A8 _ _ ?_
      refine A7 _ _ ?_
      refine I4.fzAll 181 rfl ?_
      exact jn ⟨_,sj h60⟩ [(48,160)]
     refine kp [(0,_),(1,_),(4,_),(7,_),(8,_),(10,_),(11,_),(12,_),(13,_),(14,_),(15,_),(16,_),(42,_)] [(7,_),(8,_),(10,_),(12,_),(15,_),(27,_),(320,_),(321,_),(501,_),(1000,_),(1001,_),(1002,_)] ?_
     refine j6 hn ?_
     refine l8 hn ?_
     refine l5 h60 (fun hb115 h60=>?_) (fun hb115 h60=>?_)
     ·refine j6 hn ?_
      refine u7 (fun _=>?_)
      refine Or.inr ?_
      refine j5.seqQ fun _ A11 _ _=>?_
      refine kp [(0,_),(1,_),(4,_),(7,_),(8,_),(10,_),(11,_),(12,_),(13,_),(14,_),(15,_),(16,_),(18,_)] [(7,_),(8,_),(10,_),(12,_),(15,_),(27,_),(320,_),(321,_),(501,_),(1000,_),(1001,_),(1002,_)] ?_
      refine H7 hn (by kernel_rfl) ?_
      refine Exists.intro (List.map eV ([]:List V)) (And.intro (by repeat (first|exact trivial|exact rfl|(refine And.intro ?_ ?_))) ?_)
      obtain ⟨hg117,h60⟩:=C9 h60
      refine dJ5 hg117 rfl rfl ?_
      obtain ⟨hg118,h60⟩:=C9 h60
      refine O7 (l2:=(v14.drop ((wr ((v14.length:Int) - x45.a)).toNat))) hg118 (c48 _ _) ?_
      refine Or.inr ?_
      obtain ⟨x119,hx120,h60⟩:=j4 h60
      refine V6 hx120 ?_
      refine U3 (u6 hx120).2 ?_
      refine A11 _ _ ?_
      refine kp [(0,_),(1,_),(4,_),(7,_),(8,_),(10,_),(11,_),(12,_),(13,_),(14,_),(15,_),(16,_),(18,_),(19,_),(20,_)] [(7,_),(8,_),(10,_),(12,_),(15,_),(20,_),(27,_),(196,_),(320,_),(321,_),(501,_),(1000,_),(1001,_),(1002,_)] ?_
      refine j6 hn ?_
      refine Or.inr ?_
      obtain ⟨hg121,h60⟩:=C9 h60
      refine bK7 hg121 rfl rfl ?_
      refine j5.seqQ fun _ A12 _ _=>?_
      refine kp [(0,_),(1,_),(4,_),(7,_),(8,_),(10,_),(11,_),(12,_),(13,_),(14,_),(15,_),(16,_),(19,_),(20,_)] [(7,_),(8,_),(10,_),(12,_),(15,_),(20,_),(27,_),(196,_),(205,_),(320,_),(321,_),(1000,_),(1001,_),(1002,_)] ?_
      refine H7 hn (by kernel_rfl) ?_
      obtain ⟨r122,hr123,h60⟩:=j4 h60
      show l7 Try.prog _ _ _ _
      refine cA (bK0 N v4 x119 r122 hr123) ?_
      refine A12 _ _ ?_
      refine j5.seqQ fun _ A13 _ _=>?_
      refine kp [(0,_),(1,_),(4,_),(7,_),(8,_),(10,_),(11,_),(12,_),(13,_),(14,_),(15,_),(16,_),(19,_),(20,_),(21,_)] [(7,_),(8,_),(10,_),(12,_),(15,_),(20,_),(27,_),(196,_),(205,_),(320,_),(321,_),(1000,_),(1001,_),(1002,_)] ?_
      refine H7 hn (by kernel_rfl) ?_
      refine Exists.intro (List.map eSt [(⟨a1,a2.name,v15⟩:St)]) (And.intro (by repeat (first|exact trivial|exact rfl|(refine And.intro ?_ ?_))) ?_)
      obtain ⟨hg124,h60⟩:=C9 h60
      refine O7 (l2:=[(⟨a1,a2.name,v15⟩:St)]) hg124 (z8 _) ?_
      refine Exists.intro (List.map C8 [r122]) (And.intro (by repeat (first|exact trivial|exact rfl|(refine And.intro ?_ ?_))) ?_)
      obtain ⟨hg125,h60⟩:=C9 h60
      refine O7 (l2:=[r122]) hg125 (z8 _) ?_
      refine A13 _ _ ?_
      refine j5.seqQ fun _ A14 _ _=>?_
      refine kp [(0,_),(1,_),(4,_),(7,_),(8,_),(10,_),(11,_),(12,_),(13,_),(14,_),(15,_),(16,_),(19,_),(20,_),(21,_)] [(7,_),(8,_),(10,_),(12,_),(15,_),(20,_),(27,_),(196,_),(205,_),(225,_),(232,_),(1000,_),(1001,_),(1002,_)] ?_
      refine H7 hn (by kernel_rfl) ?_
      obtain ⟨r126,hr127,h60⟩:=j4 h60
      show l7 Try.prog _ _ _ _
      refine cA (bP1 N (⟨v3,v4,v5⟩:Wd) r122 x45.name r126 hr127) ?_
      refine A14 _ _ ?_
      refine j5.seqQ fun _ A15 X15 _=>?_
      refine kp [(0,_),(1,_),(4,_),(7,_),(8,_),(10,_),(11,_),(12,_),(13,_),(14,_),(16,_),(19,_),(20,_),(22,_),(23,_)] [(7,_),(8,_),(10,_),(12,_),(20,_),(27,_),(196,_),(205,_),(225,_),(232,_),(1000,_),(1001,_),(1002,_)] ?_
      refine j6 hn ?_
      refine l8 hn ?_
      refine l5 h60 (fun hb128 h60=>?_) (fun hb128 h60=>?_)
      ·refine kp [(0,_),(1,_),(4,_),(7,_),(8,_),(10,_),(11,_),(12,_),(13,_),(14,_),(16,_)] [(7,_),(8,_),(10,_),(12,_),(27,_),(205,_),(225,_),(232,_),(1000,_),(1001,_),(1002,_)] ?_
       refine j6 hn ?_
       refine K8 hn ?_
       refine X15 _ _ _ ?_
       refine E8 _ _ ?_
       refine A7 _ _ ?_
       exact jn ⟨_,sj h60⟩ [(320,225),(321,232),(48,205)]
      refine q8 hn ?_
      refine A15 _ _ ?_
      refine kp [(0,_),(1,_),(4,_),(7,_),(8,_),(10,_),(11,_),(12,_),(13,_),(14,_),(16,_),(19,_),(20,_),(22,_),(23,_)] [(7,_),(8,_),(10,_),(12,_),(20,_),(27,_),(196,_),(205,_),(225,_),(232,_),(1000,_),(1001,_),(1002,_)] ?_
      refine H7 hn (by kernel_rfl) ?_
      obtain ⟨r129,hr130,h60⟩:=j4 h60
      show l7 Try.prog _ _ _ _
      refine cF ((hgR N (⟨(⟨v3,v4,v5⟩:Wd),v6,v7,v8,v9,v10,(v11++[(⟨a1,a2.name,v15⟩:St)]),(v12++[r122])⟩:TR) r126.1 r126.2 x119 (([]:List V)++(v14.drop ((wr ((v14.length:Int) - x45.a)).toNat))) r129 hr130).swl [(1001,225),(1002,232),(2,508),(3,509)] rfl) ?_
      refine Exists.intro (List.map eV [r129.1]) (And.intro (by repeat (first|exact trivial|exact rfl|(refine And.intro ?_ ?_))) ?_)
      obtain ⟨hg131,h60⟩:=C9 h60
      refine O7 (l2:=[r129.1]) hg131 (z8 _) ?_
      refine A8 _ _ ?_
      refine A7 _ _ ?_
      exact jn ⟨_,sj h60⟩ [(320,508),(321,509),(48,261)]
     refine j6 hn ?_
     obtain ⟨o136,h135,h60⟩:=j4 h60
     refine jk (ι:={ s // o136=D7.next s }) hn (fun s=>[(16,.int s.1.2.2)]) (fun s=>[(501,.row 2 (List.map eV s.1.2.1) 27),(1000,.box [.sl 4 (List.map K7 v3),.sl 2 (List.map H8 v4),.int v5,.int v6,.int v7,.int v8,.int v9,.int s.1.1,.own 320,.own 321] 99)]) [(0,_),(1,_),(4,_),(7,_),(8,_),(10,_),(11,_),(12,_),(13,_),(14,_)] [(7,_),(8,_),(10,_),(12,_),(27,_),(320,_),(321,_),(1001,_),(1002,_)] (fun _ A16 _ R16=>?_) ?_
     ·refine l8 hn ?_
      refine l5 h135 (fun hb137 h135=>?_) (fun hb137 h135=>?_)
      ·refine kp [(0,_),(1,_),(4,_),(7,_),(8,_),(10,_),(11,_),(12,_),(13,_),(14,_),(15,_)] [(7,_),(8,_),(10,_),(12,_),(15,_),(27,_),(320,_),(321,_),(501,_),(1000,_),(1001,_),(1002,_)] ?_
       refine q9 hn ?_
       refine A16 _ _ ?_
       exact jn ⟨_,sj h135⟩ []
      refine kp [(0,_),(1,_),(4,_),(7,_),(8,_),(10,_),(11,_),(12,_),(13,_),(14,_),(15,_),(16,_),(42,_)] [(7,_),(8,_),(10,_),(12,_),(15,_),(27,_),(320,_),(321,_),(501,_),(1000,_),(1001,_),(1002,_)] ?_
      refine j6 hn ?_
      obtain ⟨o142,h141,h135⟩:=j4 h135
      refine jk (ι:={ s // o142=D7.next s }) hn (fun s=>[(16,.int s.1.2.2)]) (fun s=>[(12,.box [.own 510] 28),(510,.row 2 (List.map eV s.1.2.1) 27),(1000,.box [.sl 4 (List.map K7 v3),.sl 2 (List.map H8 v4),.int v5,.int v6,.int v7,.int v8,.int v9,.int s.1.1,.own 320,.own 321] 99)]) [(0,_),(1,_),(4,_),(7,_),(8,_),(10,_),(11,_),(12,_),(13,_),(14,_)] [(7,_),(8,_),(10,_),(27,_),(320,_),(321,_),(1001,_),(1002,_)] (fun _ A17 _ R17=>?_) ?_
      ·refine l8 hn ?_
       refine l5 h141 (fun hb143 h141=>?_) (fun hb143 h141=>?_)
       ·refine j6 hn ?_
        obtain ⟨r144,hr145,h141⟩:=j4 h141
        show l7 Try.prog _ _ _ _
        refine cA ((((aB6 N v14 r144 hr145).sw 1000 12).sw 1001 501).sw 2 510) ?_
        refine kp [(0,_),(1,_),(4,_),(7,_),(8,_),(10,_),(11,_),(12,_),(13,_),(14,_),(15,_),(16,_),(24,_)] [(7,_),(8,_),(10,_),(12,_),(15,_),(24,_),(27,_),(320,_),(321,_),(510,_),(1000,_),(1001,_),(1002,_)] ?_
        refine j6 hn ?_
        obtain ⟨o149,h148,h141⟩:=j4 h141
        refine jk (ι:={ s // o149=s }) hn (fun s=>[(16,.int s.1.2)]) (fun s=>[(1000,.box [.sl 4 (List.map K7 v3),.sl 2 (List.map H8 v4),.int v5,.int v6,.int v7,.int v8,.int v9,.int s.1.1,.own 320,.own 321] 99)]) [(0,_),(1,_),(4,_),(7,_),(8,_),(10,_),(11,_),(12,_),(13,_),(14,_)] [(7,_),(8,_),(10,_),(12,_),(27,_),(320,_),(321,_),(510,_),(1001,_),(1002,_)] (fun _ A18 _ _=>?_) ?_
        ·refine l8 hn ?_
         refine l5 h148 (fun hb150 h148=>?_) (fun hb150 h148=>?_)
         ·refine q9 hn ?_
          refine A18 _ _ ?_
          exact jn ⟨_,sj h148⟩ []
         refine j6 hn ?_
         obtain ⟨o153,h152,h148⟩:=j4 h148
         refine jk (ι:={ s // o153=s }) hn (fun s=>[]) (fun s=>[(1000,.box [.sl 4 (List.map K7 v3),.sl 2 (List.map H8 v4),.int v5,.int v6,.int v7,.int v8,.int v9,.int s.1,.own 320,.own 321] 99)]) [(0,_),(1,_),(4,_),(7,_),(8,_),(10,_),(11,_),(12,_),(13,_),(14,_),(16,_)] [(7,_),(8,_),(10,_),(12,_),(27,_),(320,_),(321,_),(510,_),(1001,_),(1002,_)] (fun _ A19 _ _=>?_) ?_
         ·refine l8 hn ?_
          refine l5 h152 (fun hb154 h152=>?_) (fun hb154 h152=>?_)
          ·refine kp [(0,_),(1,_),(4,_),(7,_),(8,_),(10,_),(11,_),(12,_),(13,_),(14,_),(16,_)] [(7,_),(8,_),(10,_),(12,_),(27,_),(320,_),(321,_),(510,_),(1000,_),(1001,_),(1002,_)] ?_
           refine q9 hn ?_
           refine A19 _ _ ?_
           exact jn ⟨_,sj h152⟩ []
          refine q8 hn ?_
          refine A19 _ _ ?_
          exact jn ⟨_,sj h152⟩ []
         rintro ⟨v151,hv_⟩
         replace hv_:=hv_.symm
         subst hv_
         refine A18 _ _ ?_
         exact jn ⟨_,sj h148⟩ []
        rintro ⟨⟨v146,v147⟩,rfl⟩
        refine A17 _ _ ?_
        exact jn ⟨_,sj h141⟩ []
       refine j6 hn ?_
       refine l8 hn ?_
       refine l5 h141 (fun hb155 h141=>?_) (fun hb155 h141=>?_)
       ·refine kp [(0,_),(10,_),(13,_)] [(10,_),(12,_),(320,_),(321,_),(501,_),(1000,_),(1001,_),(1002,_)] ?_
        refine j6 hn ?_
        obtain ⟨r156,hr157,h141⟩:=j4 h141
        show l7 Try.prog _ _ _ _
        refine cA ((((aB6 N v14 r156 hr157).sw 1000 12).sw 1001 501).sw 2 511) ?_
        refine got hn ?_
        refine R17 _ _ ?_
        refine R16 _ _ ?_
        refine R8 _ _ ?_
        refine R7 _ _ ?_
        refine R6 _ _ ?_
        refine R5 _ _ ?_
        refine R3 _ _ ?_
        refine R2 _ _ ?_
        refine R1 _ _ ?_
        refine R0 _ _ ?_
        obtain rfl:=Option.some.inj h141
        obtain rfl:=Option.some.inj h135
        obtain rfl:=Option.some.inj h60
        obtain rfl:=Option.some.inj h40
        obtain rfl:=Option.some.inj h
        exact ⟨[(2,320),(3,321)],_,fm⟩
       refine q8 hn ?_
       refine A17 _ _ ?_
       exact jn ⟨_,sj h141⟩ [(510,501)]
      rintro ⟨⟨v138,v139,v140⟩,rfl⟩
      refine A16 _ _ ?_
      exact jn ⟨_,sj h135⟩ [(501,510)]
     rintro ⟨⟨v132,v133,v134⟩,rfl⟩
     refine A8 _ _ ?_
     refine A7 _ _ ?_
     exact jn ⟨_,sj h60⟩ [(48,501)]
    rintro ⟨⟨v47,v48,v49,v50,v51,v52,v53,v54,v55,v56,v57,v58,v59⟩,rfl⟩
    refine A6 _ _ ?_
    refine j5.seqQ fun _ A20 _ _=>?_
    refine j6 hn ?_
    obtain ⟨o161,h160,h40⟩:=j4 h40
    refine jk (ι:={ s // o161=s }) hn (fun s=>[]) (fun s=>[(1000,.box [.sl 4 (List.map K7 v47),.sl 2 (List.map H8 v48),.int v49,.int v50,.int v51,.int s.1.1,.int v53,.int s.1.2,.own 320,.own 321] 99)]) [(0,_),(1,_),(4,_),(7,_),(8,_),(10,_),(11,_),(12,_),(13,_),(16,_)] [(7,_),(8,_),(10,_),(12,_),(27,_),(48,_),(320,_),(321,_),(1001,_),(1002,_)] (fun _ A21 _ _=>?_) ?_
    ·refine l8 hn ?_
     refine l5 h160 (fun hb162 h160=>?_) (fun hb162 h160=>?_)
     ·refine j6 hn ?_
      refine Or.inr ?_
      refine kp [(0,_),(1,_),(4,_),(7,_),(8,_),(10,_),(11,_),(12,_),(13,_),(16,_)] [(7,_),(8,_),(10,_),(12,_),(27,_),(48,_),(320,_),(321,_),(1000,_),(1001,_),(1002,_)] ?_
      refine j6 hn ?_
      obtain ⟨o165,h164,h160⟩:=j4 h160
      refine jk (ι:={ s // o165=s }) hn (fun s=>[]) (fun s=>[(1000,.box [.sl 4 (List.map K7 v47),.sl 2 (List.map H8 v48),.int v49,.int v50,.int v51,.int (wr (v52+(1:Int))),.int v53,.int s.1,.own 320,.own 321] 99)]) [(0,_),(1,_),(4,_),(7,_),(8,_),(10,_),(11,_),(12,_),(13,_),(16,_)] [(7,_),(8,_),(10,_),(12,_),(27,_),(48,_),(320,_),(321,_),(1001,_),(1002,_)] (fun _ A22 _ _=>?_) ?_
      ·refine l8 hn ?_
       refine l5 h164 (fun hb166 h164=>?_) (fun hb166 h164=>?_)
       ·refine q9 hn ?_
        refine A22 _ _ ?_
        exact jn ⟨_,sj h164⟩ []
       refine q8 hn ?_
       refine A22 _ _ ?_
       exact jn ⟨_,sj h164⟩ []
      rintro ⟨v163,hv_⟩
      replace hv_:=hv_.symm
      subst hv_
      refine A21 _ _ ?_
      exact jn ⟨_,sj h160⟩ []
     refine q8 hn ?_
     refine A21 _ _ ?_
     exact jn ⟨_,sj h160⟩ []
    rintro ⟨⟨v158,v159⟩,rfl⟩
    refine A20 _ _ ?_
    refine q9 hn ?_
    refine A5 _ _ ?_
    refine A3 _ _ ?_
    exact jn ⟨(n43,v47,v48,v49,v50,v51,v158,v53,v159,v55,v56,v57,v58,v59),h40⟩ [(501,48)] (by show n43 < n43+1; omega)
   refine K8 hn ?_
   refine X4 _ _ _ ?_
   refine X3 _ _ _ ?_
   refine E2 _ _ ?_
   refine A1 _ _ ?_
   exact jn ⟨_,sj h40⟩ []
 rintro ⟨⟨v29,v30,v31,v32,v33,v34,v35,v36,v37,v38⟩,rfl⟩
 refine A0 _ _ ?_
 refine j6 hn ?_
 refine got hn ?_
 obtain rfl:=Option.some.inj h
 exact ⟨[(2,320),(3,321)],_,fm⟩

/- (*qcref5.R).Enter! -/
set_option maxRecDepth 100000 in
theorem bU0 (N n:Nat) (a0:TR) (a1:Int) (a2:Int) (a3:V) (a4:(List V)) (r:(V×TR)) (h:K6 N n a0 a1 a2 a3 a4=some r):Spec Try.prog 46 [(1000,.box [.sl 4 (List.map K7 a0.w.classes),.sl 2 (List.map H8 a0.w.heap),.int a0.w.epoch,.int a0.fuel,.int a0.sends,.int a0.turns,.int a0.deep,.int a0.err,.own 1001,.own 1002] 99),(1001,.row 3 (List.map eSt a0.sites) 56),(1002,.row 1 (List.map C8 a0.of) 3)] [.ptr 1000 0,.int a1,.int a2,.agg (eV a3),.sl 2 (List.map eV a4)] (.agg (eV r.1)) [(1000,.box [.sl 4 (List.map K7 r.2.w.classes),.sl 2 (List.map H8 r.2.w.heap),.int r.2.w.epoch,.int r.2.fuel,.int r.2.sends,.int r.2.turns,.int r.2.deep,.int r.2.err,.own 2,.own 3] 99),(2,.row 3 (List.map eSt r.2.sites) 56),(1001,.gone),(3,.row 1 (List.map C8 r.2.of) 3),(1002,.gone)] [2,3]:=by
  induction n generalizing a0 a1 a2 a3 a4 r with
  |zero =>
    have h:(none:Option (V×TR))=some r:=h
    cases h
  |succ n ih=>exact bU4 N _ a0 a1 a2 a3 a4 (fun _ y0_ y1_ y2_ y3_ y4_ r h=>bV8 N _ y0_ y1_ y2_ y3_ y4_ (fun _ x0_ x1_ x2_ x3_ x4_ r h=>ih x0_ x1_ x2_ x3_ x4_ r h) r h) r h

/- (*qcref5.R).Enter!! -/
set_option maxRecDepth 100000 in
theorem b04 (N:Nat) (a0:TR) (a1:Int) (a2:Int) (a3:V) (a4:(List V)) (r:(V×TR)) (h:bA2 N a0 a1 a2 a3 a4=some r):Spec Try.prog 46 [(1000,.box [.sl 4 (List.map K7 a0.w.classes),.sl 2 (List.map H8 a0.w.heap),.int a0.w.epoch,.int a0.fuel,.int a0.sends,.int a0.turns,.int a0.deep,.int a0.err,.own 1001,.own 1002] 99),(1001,.row 3 (List.map eSt a0.sites) 56),(1002,.row 1 (List.map C8 a0.of) 3)] [.ptr 1000 0,.int a1,.int a2,.agg (eV a3),.sl 2 (List.map eV a4)] (.agg (eV r.1)) [(1000,.box [.sl 4 (List.map K7 r.2.w.classes),.sl 2 (List.map H8 r.2.w.heap),.int r.2.w.epoch,.int r.2.fuel,.int r.2.sends,.int r.2.turns,.int r.2.deep,.int r.2.err,.own 2,.own 3] 99),(2,.row 3 (List.map eSt r.2.sites) 56),(1001,.gone),(3,.row 1 (List.map C8 r.2.of) 3),(1002,.gone)] [2,3]:=by
  exact bU0 N N a0 a1 a2 a3 a4 r h

/- qcref5.Run -/
set_option maxRecDepth 100000 in
set_option maxHeartbeats 8000000 in
theorem cH2 (N:Nat) (a0:Wd) (a1:O6) (a2:Int) (r:(Wd×aL3×TR)) (h:aZ6 N a0 a1 a2=some r):Spec Try.prog 15 [] [.agg (P5 a0),.agg (bH6 a1),.int a2] (.tup [.agg (P5 r.1),.agg (bE9 r.2.1),.fp (eTR r.2.2)]) [] []:=by
 refine Spec.of D5 Try.func15 rfl Try.ntmps15 (by kernel_rfl) rfl rfl rfl fun Γ hn=>?_
 unfold aZ6 at h
 refine j6 hn ?_
 refine j6 hn ?_
 refine j5.seqQ fun _ A0 _ R0=>?_
 refine j6 hn ?_
 obtain ⟨r1,hr2,h⟩:=j4 h
 show l7 Try.prog _ _ _ _
 refine cA (bT9 N a0 a1 a2 r1 hr2) ?_
 refine kp [(3,_),(4,_),(6,_),(7,_),(9,_),(10,_)] [(3,_),(4,_),(6,_),(7,_),(17,_)] ?_
 refine j6 hn ?_
 refine l8 hn ?_
 refine l5 h (fun hb3 h=>?_) (fun hb3 h=>?_)
 ·refine j6 hn ?_
  refine j5.nilrowB 17 8 501 3 56 rfl rfl rfl rfl rfl rfl ?_
  refine j5.nilrowB 17 9 502 1 3 rfl rfl rfl rfl rfl rfl ?_
  refine j5.fzAll 501 rfl ?_
  refine j5.fzAll 502 rfl ?_
  refine j5.gh (Gh.fzBox 8 17 rfl rfl rfl) (fun _=>?_)
  refine got hn ?_
  refine R0 _ _ ?_
  obtain rfl:=Option.some.inj h
  exact ⟨[],_,fm⟩
 refine q8 hn ?_
 refine A0 _ _ ?_
 refine j5.seqQ fun _ A1 _ _=>?_
 refine H7 hn (by kernel_rfl) ?_
 obtain ⟨r4,hr5,h⟩:=j4 h
 show l7 Try.prog _ _ _ _
 refine cA (bK0 N a0.heap a1.self_ r4 hr5) ?_
 obtain ⟨r6,hr7,h⟩:=j4 h
 show l7 Try.prog _ _ _ _
 refine cA (bP1 N a0 r4 a1.name r6 hr7) ?_
 refine A1 _ _ ?_
 refine j5.seqQ fun _ A2 _ R2=>?_
 refine kp [(3,_),(4,_),(6,_),(7,_),(9,_),(11,_),(12,_)] [(3,_),(4,_),(6,_),(7,_),(17,_)] ?_
 refine j6 hn ?_
 refine l8 hn ?_
 refine l5 h (fun hb8 h=>?_) (fun hb8 h=>?_)
 ·refine j6 hn ?_
  refine j5.nilrowB 17 8 503 3 56 rfl rfl rfl rfl rfl rfl ?_
  refine j5.nilrowB 17 9 504 1 3 rfl rfl rfl rfl rfl rfl ?_
  refine j5.fzAll 503 rfl ?_
  refine j5.fzAll 504 rfl ?_
  refine j5.gh (Gh.fzBox 8 17 rfl rfl rfl) (fun _=>?_)
  refine got hn ?_
  refine R2 _ _ ?_
  obtain rfl:=Option.some.inj h
  exact ⟨[],_,fm⟩
 refine q8 hn ?_
 refine A2 _ _ ?_
 refine j5.nilrowB 17 8 505 3 56 rfl rfl rfl rfl rfl rfl ?_
 refine j5.nilrowB 17 9 506 1 3 rfl rfl rfl rfl rfl rfl ?_
 refine kp [(3,_),(4,_),(6,_),(7,_),(9,_),(11,_),(12,_)] [(3,_),(4,_),(6,_),(7,_),(17,_),(505,_),(506,_)] ?_
 refine j6 hn ?_
 obtain ⟨r9,hr10,h⟩:=j4 h
 show l7 Try.prog _ _ _ _
 refine cA ((b04 N (⟨a0,a2,(0:Int),(0:Int),(0:Int),(0:Int),([]:List St),([]:List Int)⟩:TR) r6.1 r6.2 a1.self_ a1.args r9 hr10).swl [(1000,17),(1001,505),(1002,506),(2,507),(3,508)] rfl) ?_
 refine j5.seqQ fun _ A3 _ R3=>?_
 refine j6 hn ?_
 refine l8 hn ?_
 refine l5 h (fun hb11 h=>?_) (fun hb11 h=>?_)
 ·refine j5.seqQ fun _ A4 _ _=>?_
  refine kp [(3,_),(6,_),(7,_),(9,_)] [(3,_),(6,_),(7,_),(17,_),(507,_),(508,_)] ?_
  refine H7 hn (by kernel_rfl) ?_
  refine A4 _ _ ?_
  refine j5.fzAll 507 rfl ?_
  refine j5.fzAll 508 rfl ?_
  refine j5.gh (Gh.fzBox 8 17 rfl rfl rfl) (fun _=>?_)
  refine got hn ?_
  refine R3 _ _ ?_
  obtain rfl:=Option.some.inj h
  exact ⟨[],_,fm⟩
 refine q8 hn ?_
 refine A3 _ _ ?_
 refine j5.seqQ fun _ A5 _ _=>?_
 refine kp [(6,_),(7,_),(9,_),(13,_)] [(6,_),(7,_),(13,_),(17,_),(507,_),(508,_)] ?_
 refine H7 hn (by kernel_rfl) ?_
 refine A5 _ _ ?_
 refine j5.fzAll 507 rfl ?_
 refine j5.fzAll 508 rfl ?_
 refine j5.gh (Gh.fzBox 8 17 rfl rfl rfl) (fun _=>?_)
 refine got hn ?_
 obtain rfl:=Option.some.inj h
 exact ⟨[],_,fm⟩

/- qcref1.SameCode -/
set_option maxRecDepth 100000 in
set_option maxHeartbeats 8000000 in
theorem bV7 (N:Nat) (a0:(List Ins)) (a1:(List Ins)) (r:Bool) (h:aL7 N a0 a1=some r):Spec Try.prog 49 [] [.sl 5 (List.map J2 a0),.sl 5 (List.map J2 a1)] (.bool r) [] []:=by
 refine Spec.of D5 Try.func49 rfl Try.ntmps49 (by kernel_rfl) rfl rfl rfl fun Γ hn=>?_
 unfold aL7 at h
 refine j6 hn ?_
 refine j5.seqQ fun _ A0 _ R0=>?_
 refine j6 hn ?_
 refine u7 (fun _=>?_)
 refine u7 (fun _=>?_)
 refine l8 hn ?_
 refine l5 h (fun hb3 h=>?_) (fun hb3 h=>?_)
 ·refine j6 hn ?_
  refine got hn ?_
  refine R0 _ _ ?_
  obtain rfl:=Option.some.inj h
  exact ⟨[],_,fm⟩
 refine q8 hn ?_
 refine A0 _ _ ?_
 refine j5.seqQ fun _ A1 _ R1=>?_
 refine j6 hn ?_
 refine u7 (fun hl4=>?_)
 obtain ⟨o6,h7,h⟩:=j4 h
 refine jk (ι:={ s // o6=D7.next s }) hn (fun s=>[]) (fun s=>[]) [] [] (fun _ A2 _ R2=>?_) ?_
 ·refine j5.blkQ fun _ _ E3 _ R3=>?_
  refine lq (ι:={ q:((List Ins)×Nat) // q.1=a0.drop q.2∧Y4 N a1 q.1 q.2=some o6 }) hn (fun q=>[(13,.int (q.1.2:Int))]) (fun q=>[]) (fun q=>q.1.1.length) [(0,_),(1,_),(12,_)] [] ⟨(a0,0),rfl,h7⟩ [] ?_
  rintro ⟨⟨rest_,k5⟩,hd9,h7⟩ _ A4 X4 R4
  replace hd9:rest_=a0.drop k5:=hd9
  rcases rest_ with _|⟨x11,rest8⟩
  ·have hlt13:=H5 hd9
   replace h7:=(Y4.eq_1 _ _ _).symm.trans h7
   refine j6 hn ?_
   refine j5.seqQ fun _ _ X5 _=>?_
   refine l8 hn ?_
   refine d9 hlt13 ?_
   refine K8 hn ?_
   refine X5 _ _ _ ?_
   refine X4 _ _ _ ?_
   refine E3 _ _ ?_
   refine A2 _ _ ?_
   exact jn ⟨_,sj h7⟩ []
  ·obtain ⟨hx12,hd2,hlt13⟩:=F3 hd9
   replace h7:=(Y4.eq_2 _ _ _ _ _).symm.trans h7
   refine j6 hn ?_
   refine j5.seqQ fun _ A6 _ _=>?_
   refine l8 hn ?_
   refine j3 hlt13 ?_
   refine q8 hn ?_
   refine A6 _ _ ?_
   refine j5.seqQ fun _ A7 _ R7=>?_
   refine j5.blkQ fun _ A8 _ _ R8=>?_
   refine j6 hn ?_
   refine j5.seqQ fun _ A9 _ _=>?_
   refine H7 hn (by kernel_rfl) ?_
   refine Z4 hx12 ?_
   obtain ⟨x14,hx15,h7⟩:=j4 h7
   refine I8 hx15 ?_
   refine A9 _ _ ?_
   refine l8 hn ?_
   refine l5 h7 (fun hb16 h7=>?_) (fun hb16 h7=>?_)
   ·refine j6 hn ?_
    refine got hn ?_
    refine R8 _ _ ?_
    refine R7 _ _ ?_
    refine R4 _ _ ?_
    refine R3 _ _ ?_
    refine R2 _ _ ?_
    refine R1 _ _ ?_
    obtain rfl:=Option.some.inj h7
    obtain rfl:=Option.some.inj h
    exact ⟨[],_,fm⟩
   refine q8 hn ?_
   refine A8 _ _ ?_
   refine A7 _ _ ?_
   refine q9 hn ?_
   refine Or.inl (And.intro (T9 hx12 hl4) ?_)
   refine A4 _ _ ?_
   exact jn ⟨(rest8,k5+1),hd2,h7⟩ [] (by show rest8.length < rest8.length+1; omega)
 rintro ⟨⟨⟩,rfl⟩
 refine A1 _ _ ?_
 refine j6 hn ?_
 refine got hn ?_
 obtain rfl:=Option.some.inj h
 exact ⟨[],_,fm⟩

/- qcref1.SameWorld -/
set_option maxRecDepth 100000 in
set_option maxHeartbeats 8000000 in
theorem bU6 (N:Nat) (a0:Wd) (a1:Wd) (r:Bool) (h:aJ8 N a0 a1=some r):Spec Try.prog 18 [] [.agg (P5 a0),.agg (P5 a1)] (.bool r) [] []:=by
 refine Spec.of D5 Try.func18 rfl Try.ntmps18 (by kernel_rfl) rfl rfl rfl fun Γ hn=>?_
 unfold aJ8 at h
 refine j6 hn ?_
 refine j5.seqQ fun _ A0 _ R0=>?_
 refine j5.seqQ fun _ A1 _ _=>?_
 obtain ⟨o3,h2,h⟩:=j4 h
 refine jk (ι:={ s // o3=s }) hn (fun s=>[(36,.bool s.1)]) (fun s=>[]) [(2,_),(3,_)] [(2,_),(3,_)] (fun _ A2 _ _=>?_) ?_
 ·refine q9 hn ?_
  refine l5 h2 (fun hb4 h2=>?_) (fun hb4 h2=>?_)
  ·refine j3 hb4 ?_
   refine j3 hb4 ?_
   refine j3 hb4 ?_
   refine j3 hb4 ?_
   refine j3 hb4 ?_
   refine j3 hb4 ?_
   refine j3 hb4 ?_
   refine A2 _ _ ?_
   exact jn ⟨_,sj h2⟩ []
  refine d9 hb4 ?_
  refine d9 hb4 ?_
  refine u7 (fun _=>?_)
  refine d9 hb4 ?_
  refine d9 hb4 ?_
  refine d9 hb4 ?_
  refine u7 (fun _=>?_)
  refine d9 hb4 ?_
  refine d9 hb4 ?_
  refine l5 h2 (fun hb7 h2=>?_) (fun hb7 h2=>?_)
  ·refine j3 hb7 ?_
   refine j3 hb7 ?_
   refine j3 hb7 ?_
   refine j3 hb7 ?_
   refine j3 hb7 ?_
   refine j3 hb7 ?_
   refine j3 hb7 ?_
   refine A2 _ _ ?_
   exact jn ⟨_,sj h2⟩ []
  refine d9 hb7 ?_
  refine d9 hb7 ?_
  refine u7 (fun _=>?_)
  refine d9 hb7 ?_
  refine d9 hb7 ?_
  refine d9 hb7 ?_
  refine u7 (fun _=>?_)
  refine d9 hb7 ?_
  refine d9 hb7 ?_
  refine A2 _ _ ?_
  exact jn ⟨_,sj h2⟩ []
 rintro ⟨v1,hv_⟩
 replace hv_:=hv_.symm
 subst hv_
 refine A1 _ _ ?_
 refine l8 hn ?_
 refine l5 h (fun hb10 h=>?_) (fun hb10 h=>?_)
 ·refine j6 hn ?_
  refine got hn ?_
  refine R0 _ _ ?_
  obtain rfl:=Option.some.inj h
  exact ⟨[],_,fm⟩
 refine q8 hn ?_
 refine A0 _ _ ?_
 refine j5.seqQ fun _ A3 _ R3=>?_
 refine j6 hn ?_
 refine u7 (fun hl11=>?_)
 obtain ⟨o13,h14,h⟩:=j4 h
 refine jk (ι:={ s // o13=D7.next s }) hn (fun s=>[]) (fun s=>[]) [(2,_),(3,_)] [(2,_),(3,_)] (fun _ A4 _ R4=>?_) ?_
 ·refine j5.blkQ fun _ _ E5 _ R5=>?_
  refine lq (ι:={ q:((List Cl)×Nat) // q.1=a0.classes.drop q.2∧V3 N a1 q.1 q.2=some o13 }) hn (fun q=>[(40,.int (q.1.2:Int))]) (fun q=>[]) (fun q=>q.1.1.length) [(2,_),(3,_),(38,_),(39,_)] [(2,_),(3,_)] ⟨(a0.classes,0),rfl,h14⟩ [] ?_
  rintro ⟨⟨rest_,k12⟩,hd16,h14⟩ _ A6 X6 R6
  replace hd16:rest_=a0.classes.drop k12:=hd16
  rcases rest_ with _|⟨x18,rest15⟩
  ·have hlt20:=H5 hd16
   replace h14:=(V3.eq_1 _ _ _).symm.trans h14
   refine j6 hn ?_
   refine j5.seqQ fun _ _ X7 _=>?_
   refine l8 hn ?_
   refine d9 hlt20 ?_
   refine K8 hn ?_
   refine X7 _ _ _ ?_
   refine X6 _ _ _ ?_
   refine E5 _ _ ?_
   refine A4 _ _ ?_
   exact jn ⟨_,sj h14⟩ []
  ·obtain ⟨hx19,hd2,hlt20⟩:=F3 hd16
   replace h14:=(V3.eq_2 _ _ _ _ _).symm.trans h14
   refine j6 hn ?_
   refine j5.seqQ fun _ A8 _ _=>?_
   refine l8 hn ?_
   refine j3 hlt20 ?_
   refine q8 hn ?_
   refine A8 _ _ ?_
   refine j5.seqQ fun _ A9 _ R9=>?_
   refine j5.blkQ fun _ A10 _ _ R10=>?_
   refine j6 hn ?_
   refine Z4 hx19 ?_
   refine j6 hn ?_
   obtain ⟨x21,hx22,h14⟩:=j4 h14
   refine I8 hx22 ?_
   refine j5.seqQ fun _ A11 _ R11=>?_
   refine j5.seqQ fun _ A12 _ _=>?_
   obtain ⟨o25,h24,h14⟩:=j4 h14
   refine jk (ι:={ s // o25=s }) hn (fun s=>[(77,.bool s.1)]) (fun s=>[]) [(2,_),(3,_),(6,_),(7,_),(38,_),(39,_),(40,_)] [(2,_),(3,_),(6,_),(7,_)] (fun _ A13 _ _=>?_) ?_
   ·refine kp [(2,_),(3,_),(6,_),(7,_),(38,_),(39,_),(40,_)] [(2,_),(3,_),(6,_),(7,_)] ?_
    refine q9 hn ?_
    refine l5 h24 (fun hb26 h24=>?_) (fun hb26 h24=>?_)
    ·refine j3 hb26 ?_
     refine j3 hb26 ?_
     refine j3 hb26 ?_
     refine j3 hb26 ?_
     refine j3 hb26 ?_
     refine A13 _ _ ?_
     exact jn ⟨_,sj h24⟩ []
    refine d9 hb26 ?_
    refine d9 hb26 ?_
    refine d9 hb26 ?_
    refine d9 hb26 ?_
    refine d9 hb26 ?_
    refine l5 h24 (fun hb27 h24=>?_) (fun hb27 h24=>?_)
    ·refine j3 hb27 ?_
     refine j3 hb27 ?_
     refine j3 hb27 ?_
     refine j3 hb27 ?_
     refine j3 hb27 ?_
     refine A13 _ _ ?_
     exact jn ⟨_,sj h24⟩ []
    refine d9 hb27 ?_
    refine d9 hb27 ?_
    refine d9 hb27 ?_
    refine d9 hb27 ?_
    refine d9 hb27 ?_
    refine l5 h24 (fun hb28 h24=>?_) (fun hb28 h24=>?_)
    ·refine j3 hb28 ?_
     refine j3 hb28 ?_
     refine j3 hb28 ?_
     refine j3 hb28 ?_
     refine j3 hb28 ?_
     refine j3 hb28 ?_
     refine j3 hb28 ?_
     refine A13 _ _ ?_
     exact jn ⟨_,sj h24⟩ []
    refine d9 hb28 ?_
    refine d9 hb28 ?_
    refine u7 (fun _=>?_)
    refine d9 hb28 ?_
    refine d9 hb28 ?_
    refine d9 hb28 ?_
    refine u7 (fun _=>?_)
    refine d9 hb28 ?_
    refine d9 hb28 ?_
    refine A13 _ _ ?_
    exact jn ⟨_,sj h24⟩ []
   rintro ⟨v23,hv_⟩
   replace hv_:=hv_.symm
   subst hv_
   refine A12 _ _ ?_
   refine l8 hn ?_
   refine l5 h14 (fun hb31 h14=>?_) (fun hb31 h14=>?_)
   ·refine j6 hn ?_
    refine got hn ?_
    refine R11 _ _ ?_
    refine R10 _ _ ?_
    refine R9 _ _ ?_
    refine R6 _ _ ?_
    refine R5 _ _ ?_
    refine R4 _ _ ?_
    refine R3 _ _ ?_
    obtain rfl:=Option.some.inj h14
    obtain rfl:=Option.some.inj h
    exact ⟨[],_,fm⟩
   refine q8 hn ?_
   refine A11 _ _ ?_
   refine j6 hn ?_
   refine u7 (fun hl32=>?_)
   obtain ⟨o34,h35,h14⟩:=j4 h14
   refine jk (ι:={ s // o34=D7.next s }) hn (fun s=>[]) (fun s=>[]) [(2,_),(3,_),(38,_),(39,_),(40,_)] [(2,_),(3,_)] (fun _ A14 _ R14=>?_) ?_
   ·refine j5.blkQ fun _ _ E15 _ R15=>?_
    refine lq (ι:={ q:((List Me)×Nat) // q.1=x18.methods.drop q.2∧U9 N x21 q.1 q.2=some o34 }) hn (fun q=>[(81,.int (q.1.2:Int))]) (fun q=>[]) (fun q=>q.1.1.length) [(2,_),(3,_),(7,_),(38,_),(39,_),(40,_),(79,_),(80,_)] [(2,_),(3,_),(7,_)] ⟨(x18.methods,0),rfl,h35⟩ [] ?_
    rintro ⟨⟨rest_,k33⟩,hd37,h35⟩ _ A16 X16 R16
    replace hd37:rest_=x18.methods.drop k33:=hd37
    rcases rest_ with _|⟨x39,rest36⟩
    ·have hlt41:=H5 hd37
     replace h35:=(U9.eq_1 _ _ _).symm.trans h35
     refine j6 hn ?_
     refine j5.seqQ fun _ _ X17 _=>?_
     refine l8 hn ?_
     refine d9 hlt41 ?_
     refine K8 hn ?_
     refine X17 _ _ _ ?_
     refine X16 _ _ _ ?_
     refine E15 _ _ ?_
     refine A14 _ _ ?_
     exact jn ⟨_,sj h35⟩ []
    ·obtain ⟨hx40,hd2,hlt41⟩:=F3 hd37
     replace h35:=(U9.eq_2 _ _ _ _ _).symm.trans h35
     refine j6 hn ?_
     refine j5.seqQ fun _ A18 _ _=>?_
     refine l8 hn ?_
     refine j3 hlt41 ?_
     refine q8 hn ?_
     refine A18 _ _ ?_
     refine j5.seqQ fun _ A19 _ R19=>?_
     refine j5.blkQ fun _ A20 _ _ R20=>?_
     refine j6 hn ?_
     refine Z4 hx40 ?_
     refine j6 hn ?_
     obtain ⟨x42,hx43,h35⟩:=j4 h35
     refine I8 hx43 ?_
     refine j5.seqQ fun _ A21 _ _=>?_
     obtain ⟨o46,h45,h35⟩:=j4 h35
     refine jk (ι:={ s // o46=s }) hn (fun s=>[(124,.bool s.1)]) (fun s=>[]) [(2,_),(3,_),(7,_),(38,_),(39,_),(40,_),(79,_),(80,_),(81,_)] [(2,_),(3,_),(7,_)] (fun _ A22 _ _=>?_) ?_
     ·refine kp [(2,_),(3,_),(7,_),(9,_),(10,_),(38,_),(39,_),(40,_),(79,_),(80,_),(81,_)] [(2,_),(3,_),(7,_),(9,_),(10,_)] ?_
      refine q9 hn ?_
      refine l5 h45 (fun hb47 h45=>?_) (fun hb47 h45=>?_)
      ·refine j3 hb47 ?_
       refine j3 hb47 ?_
       refine j3 hb47 ?_
       refine j3 hb47 ?_
       refine j3 hb47 ?_
       refine A22 _ _ ?_
       exact jn ⟨_,sj h45⟩ []
      refine d9 hb47 ?_
      refine d9 hb47 ?_
      refine d9 hb47 ?_
      refine d9 hb47 ?_
      refine d9 hb47 ?_
      refine l5 h45 (fun hb48 h45=>?_) (fun hb48 h45=>?_)
      ·refine j3 hb48 ?_
       refine j3 hb48 ?_
       refine j3 hb48 ?_
       refine j3 hb48 ?_
       refine j3 hb48 ?_
       refine A22 _ _ ?_
       exact jn ⟨_,sj h45⟩ []
      refine d9 hb48 ?_
      refine d9 hb48 ?_
      refine d9 hb48 ?_
      refine d9 hb48 ?_
      refine d9 hb48 ?_
      refine l5 h45 (fun hb49 h45=>?_) (fun hb49 h45=>?_)
      ·refine j3 hb49 ?_
       refine j3 hb49 ?_
       refine j3 hb49 ?_
       refine j3 hb49 ?_
       refine j3 hb49 ?_
       refine A22 _ _ ?_
       exact jn ⟨_,sj h45⟩ []
      refine d9 hb49 ?_
      refine d9 hb49 ?_
      refine d9 hb49 ?_
      refine d9 hb49 ?_
      refine d9 hb49 ?_
      refine l5 h45 (fun hb50 h45=>?_) (fun hb50 h45=>?_)
      ·refine j3 hb50 ?_
       refine j3 hb50 ?_
       refine j3 hb50 ?_
       refine j3 hb50 ?_
       refine j3 hb50 ?_
       refine j3 hb50 ?_
       refine A22 _ _ ?_
       exact jn ⟨_,sj h45⟩ []
      refine d9 hb50 ?_
      refine d9 hb50 ?_
      refine d9 hb50 ?_
      refine d9 hb50 ?_
      obtain ⟨r51,hr52,h45⟩:=j4 h45
      show l7 Try.prog _ _ _ _
      refine cA (bV7 N x39.code x42.code r51 hr52) ?_
      refine d9 hb50 ?_
      refine d9 hb50 ?_
      refine A22 _ _ ?_
      exact jn ⟨_,sj h45⟩ []
     rintro ⟨v44,hv_⟩
     replace hv_:=hv_.symm
     subst hv_
     refine A21 _ _ ?_
     refine l8 hn ?_
     refine l5 h35 (fun hb53 h35=>?_) (fun hb53 h35=>?_)
     ·refine j6 hn ?_
      refine got hn ?_
      refine R20 _ _ ?_
      refine R19 _ _ ?_
      refine R16 _ _ ?_
      refine R15 _ _ ?_
      refine R14 _ _ ?_
      refine R10 _ _ ?_
      refine R9 _ _ ?_
      refine R6 _ _ ?_
      refine R5 _ _ ?_
      refine R4 _ _ ?_
      refine R3 _ _ ?_
      obtain rfl:=Option.some.inj h35
      obtain rfl:=Option.some.inj h14
      obtain rfl:=Option.some.inj h
      exact ⟨[],_,fm⟩
     refine q8 hn ?_
     refine A20 _ _ ?_
     refine A19 _ _ ?_
     refine q9 hn ?_
     refine Or.inl (And.intro (T9 hx40 hl32) ?_)
     refine A16 _ _ ?_
     exact jn ⟨(rest36,k33+1),hd2,h35⟩ [] (by show rest36.length < rest36.length+1; omega)
   rintro ⟨⟨⟩,rfl⟩
   refine A10 _ _ ?_
   refine A9 _ _ ?_
   refine q9 hn ?_
   refine Or.inl (And.intro (T9 hx19 hl11) ?_)
   refine A6 _ _ ?_
   exact jn ⟨(rest15,k12+1),hd2,h14⟩ [] (by show rest15.length < rest15.length+1; omega)
 rintro ⟨⟨⟩,rfl⟩
 refine A3 _ _ ?_
 refine j5.seqQ fun _ A23 _ R23=>?_
 refine j6 hn ?_
 refine u7 (fun hl54=>?_)
 obtain ⟨o56,h57,h⟩:=j4 h
 refine jk (ι:={ s // o56=D7.next s }) hn (fun s=>[]) (fun s=>[]) [] [] (fun _ A24 _ R24=>?_) ?_
 ·refine j5.blkQ fun _ _ E25 _ R25=>?_
  refine lq (ι:={ q:((List Ob)×Nat) // q.1=a0.heap.drop q.2∧V4 N a1 q.1 q.2=some o56 }) hn (fun q=>[(130,.int (q.1.2:Int))]) (fun q=>[]) (fun q=>q.1.1.length) [(3,_),(128,_),(129,_)] [(3,_)] ⟨(a0.heap,0),rfl,h57⟩ [] ?_
  rintro ⟨⟨rest_,k55⟩,hd59,h57⟩ _ A26 X26 R26
  replace hd59:rest_=a0.heap.drop k55:=hd59
  rcases rest_ with _|⟨x61,rest58⟩
  ·have hlt63:=H5 hd59
   replace h57:=(V4.eq_1 _ _ _).symm.trans h57
   refine j6 hn ?_
   refine j5.seqQ fun _ _ X27 _=>?_
   refine l8 hn ?_
   refine d9 hlt63 ?_
   refine K8 hn ?_
   refine X27 _ _ _ ?_
   refine X26 _ _ _ ?_
   refine E25 _ _ ?_
   refine A24 _ _ ?_
   exact jn ⟨_,sj h57⟩ []
  ·obtain ⟨hx62,hd2,hlt63⟩:=F3 hd59
   replace h57:=(V4.eq_2 _ _ _ _ _).symm.trans h57
   refine j6 hn ?_
   refine j5.seqQ fun _ A28 _ _=>?_
   refine l8 hn ?_
   refine j3 hlt63 ?_
   refine q8 hn ?_
   refine A28 _ _ ?_
   refine j5.seqQ fun _ A29 _ R29=>?_
   refine j5.blkQ fun _ A30 _ _ R30=>?_
   refine j6 hn ?_
   refine Z4 hx62 ?_
   refine j5.seqQ fun _ A31 _ R31=>?_
   refine j5.seqQ fun _ A32 _ _=>?_
   obtain ⟨o66,h65,h57⟩:=j4 h57
   refine jk (ι:={ s // o66=s }) hn (fun s=>[(156,.bool s.1)]) (fun s=>[]) [(3,_),(11,_),(12,_),(128,_),(129,_),(130,_)] [(3,_),(12,_)] (fun _ A33 _ _=>?_) ?_
   ·refine kp [(3,_),(11,_),(12,_),(128,_),(129,_),(130,_)] [(3,_),(12,_)] ?_
    refine H7 hn (by kernel_rfl) ?_
    obtain ⟨x67,hx68,h65⟩:=j4 h65
    refine I8 hx68 ?_
    refine l5 h65 (fun hb69 h65=>?_) (fun hb69 h65=>?_)
    ·refine j3 hb69 ?_
     refine j3 hb69 ?_
     refine j3 hb69 ?_
     refine j3 hb69 ?_
     refine j3 hb69 ?_
     refine j3 hb69 ?_
     refine j3 hb69 ?_
     refine j3 hb69 ?_
     refine j3 hb69 ?_
     refine j3 hb69 ?_
     refine j3 hb69 ?_
     refine A33 _ _ ?_
     exact jn ⟨_,sj h65⟩ []
    refine d9 hb69 ?_
    refine d9 hb69 ?_
    refine u7 (fun _=>?_)
    refine d9 hb69 ?_
    refine d9 hb69 ?_
    refine d9 hb69 ?_
    refine d9 hb69 ?_
    obtain ⟨x71,hx72,h65⟩:=j4 h65
    refine I8 hx72 ?_
    refine d9 hb69 ?_
    refine d9 hb69 ?_
    refine d9 hb69 ?_
    refine u7 (fun _=>?_)
    refine d9 hb69 ?_
    refine d9 hb69 ?_
    refine A33 _ _ ?_
    exact jn ⟨_,sj h65⟩ []
   rintro ⟨v64,hv_⟩
   replace hv_:=hv_.symm
   subst hv_
   refine A32 _ _ ?_
   refine l8 hn ?_
   refine l5 h57 (fun hb74 h57=>?_) (fun hb74 h57=>?_)
   ·refine j6 hn ?_
    refine got hn ?_
    refine R31 _ _ ?_
    refine R30 _ _ ?_
    refine R29 _ _ ?_
    refine R26 _ _ ?_
    refine R25 _ _ ?_
    refine R24 _ _ ?_
    refine R23 _ _ ?_
    obtain rfl:=Option.some.inj h57
    obtain rfl:=Option.some.inj h
    exact ⟨[],_,fm⟩
   refine q8 hn ?_
   refine A31 _ _ ?_
   refine j6 hn ?_
   refine u7 (fun hl75=>?_)
   obtain ⟨o77,h78,h57⟩:=j4 h57
   refine jk (ι:={ s // o77=D7.next s }) hn (fun s=>[]) (fun s=>[]) [(3,_),(128,_),(129,_),(130,_)] [(3,_)] (fun _ A34 _ R34=>?_) ?_
   ·refine j5.blkQ fun _ _ E35 _ R35=>?_
    refine lq (ι:={ q:((List V)×Nat) // q.1=x61.slots.drop q.2∧V7 N a1 k55 q.1 q.2=some o77 }) hn (fun q=>[(160,.int (q.1.2:Int))]) (fun q=>[]) (fun q=>q.1.1.length) [(3,_),(11,_),(12,_),(128,_),(129,_),(130,_),(159,_)] [(3,_),(12,_)] ⟨(x61.slots,0),rfl,h78⟩ [] ?_
    rintro ⟨⟨rest_,k76⟩,hd80,h78⟩ _ A36 X36 R36
    replace hd80:rest_=x61.slots.drop k76:=hd80
    rcases rest_ with _|⟨x82,rest79⟩
    ·have hlt84:=H5 hd80
     replace h78:=(V7.eq_1 _ _ _ _).symm.trans h78
     refine j6 hn ?_
     refine j5.seqQ fun _ _ X37 _=>?_
     refine l8 hn ?_
     refine d9 hlt84 ?_
     refine K8 hn ?_
     refine X37 _ _ _ ?_
     refine X36 _ _ _ ?_
     refine E35 _ _ ?_
     refine A34 _ _ ?_
     exact jn ⟨_,sj h78⟩ []
    ·obtain ⟨hx83,hd2,hlt84⟩:=F3 hd80
     replace h78:=(V7.eq_2 _ _ _ _ _ _).symm.trans h78
     refine j6 hn ?_
     refine j5.seqQ fun _ A38 _ _=>?_
     refine l8 hn ?_
     refine j3 hlt84 ?_
     refine q8 hn ?_
     refine A38 _ _ ?_
     refine j5.seqQ fun _ A39 _ R39=>?_
     refine j5.blkQ fun _ A40 _ _ R40=>?_
     refine j6 hn ?_
     refine j5.seqQ fun _ A41 _ _=>?_
     refine H7 hn (by kernel_rfl) ?_
     refine Z4 hx83 ?_
     obtain ⟨x85,hx86,h78⟩:=j4 h78
     refine I8 hx86 ?_
     obtain ⟨x87,hx88,h78⟩:=j4 h78
     refine I8 hx88 ?_
     refine A41 _ _ ?_
     refine l8 hn ?_
     refine l5 h78 (fun hb89 h78=>?_) (fun hb89 h78=>?_)
     ·refine kp [] [] ?_
      refine j6 hn ?_
      refine got hn ?_
      refine R40 _ _ ?_
      refine R39 _ _ ?_
      refine R36 _ _ ?_
      refine R35 _ _ ?_
      refine R34 _ _ ?_
      refine R30 _ _ ?_
      refine R29 _ _ ?_
      refine R26 _ _ ?_
      refine R25 _ _ ?_
      refine R24 _ _ ?_
      refine R23 _ _ ?_
      obtain rfl:=Option.some.inj h78
      obtain rfl:=Option.some.inj h57
      obtain rfl:=Option.some.inj h
      exact ⟨[],_,fm⟩
     refine q8 hn ?_
     refine A40 _ _ ?_
     refine A39 _ _ ?_
     refine kp [(3,_),(11,_),(12,_),(128,_),(129,_),(130,_),(159,_),(160,_)] [(3,_),(12,_)] ?_
     refine q9 hn ?_
     refine Or.inl (And.intro (T9 hx83 hl75) ?_)
     refine A36 _ _ ?_
     exact jn ⟨(rest79,k76+1),hd2,h78⟩ [] (by show rest79.length < rest79.length+1; omega)
   rintro ⟨⟨⟩,rfl⟩
   refine A30 _ _ ?_
   refine A29 _ _ ?_
   refine q9 hn ?_
   refine Or.inl (And.intro (T9 hx62 hl54) ?_)
   refine A26 _ _ ?_
   exact jn ⟨(rest58,k55+1),hd2,h57⟩ [] (by show rest58.length < rest58.length+1; omega)
 rintro ⟨⟨⟩,rfl⟩
 refine A23 _ _ ?_
 refine j6 hn ?_
 refine got hn ?_
 obtain rfl:=Option.some.inj h
 exact ⟨[],_,fm⟩

/- qcref1.Make -/
set_option maxRecDepth 100000 in
set_option maxHeartbeats 8000000 in
theorem cE5 (N:Nat) (a0:Wd) (a1:ByteArray) (a2:Int) (a3:Int) (r:(Wd×Int×Int)) (h:bM1 N a0 a1 a2 a3=some r):Spec Try.prog 51 [] [.agg (P5 a0),.str a1,.int a2,.int a3] (.tup [.agg (P5 r.1),.int r.2.1,.int r.2.2]) [] []:=by
 refine Spec.of D5 Try.func51 rfl Try.ntmps51 (by kernel_rfl) rfl rfl rfl fun Γ hn=>?_
 unfold bM1 at h
 refine j6 hn ?_
 refine j5.seqQ fun _ A0 _ R0=>?_
 refine j6 hn ?_
 obtain ⟨r1,hr2,h⟩:=j4 h
 show l7 Try.prog _ _ _ _
 refine cA (aN7 N a1 r1 hr2) ?_
 refine l8 hn ?_
 refine l5 h (fun hb3 h=>?_) (fun hb3 h=>?_)
 ·refine j6 hn ?_
  refine got hn ?_
  refine R0 _ _ ?_
  obtain rfl:=Option.some.inj h
  exact ⟨[],_,fm⟩
 refine q8 hn ?_
 refine A0 _ _ ?_
 refine j5.seqQ fun _ A1 _ R1=>?_
 refine j6 hn ?_
 refine u7 (fun hl4=>?_)
 obtain ⟨o6,h7,h⟩:=j4 h
 refine jk (ι:={ s // o6=D7.next s }) hn (fun s=>[]) (fun s=>[]) [(1,_),(2,_),(3,_),(4,_),(8,_)] [(4,_),(8,_)] (fun _ A2 _ R2=>?_) ?_
 ·refine j5.blkQ fun _ _ E3 _ R3=>?_
  refine lq (ι:={ q:((List Cl)×Nat) // q.1=a0.classes.drop q.2∧aN3 N a1 q.1 q.2=some o6 }) hn (fun q=>[(21,.int (q.1.2:Int))]) (fun q=>[]) (fun q=>q.1.1.length) [(1,_),(2,_),(3,_),(4,_),(8,_),(19,_),(20,_)] [(4,_),(8,_)] ⟨(a0.classes,0),rfl,h7⟩ [] ?_
  rintro ⟨⟨rest_,k5⟩,hd9,h7⟩ _ A4 X4 R4
  replace hd9:rest_=a0.classes.drop k5:=hd9
  rcases rest_ with _|⟨x11,rest8⟩
  ·have hlt13:=H5 hd9
   replace h7:=(aN3.eq_1 _ _ _).symm.trans h7
   refine j6 hn ?_
   refine j5.seqQ fun _ _ X5 _=>?_
   refine l8 hn ?_
   refine d9 hlt13 ?_
   refine K8 hn ?_
   refine X5 _ _ _ ?_
   refine X4 _ _ _ ?_
   refine E3 _ _ ?_
   refine A2 _ _ ?_
   exact jn ⟨_,sj h7⟩ []
  ·obtain ⟨hx12,hd2,hlt13⟩:=F3 hd9
   replace h7:=(aN3.eq_2 _ _ _ _ _).symm.trans h7
   refine j6 hn ?_
   refine j5.seqQ fun _ A6 _ _=>?_
   refine l8 hn ?_
   refine j3 hlt13 ?_
   refine q8 hn ?_
   refine A6 _ _ ?_
   refine j5.seqQ fun _ A7 _ R7=>?_
   refine j5.blkQ fun _ A8 _ _ R8=>?_
   refine j6 hn ?_
   refine Z4 hx12 ?_
   refine j6 hn ?_
   refine l8 hn ?_
   refine l5 h7 (fun hb14 h7=>?_) (fun hb14 h7=>?_)
   ·refine j6 hn ?_
    refine got hn ?_
    refine R8 _ _ ?_
    refine R7 _ _ ?_
    refine R4 _ _ ?_
    refine R3 _ _ ?_
    refine R2 _ _ ?_
    refine R1 _ _ ?_
    obtain rfl:=Option.some.inj h7
    obtain rfl:=Option.some.inj h
    exact ⟨[],_,fm⟩
   refine q8 hn ?_
   refine A8 _ _ ?_
   refine A7 _ _ ?_
   refine q9 hn ?_
   refine Or.inl (And.intro (T9 hx12 hl4) ?_)
   refine A4 _ _ ?_
   exact jn ⟨(rest8,k5+1),hd2,h7⟩ [] (by show rest8.length < rest8.length+1; omega)
 rintro ⟨⟨⟩,rfl⟩
 refine A1 _ _ ?_
 refine j5.seqQ fun _ A9 _ R9=>?_
 refine j5.seqQ fun _ A10 _ _=>?_
 obtain ⟨o17,h16,h⟩:=j4 h
 refine jk (ι:={ s // o17=s }) hn (fun s=>[(39,.bool s.1)]) (fun s=>[]) [(1,_),(2,_),(3,_),(4,_),(8,_)] [(4,_),(8,_)] (fun _ A11 _ _=>?_) ?_
 ·refine q9 hn ?_
  refine l5 h16 (fun hb18 h16=>?_) (fun hb18 h16=>?_)
  ·refine j3 hb18 ?_
   refine j3 hb18 ?_
   refine j3 hb18 ?_
   refine j3 hb18 ?_
   refine j3 hb18 ?_
   refine A11 _ _ ?_
   exact jn ⟨_,sj h16⟩ []
  refine d9 hb18 ?_
  refine d9 hb18 ?_
  refine d9 hb18 ?_
  refine u7 (fun _=>?_)
  refine d9 hb18 ?_
  refine d9 hb18 ?_
  refine A11 _ _ ?_
  exact jn ⟨_,sj h16⟩ []
 rintro ⟨v15,hv_⟩
 replace hv_:=hv_.symm
 subst hv_
 refine A10 _ _ ?_
 refine l8 hn ?_
 refine l5 h (fun hb20 h=>?_) (fun hb20 h=>?_)
 ·refine j6 hn ?_
  refine got hn ?_
  refine R9 _ _ ?_
  obtain rfl:=Option.some.inj h
  exact ⟨[],_,fm⟩
 refine q8 hn ?_
 refine A9 _ _ ?_
 refine j5.seqQ fun _ A12 _ R12=>?_
 refine j5.seqQ fun _ A13 _ _=>?_
 obtain ⟨o23,h22,h⟩:=j4 h
 refine jk (ι:={ s // o23=s }) hn (fun s=>[(62,.bool s.1)]) (fun s=>[]) [(1,_),(2,_),(3,_),(4,_),(8,_)] [(4,_),(8,_)] (fun _ A14 _ _=>?_) ?_
 ·refine q9 hn ?_
  refine l5 h22 (fun hb24 h22=>?_) (fun hb24 h22=>?_)
  ·refine j3 hb24 ?_
   refine j3 hb24 ?_
   refine A14 _ _ ?_
   exact jn ⟨_,sj h22⟩ []
  refine d9 hb24 ?_
  refine d9 hb24 ?_
  refine l5 h22 (fun hb25 h22=>?_) (fun hb25 h22=>?_)
  ·refine j3 hb25 ?_
   refine j3 hb25 ?_
   refine j3 hb25 ?_
   refine j3 hb25 ?_
   refine j3 hb25 ?_
   refine j3 hb25 ?_
   refine A14 _ _ ?_
   exact jn ⟨_,sj h22⟩ []
  refine d9 hb25 ?_
  refine d9 hb25 ?_
  refine d9 hb25 ?_
  obtain ⟨r26,hr27,h22⟩:=j4 h22
  show l7 Try.prog _ _ _ _
  refine cA (aF9 N a0 a2 r26 hr27) ?_
  refine d9 hb25 ?_
  refine Or.inr ?_
  refine d9 hb25 ?_
  refine d9 hb25 ?_
  refine l5 h22 (fun hb28 h22=>?_) (fun hb28 h22=>?_)
  ·refine j3 hb28 ?_
   refine j3 hb28 ?_
   refine j3 hb28 ?_
   refine j3 hb28 ?_
   refine A14 _ _ ?_
   exact jn ⟨_,sj h22⟩ []
  refine d9 hb28 ?_
  refine d9 hb28 ?_
  refine l5 h22 (fun hb29 h22=>?_) (fun hb29 h22=>?_)
  ·refine j3 hb29 ?_
   refine d9 hb28 ?_
   refine j3 hb29 ?_
   refine d9 hb28 ?_
   refine A14 _ _ ?_
   exact jn ⟨_,sj h22⟩ []
  refine d9 hb29 ?_
  refine d9 hb28 ?_
  refine d9 hb29 ?_
  refine d9 hb28 ?_
  refine A14 _ _ ?_
  exact jn ⟨_,sj h22⟩ []
 rintro ⟨v21,hv_⟩
 replace hv_:=hv_.symm
 subst hv_
 refine A13 _ _ ?_
 refine l8 hn ?_
 refine l5 h (fun hb30 h=>?_) (fun hb30 h=>?_)
 ·refine j6 hn ?_
  refine got hn ?_
  refine R12 _ _ ?_
  obtain rfl:=Option.some.inj h
  exact ⟨[],_,fm⟩
 refine q8 hn ?_
 refine A12 _ _ ?_
 refine j5.seqQ fun _ A15 _ R15=>?_
 refine j6 hn ?_
 refine u7 (fun _=>?_)
 refine l8 hn ?_
 refine l5 h (fun hb32 h=>?_) (fun hb32 h=>?_)
 ·refine j6 hn ?_
  refine got hn ?_
  refine R15 _ _ ?_
  obtain rfl:=Option.some.inj h
  exact ⟨[],_,fm⟩
 refine q8 hn ?_
 refine A15 _ _ ?_
 refine j6 hn ?_
 refine u7 (fun _=>?_)
 refine j6 hn ?_
 refine Exists.intro (List.map K7 ([]:List Cl)) (And.intro (by repeat (first|exact trivial|exact rfl|(refine And.intro ?_ ?_))) ?_)
 obtain ⟨hg34,h⟩:=C9 h
 refine O7 (l2:=a0.classes) hg34 (z8 _) ?_
 refine Exists.intro (List.map K7 [(⟨a1,a2,a3,[]⟩:Cl)]) (And.intro (by repeat (first|exact trivial|exact rfl|(refine And.intro ?_ ?_))) ?_)
 obtain ⟨hg35,h⟩:=C9 h
 refine O7 (l2:=[(⟨a1,a2,a3,[]⟩:Cl)]) hg35 (z8 _) ?_
 refine kp [(4,_),(8,_),(13,_)] [(4,_),(8,_),(81,_)] ?_
 refine j6 hn ?_
 refine j5.fzAll 81 rfl ?_
 refine got hn ?_
 obtain rfl:=Option.some.inj h
 exact ⟨[],_,fm⟩

/- qcref1.Install -/
set_option maxRecDepth 100000 in
set_option maxHeartbeats 8000000 in
theorem bD6 (N:Nat) (a0:Wd) (a1:Int) (a2:Me) (r:(Wd×Int)) (h:aT6 N a0 a1 a2=some r):Spec Try.prog 52 [] [.agg (P5 a0),.int a1,.agg (O1 a2)] (.tup [.agg (P5 r.1),.int r.2]) [] []:=by
 refine Spec.of D5 Try.func52 rfl Try.ntmps52 (by kernel_rfl) rfl rfl rfl fun Γ hn=>?_
 unfold aT6 at h
 refine j6 hn ?_
 refine j5.seqQ fun _ A0 _ R0=>?_
 refine j5.seqQ fun _ A1 _ _=>?_
 obtain ⟨o3,h2,h⟩:=j4 h
 refine jk (ι:={ s // o3=s }) hn (fun s=>[(21,.bool s.1)]) (fun s=>[]) [(1,_),(3,_),(5,_),(6,_)] [(3,_),(5,_),(6,_)] (fun _ A2 _ _=>?_) ?_
 ·refine q9 hn ?_
  refine l5 h2 (fun hb4 h2=>?_) (fun hb4 h2=>?_)
  ·refine j3 hb4 ?_
   refine j3 hb4 ?_
   refine j3 hb4 ?_
   refine j3 hb4 ?_
   refine j3 hb4 ?_
   refine A2 _ _ ?_
   exact jn ⟨_,sj h2⟩ []
  refine d9 hb4 ?_
  refine d9 hb4 ?_
  refine d9 hb4 ?_
  refine u7 (fun _=>?_)
  refine d9 hb4 ?_
  refine d9 hb4 ?_
  refine A2 _ _ ?_
  exact jn ⟨_,sj h2⟩ []
 rintro ⟨v1,hv_⟩
 replace hv_:=hv_.symm
 subst hv_
 refine A1 _ _ ?_
 refine l8 hn ?_
 refine l5 h (fun hb6 h=>?_) (fun hb6 h=>?_)
 ·refine j6 hn ?_
  refine got hn ?_
  refine R0 _ _ ?_
  obtain rfl:=Option.some.inj h
  exact ⟨[],_,fm⟩
 refine q8 hn ?_
 refine A0 _ _ ?_
 refine j6 hn ?_
 refine j6 hn ?_
 refine j5.seqQ fun _ A3 _ _=>?_
 refine j6 hn ?_
 obtain ⟨x7,hx8,h⟩:=j4 h
 refine I8 hx8 ?_
 refine u7 (fun hl9=>?_)
 refine j5.nilrow 8 208 5 54 rfl rfl rfl ?_
 obtain ⟨o20,h21,h⟩:=j4 h
 refine jk (ι:={ s // o20=s }) hn (fun s=>[(9,.bool s.1.2.1),(10,.bool s.1.2.2)]) (fun s=>[(208,.row 5 (List.map O1 s.1.1) 54)]) [(1,_),(3,_),(5,_),(6,_),(8,_)] [(3,_),(5,_),(6,_)] (fun _ A4 _ _=>?_) ?_
 ·refine j5.blkQ fun _ _ E5 _ _=>?_
  refine lq (ι:={ q:((List Me)×Nat×(List Me)×Bool×Bool) // q.1=x7.methods.drop q.2.1∧aH1 N a2 q.1 q.2.1 q.2.2.1 q.2.2.2.1 q.2.2.2.2=some o20 }) hn (fun q=>[(9,.bool q.1.2.2.2.1),(10,.bool q.1.2.2.2.2),(30,.int (q.1.2.1:Int))]) (fun q=>[(208,.row 5 (List.map O1 q.1.2.2.1) 54)]) (fun q=>q.1.1.length) [(1,_),(3,_),(5,_),(6,_),(8,_),(28,_),(29,_)] [(3,_),(5,_),(6,_)] ⟨(x7.methods,0,([]:List Me),false,false),rfl,h21⟩ [] ?_
  rintro ⟨⟨rest_,k10,v11,v12,v13⟩,hd23,h21⟩ _ A6 X6 _
  replace hd23:rest_=x7.methods.drop k10:=hd23
  rcases rest_ with _|⟨x25,rest22⟩
  ·have hlt27:=H5 hd23
   replace h21:=(aH1.eq_1 _ _ _ _ _ _).symm.trans h21
   refine j6 hn ?_
   refine j5.seqQ fun _ _ X7 _=>?_
   refine l8 hn ?_
   refine d9 hlt27 ?_
   refine K8 hn ?_
   refine X7 _ _ _ ?_
   refine X6 _ _ _ ?_
   refine E5 _ _ ?_
   refine A4 _ _ ?_
   exact jn ⟨_,sj h21⟩ []
  ·obtain ⟨hx26,hd2,hlt27⟩:=F3 hd23
   replace h21:=(aH1.eq_2 _ _ _ _ _ _ _ _).symm.trans h21
   refine j6 hn ?_
   refine j5.seqQ fun _ A8 _ _=>?_
   refine l8 hn ?_
   refine j3 hlt27 ?_
   refine q8 hn ?_
   refine A8 _ _ ?_
   refine j5.seqQ fun _ A9 _ _=>?_
   obtain ⟨o32,h31,h21⟩:=j4 h21
   refine jk (ι:={ s // o32=s }) hn (fun s=>[(8,.own 42),(9,.bool s.1.2.1),(10,.bool s.1.2.2)]) (fun s=>[(42,.row 5 (List.map O1 s.1.1) 54)]) [(1,_),(3,_),(5,_),(6,_),(28,_),(29,_),(30,_)] [(3,_),(5,_),(6,_)] (fun _ A10 _ _=>?_) ?_
   ·refine j5.blkQ fun _ A11 E11 _ _=>?_
    refine j6 hn ?_
    refine Z4 hx26 ?_
    refine j5.seqQ fun _ A12 X12 _=>?_
    refine j6 hn ?_
    refine l8 hn ?_
    refine l5 h31 (fun hb33 h31=>?_) (fun hb33 h31=>?_)
    ·refine kp [(1,_),(3,_),(5,_),(6,_),(8,_),(28,_),(29,_),(30,_)] [(3,_),(5,_),(6,_),(208,_)] ?_
     refine j6 hn ?_
     refine Exists.intro (List.map O1 [a2]) (And.intro (by repeat (first|exact trivial|exact rfl|(refine And.intro ?_ ?_))) ?_)
     obtain ⟨hg34,h31⟩:=C9 h31
     refine O7 (l2:=[a2]) hg34 (z8 _) ?_
     refine j6 hn ?_
     refine K8 hn ?_
     refine X12 _ _ _ ?_
     refine E11 _ _ ?_
     refine A10 _ _ ?_
     exact jn ⟨_,sj h31⟩ []
    refine q8 hn ?_
    refine A12 _ _ ?_
    refine j5.seqQ fun _ A13 _ _=>?_
    refine j5.seqQ fun _ A14 _ _=>?_
    obtain ⟨o37,h36,h31⟩:=j4 h31
    refine jk (ι:={ s // o37=s }) hn (fun s=>[(51,.bool s.1)]) (fun s=>[]) [(1,_),(3,_),(5,_),(6,_),(8,_),(9,_),(10,_),(12,_),(28,_),(29,_),(30,_)] [(3,_),(5,_),(6,_),(12,_),(208,_)] (fun _ A15 _ _=>?_) ?_
    ·refine kp [(1,_),(3,_),(5,_),(6,_),(8,_),(9,_),(10,_),(12,_),(28,_),(29,_),(30,_)] [(3,_),(5,_),(6,_),(12,_),(208,_)] ?_
     refine q9 hn ?_
     refine l5 h36 (fun hb38 h36=>?_) (fun hb38 h36=>?_)
     ·refine j3 hb38 ?_
      refine j3 hb38 ?_
      refine j3 hb38 ?_
      refine j3 hb38 ?_
      refine j3 hb38 ?_
      refine A15 _ _ ?_
      exact jn ⟨_,sj h36⟩ []
     refine d9 hb38 ?_
     refine d9 hb38 ?_
     refine d9 hb38 ?_
     refine d9 hb38 ?_
     refine d9 hb38 ?_
     refine A15 _ _ ?_
     exact jn ⟨_,sj h36⟩ []
    rintro ⟨v35,hv_⟩
    replace hv_:=hv_.symm
    subst hv_
    refine A14 _ _ ?_
    obtain ⟨o42,h41,h31⟩:=j4 h31
    refine jk (ι:={ s // o42=s }) hn (fun s=>[(8,.own 55),(9,.bool s.1.2)]) (fun s=>[(55,.row 5 (List.map O1 s.1.1) 54)]) [(1,_),(3,_),(5,_),(6,_),(10,_),(12,_),(28,_),(29,_),(30,_)] [(3,_),(5,_),(6,_),(12,_)] (fun _ A16 _ _=>?_) ?_
    ·refine l8 hn ?_
     refine l5 h41 (fun hb43 h41=>?_) (fun hb43 h41=>?_)
     ·refine j6 hn ?_
      refine Exists.intro (List.map O1 [a2]) (And.intro (by repeat (first|exact trivial|exact rfl|(refine And.intro ?_ ?_))) ?_)
      obtain ⟨hg44,h41⟩:=C9 h41
      refine O7 (l2:=[a2]) hg44 (z8 _) ?_
      refine q9 hn ?_
      refine A16 _ _ ?_
      exact jn ⟨_,sj h41⟩ []
     refine q8 hn ?_
     refine A16 _ _ ?_
     exact jn ⟨_,sj h41⟩ [(55,208)]
    rintro ⟨⟨v39,v40⟩,rfl⟩
    refine A13 _ _ ?_
    refine q9 hn ?_
    refine Exists.intro (List.map O1 [x25]) (And.intro (by repeat (first|exact trivial|exact rfl|(refine And.intro ?_ ?_))) ?_)
    obtain ⟨hg45,h31⟩:=C9 h31
    refine O7 (l2:=[x25]) hg45 (z8 _) ?_
    refine A11 _ _ ?_
    refine A10 _ _ ?_
    exact jn ⟨_,sj h31⟩ [(42,59)]
   rintro ⟨⟨v28,v29,v30⟩,rfl⟩
   refine A9 _ _ ?_
   refine q9 hn ?_
   refine Or.inl (And.intro (T9 hx26 hl9) ?_)
   refine A6 _ _ ?_
   exact jn ⟨(rest22,k10+1,v28,v29,v30),hd2,h21⟩ [(208,42)] (by show rest22.length < rest22.length+1; omega)
 rintro ⟨⟨v17,v18,v19⟩,rfl⟩
 refine A3 _ _ ?_
 refine j5.seqQ fun _ A17 _ _=>?_
 refine j6 hn ?_
 obtain ⟨o48,h47,h⟩:=j4 h
 refine jk (ι:={ s // o48=s }) hn (fun s=>[(8,.own 66)]) (fun s=>[(66,.row 5 (List.map O1 s.1) 54)]) [(1,_),(3,_),(6,_),(10,_)] [(3,_),(6,_)] (fun _ A18 _ _=>?_) ?_
 ·refine l8 hn ?_
  refine l5 h47 (fun hb49 h47=>?_) (fun hb49 h47=>?_)
  ·refine q9 hn ?_
   refine Exists.intro (List.map O1 [a2]) (And.intro (by repeat (first|exact trivial|exact rfl|(refine And.intro ?_ ?_))) ?_)
   obtain ⟨hg50,h47⟩:=C9 h47
   refine O7 (l2:=[a2]) hg50 (z8 _) ?_
   refine A18 _ _ ?_
   exact jn ⟨_,sj h47⟩ []
  refine q8 hn ?_
  refine A18 _ _ ?_
  exact jn ⟨_,sj h47⟩ [(66,208)]
 rintro ⟨v46,hv_⟩
 replace hv_:=hv_.symm
 subst hv_
 refine A17 _ _ ?_
 refine j5.seqQ fun _ A19 _ R19=>?_
 refine j5.seqQ fun _ A20 _ _=>?_
 obtain ⟨o53,h52,h⟩:=j4 h
 refine jk (ι:={ s // o53=s }) hn (fun s=>[(78,.bool s.1)]) (fun s=>[]) [(1,_),(3,_),(6,_),(8,_)] [(3,_),(6,_),(66,_)] (fun _ A21 _ _=>?_) ?_
 ·refine q9 hn ?_
  refine l5 h52 (fun hb54 h52=>?_) (fun hb54 h52=>?_)
  ·refine j3 hb54 ?_
   refine j3 hb54 ?_
   refine j3 hb54 ?_
   obtain ⟨x55,hx56,h52⟩:=j4 h52
   refine I8 hx56 ?_
   refine j3 hb54 ?_
   refine j3 hb54 ?_
   refine j3 hb54 ?_
   refine u7 (fun _=>?_)
   refine j3 hb54 ?_
   refine j3 hb54 ?_
   refine A21 _ _ ?_
   exact jn ⟨_,sj h52⟩ []
  refine d9 hb54 ?_
  refine d9 hb54 ?_
  refine d9 hb54 ?_
  refine d9 hb54 ?_
  refine d9 hb54 ?_
  refine d9 hb54 ?_
  refine d9 hb54 ?_
  refine d9 hb54 ?_
  refine A21 _ _ ?_
  exact jn ⟨_,sj h52⟩ []
 rintro ⟨v51,hv_⟩
 replace hv_:=hv_.symm
 subst hv_
 refine A20 _ _ ?_
 refine l8 hn ?_
 refine l5 h (fun hb58 h=>?_) (fun hb58 h=>?_)
 ·refine j6 hn ?_
  refine got hn ?_
  refine R19 _ _ ?_
  obtain rfl:=Option.some.inj h
  exact ⟨[],_,fm⟩
 refine q8 hn ?_
 refine A19 _ _ ?_
 refine j6 hn ?_
 refine Exists.intro (List.map K7 ([]:List Cl)) (And.intro (by repeat (first|exact trivial|exact rfl|(refine And.intro ?_ ?_))) ?_)
 obtain ⟨hg59,h⟩:=C9 h
 refine O7 (l2:=a0.classes) hg59 (z8 _) ?_
 refine j5.fzAll 66 rfl ?_
 refine kp [(1,_),(3,_),(6,_),(8,_)] [(3,_),(6,_),(83,_)] ?_
 refine j6 hn ?_
 obtain ⟨x60,hx61,h⟩:=j4 h
 refine V6 hx61 ?_
 refine U3 (u6 hx61).2 ?_
 refine Exists.intro (List.map K7 ((([]:List Cl)++a0.classes).set a1.toNat (⟨x60.name,x60.super,x60.slots,v46⟩:Cl))) (And.intro (aP3 (u6 hx61).2 (by repeat (first|exact trivial|exact rfl|(refine And.intro ?_ ?_)))) ?_)
 refine j6 hn ?_
 refine Or.inr ?_
 refine j6 hn ?_
 refine j5.fzAll 83 rfl ?_
 refine got hn ?_
 obtain rfl:=Option.some.inj h
 exact ⟨[],_,fm⟩

/- (*inline.writer).callee -/
set_option maxRecDepth 100000 in
set_option maxHeartbeats 8000000 in
theorem bJ4 (N:Nat) (a0:F4) (a1:Int) (a2:ByteArray) (r:((Option Me)×F4)) (h:aC0 N a0 a1 a2=some r):Spec Try.prog 54 [(1000,.box [.fp (P5 a0.w),.fp (O1 a0.m),.own 1001,.int a0.temps,.own 1002,.own 1003] 113),(1001,.row 5 (List.map J2 a0.out) 60),(1002,.row 1 (List.map C8 a0.at_) 3),(1003,.row 1 (List.map C8 a0.fix) 3)] [.ptr 1000 0,.int a1,.str a2] (dO6 O1 r.1) [(1000,.box [.fp (P5 r.2.w),.fp (O1 r.2.m),.own 2,.int r.2.temps,.own 3,.own 4] 113),(2,.row 5 (List.map J2 r.2.out) 60),(1001,.gone),(3,.row 1 (List.map C8 r.2.at_) 3),(1002,.gone),(4,.row 1 (List.map C8 r.2.fix) 3),(1003,.gone)] [2,3,4]:=by
 refine Spec.of D5 Try.func54 rfl Try.ntmps54 (by kernel_rfl) rfl rfl rfl fun Γ hn=>?_
 unfold aC0 at h
 refine j5.reidB 1000 2 1001 320 rfl rfl rfl rfl rfl rfl rfl rfl rfl ?_
 refine j5.reidB 1000 4 1002 321 rfl rfl rfl rfl rfl rfl rfl rfl rfl ?_
 refine j5.reidB 1000 5 1003 322 rfl rfl rfl rfl rfl rfl rfl rfl rfl ?_
 refine j6 hn ?_
 refine j6 hn ?_
 obtain ⟨r1,hr2,h⟩:=j4 h
 show l7 Try.prog _ _ _ _
 refine cA (aW7 N a0.w a1 a2 r1 hr2) ?_
 refine j5.seqQ fun _ A0 _ R0=>?_
 refine kp [(0,_),(7,_),(8,_)] [(320,_),(321,_),(322,_),(1000,_),(1001,_),(1002,_),(1003,_)] ?_
 refine j6 hn ?_
 refine l8 hn ?_
 refine l5 h (fun hb3 h=>?_) (fun hb3 h=>?_)
 ·refine j6 hn ?_
  refine got hn ?_
  refine R0 _ _ ?_
  obtain rfl:=Option.some.inj h
  exact ⟨[(2,320),(3,321),(4,322)],_,fm⟩
 refine q8 hn ?_
 refine A0 _ _ ?_
 refine j6 hn ?_
 obtain ⟨x4,hx5,h⟩:=j4 h
 refine I8 hx5 ?_
 obtain ⟨x6,hx7,h⟩:=j4 h
 refine I8 hx7 ?_
 refine got hn ?_
 obtain rfl:=Option.some.inj h
 exact ⟨[(2,320),(3,321),(4,322)],_,fm⟩

/- slices.IndexFunc[[]api.Instr,api.Instr] -/
set_option maxRecDepth 100000 in
set_option maxHeartbeats 8000000 in
theorem aQ2 (N:Nat) (a0:(List Ins)) (g1:Ins→Option Bool) {K1:Nat} (hg1:∀x0_ y_,g1 x0_=some y_→Spec Try.prog K1 [] [.agg (J2 x0_)] (.bool y_) [] []) (r:Int) (h:P6 N a0 g1=some r):Spec Try.prog 113 [] [.sl 5 (List.map J2 a0),.fn K1 []] (.int r) [] []:=by
 refine Spec.of D5 Try.func113 rfl Try.ntmps113 (by kernel_rfl) rfl rfl rfl fun Γ hn=>?_
 unfold P6 at h
 refine j6 hn ?_
 refine j5.seqQ fun _ A0 _ R0=>?_
 refine j6 hn ?_
 refine u7 (fun hl1=>?_)
 obtain ⟨o3,h4,h⟩:=j4 h
 refine jk (ι:={ s // o3=D7.next s }) hn (fun s=>[]) (fun s=>[]) [] [] (fun _ A1 _ R1=>?_) ?_
 ·refine j5.blkQ fun _ _ E2 _ R2=>?_
  refine lq (ι:={ q:((List Ins)×Nat) // q.1=a0.drop q.2∧F8 N g1 q.1 q.2=some o3 }) hn (fun q=>[(8,.int (q.1.2:Int))]) (fun q=>[]) (fun q=>q.1.1.length) [(0,_),(1,_),(7,_)] [] ⟨(a0,0),rfl,h4⟩ [] ?_
  rintro ⟨⟨rest_,k2⟩,hd6,h4⟩ _ A3 X3 R3
  replace hd6:rest_=a0.drop k2:=hd6
  rcases rest_ with _|⟨x8,rest5⟩
  ·have hlt10:=H5 hd6
   replace h4:=(F8.eq_1 _ _ _).symm.trans h4
   refine j6 hn ?_
   refine j5.seqQ fun _ _ X4 _=>?_
   refine l8 hn ?_
   refine d9 hlt10 ?_
   refine K8 hn ?_
   refine X4 _ _ _ ?_
   refine X3 _ _ _ ?_
   refine E2 _ _ ?_
   refine A1 _ _ ?_
   exact jn ⟨_,sj h4⟩ []
  ·obtain ⟨hx9,hd2,hlt10⟩:=F3 hd6
   replace h4:=(F8.eq_2 _ _ _ _ _).symm.trans h4
   refine j6 hn ?_
   refine j5.seqQ fun _ A5 _ _=>?_
   refine l8 hn ?_
   refine j3 hlt10 ?_
   refine q8 hn ?_
   refine A5 _ _ ?_
   refine j5.seqQ fun _ A6 _ R6=>?_
   refine j5.blkQ fun _ A7 _ _ R7=>?_
   refine j6 hn ?_
   refine j6 hn ?_
   refine Z4 hx9 ?_
   obtain ⟨r11,hr12,h4⟩:=j4 h4
   show l7 Try.prog _ _ _ _
   refine cA (hg1 _ _ hr12) ?_
   refine l8 hn ?_
   refine l5 h4 (fun hb13 h4=>?_) (fun hb13 h4=>?_)
   ·refine j6 hn ?_
    refine got hn ?_
    refine R7 _ _ ?_
    refine R6 _ _ ?_
    refine R3 _ _ ?_
    refine R2 _ _ ?_
    refine R1 _ _ ?_
    refine R0 _ _ ?_
    obtain rfl:=Option.some.inj h4
    obtain rfl:=Option.some.inj h
    exact ⟨[],_,fm⟩
   refine q8 hn ?_
   refine A7 _ _ ?_
   refine A6 _ _ ?_
   refine q9 hn ?_
   refine Or.inl (And.intro (T9 hx9 hl1) ?_)
   refine A3 _ _ ?_
   exact jn ⟨(rest5,k2+1),hd2,h4⟩ [] (by show rest5.length < rest5.length+1; omega)
 rintro ⟨⟨⟩,rfl⟩
 refine A0 _ _ ?_
 refine j6 hn ?_
 refine got hn ?_
 obtain rfl:=Option.some.inj h
 exact ⟨[],_,fm⟩

/- slices.ContainsFunc[[]api.Instr,api.Instr] -/
set_option maxRecDepth 100000 in
set_option maxHeartbeats 8000000 in
theorem aN4 (N:Nat) (a0:(List Ins)) (g1:Ins→Option Bool) {K1:Nat} (hg1:∀x0_ y_,g1 x0_=some y_→Spec Try.prog K1 [] [.agg (J2 x0_)] (.bool y_) [] []) (r:Bool) (h:N8 N a0 g1=some r):Spec Try.prog 84 [] [.sl 5 (List.map J2 a0),.fn K1 []] (.bool r) [] []:=by
 refine Spec.of D5 Try.func84 rfl Try.ntmps84 (by kernel_rfl) rfl rfl rfl fun Γ hn=>?_
 unfold N8 at h
 refine j6 hn ?_
 refine j6 hn ?_
 obtain ⟨r1,hr2,h⟩:=j4 h
 show l7 Try.prog _ _ _ _
 refine cA (aQ2 N a0 g1 hg1 r1 hr2) ?_
 refine got hn ?_
 obtain rfl:=Option.some.inj h
 exact ⟨[],_,fm⟩

/- choose.Leaf$1 -/
set_option maxRecDepth 100000 in
set_option maxHeartbeats 8000000 in
theorem b45 (N:Nat) (a0:Ins) (r:Bool) (h:aG7 N a0=some r):Spec Try.prog 85 [] [.agg (J2 a0)] (.bool r) [] []:=by
 refine Spec.of D5 Try.func85 rfl Try.ntmps85 (by kernel_rfl) rfl rfl rfl fun Γ hn=>?_
 unfold aG7 at h
 refine j6 hn ?_
 refine j5.seqQ fun _ A0 _ _=>?_
 obtain ⟨o3,h2,h⟩:=j4 h
 refine jk (ι:={ s // o3=s }) hn (fun s=>[(2,.bool s.1)]) (fun s=>[]) [] [] (fun _ A1 _ _=>?_) ?_
 ·refine q9 hn ?_
  refine l5 h2 (fun hb4 h2=>?_) (fun hb4 h2=>?_)
  ·refine j3 hb4 ?_
   refine j3 hb4 ?_
   refine j3 hb4 ?_
   refine A1 _ _ ?_
   exact jn ⟨_,sj h2⟩ []
  refine d9 hb4 ?_
  refine d9 hb4 ?_
  refine d9 hb4 ?_
  refine A1 _ _ ?_
  exact jn ⟨_,sj h2⟩ []
 rintro ⟨v1,hv_⟩
 replace hv_:=hv_.symm
 subst hv_
 refine A0 _ _ ?_
 refine got hn ?_
 obtain rfl:=Option.some.inj h
 exact ⟨[],_,fm⟩

/- choose.Leaf -/
set_option maxRecDepth 100000 in
set_option maxHeartbeats 8000000 in
theorem bN8 (N:Nat) (a0:Me) (r:Bool) (h:aQ9 N a0=some r):Spec Try.prog 55 [] [.agg (O1 a0)] (.bool r) [] []:=by
 refine Spec.of D5 Try.func55 rfl Try.ntmps55 (by kernel_rfl) rfl rfl rfl fun Γ hn=>?_
 unfold aQ9 at h
 refine j6 hn ?_
 refine j5.seqQ fun _ A0 _ _=>?_
 obtain ⟨o3,h2,h⟩:=j4 h
 refine jk (ι:={ s // o3=s }) hn (fun s=>[(2,.bool s.1)]) (fun s=>[]) [] [] (fun _ A1 _ _=>?_) ?_
 ·refine q9 hn ?_
  refine l5 h2 (fun hb4 h2=>?_) (fun hb4 h2=>?_)
  ·refine j3 hb4 ?_
   refine j3 hb4 ?_
   obtain ⟨r5,hr6,h2⟩:=j4 h2
   show l7 Try.prog _ _ _ _
   refine cA (aN4 N a0.code (fun x0_=>aG7 N x0_) (fun x0_ y_ hy_=>b45 N x0_ y_ hy_) r5 hr6) ?_
   refine j3 hb4 ?_
   refine j3 hb4 ?_
   refine A1 _ _ ?_
   exact jn ⟨_,sj h2⟩ []
  refine d9 hb4 ?_
  refine d9 hb4 ?_
  refine d9 hb4 ?_
  refine d9 hb4 ?_
  refine A1 _ _ ?_
  exact jn ⟨_,sj h2⟩ []
 rintro ⟨v1,hv_⟩
 replace hv_:=hv_.symm
 subst hv_
 refine A0 _ _ ?_
 refine got hn ?_
 obtain rfl:=Option.some.inj h
 exact ⟨[],_,fm⟩

/- inline.size -/
set_option maxRecDepth 100000 in
set_option maxHeartbeats 8000000 in
theorem cA8 (N:Nat) (a0:Me) (r:Int) (h:aR5 N a0=some r):Spec Try.prog 56 [] [.fp (O1 a0)] (.int r) [] []:=by
 refine Spec.of D5 Try.func56 rfl Try.ntmps56 (by kernel_rfl) rfl rfl rfl fun Γ hn=>?_
 unfold aR5 at h
 refine j6 hn ?_
 refine j5.seqQ fun _ A0 _ _=>?_
 refine kp [(0,_)] [] ?_
 refine H7 hn (by kernel_rfl) ?_
 refine Or.inr ?_
 refine Or.inr ?_
 refine Or.inr ?_
 refine u7 (fun _=>?_)
 refine Or.inr ?_
 refine A0 _ _ ?_
 refine got hn ?_
 obtain rfl:=Option.some.inj h
 exact ⟨[],_,fm⟩

/- (*inline.writer).put -/
set_option maxRecDepth 100000 in
set_option maxHeartbeats 8000000 in
theorem G9 (N:Nat) (a0:F4) (a1:Int) (a2:Int) (a3:Int) (a4:Int) (r:F4) (h:F9 N a0 a1 a2 a3 a4=some r):Spec Try.prog 86 [(1000,.box [.fp (P5 a0.w),.fp (O1 a0.m),.own 1001,.int a0.temps,.own 1002,.own 1003] 113),(1001,.row 5 (List.map J2 a0.out) 60),(1002,.row 1 (List.map C8 a0.at_) 3),(1003,.row 1 (List.map C8 a0.fix) 3)] [.ptr 1000 0,.int a1,.int a2,.int a3,.int a4] (.tup []) [(1000,.box [.fp (P5 r.w),.fp (O1 r.m),.own 2,.int r.temps,.own 3,.own 4] 113),(2,.row 5 (List.map J2 r.out) 60),(1001,.gone),(3,.row 1 (List.map C8 r.at_) 3),(1002,.gone),(4,.row 1 (List.map C8 r.fix) 3),(1003,.gone)] [2,3,4]:=by
 refine Spec.of D5 Try.func86 rfl Try.ntmps86 (by kernel_rfl) rfl rfl rfl fun Γ hn=>?_
 unfold F9 at h
 refine j5.reidB 1000 2 1001 320 rfl rfl rfl rfl rfl rfl rfl rfl rfl ?_
 refine j5.reidB 1000 4 1002 321 rfl rfl rfl rfl rfl rfl rfl rfl rfl ?_
 refine j5.reidB 1000 5 1003 322 rfl rfl rfl rfl rfl rfl rfl rfl rfl ?_
 refine q9 hn ?_
 refine Exists.intro (List.map J2 [(⟨a1,a2,a3,a4,ByteArray.empty⟩:Ins)]) (And.intro (by repeat (first|exact trivial|exact rfl|(refine And.intro ?_ ?_))) ?_)
 obtain ⟨hg1,h⟩:=C9 h
 refine O7 (l2:=[(⟨a1,a2,a3,a4,ByteArray.empty⟩:Ins)]) hg1 (z8 _) ?_
 obtain rfl:=Option.some.inj h
 exact ⟨[(2,21),(3,321),(4,322)],_,fm⟩

/- (*inline.writer).send -/
set_option maxRecDepth 100000 in
set_option maxHeartbeats 8000000 in
theorem bO3 (N:Nat) (a0:F4) (a1:Int) (a2:Int) (a3:Ins) (a4:Me) (r:F4) (h:aF1 N a0 a1 a2 a3 a4=some r):Spec Try.prog 57 [(1000,.box [.fp (P5 a0.w),.fp (O1 a0.m),.own 1001,.int a0.temps,.own 1002,.own 1003] 113),(1001,.row 5 (List.map J2 a0.out) 60),(1002,.row 1 (List.map C8 a0.at_) 3),(1003,.row 1 (List.map C8 a0.fix) 3)] [.ptr 1000 0,.int a1,.int a2,.agg (J2 a3),.fp (O1 a4)] (.tup []) [(1000,.box [.fp (P5 r.w),.fp (O1 r.m),.own 2,.int r.temps,.own 3,.own 4] 113),(2,.row 5 (List.map J2 r.out) 60),(1001,.gone),(3,.row 1 (List.map C8 r.at_) 3),(1002,.gone),(4,.row 1 (List.map C8 r.fix) 3),(1003,.gone)] [2,3,4]:=by
 refine Spec.of D5 Try.func57 rfl Try.ntmps57 (by kernel_rfl) rfl rfl rfl fun Γ hn=>?_
 unfold aF1 at h
 refine j5.reidB 1000 2 1001 320 rfl rfl rfl rfl rfl rfl rfl rfl rfl ?_
 refine j5.reidB 1000 4 1002 321 rfl rfl rfl rfl rfl rfl rfl rfl rfl ?_
 refine j5.reidB 1000 5 1003 322 rfl rfl rfl rfl rfl rfl rfl rfl rfl ?_
 refine j6 hn ?_
 refine j6 hn ?_
 refine j5.seqQ fun _ A0 _ _=>?_
 refine kp [(0,_),(1,_),(2,_),(4,_),(8,_),(10,_)] [(8,_),(320,_),(321,_),(322,_),(1000,_),(1001,_),(1002,_),(1003,_)] ?_
 refine H7 hn (by kernel_rfl) ?_
 refine Or.inr ?_
 refine Or.inr ?_
 refine Or.inr ?_
 refine A0 _ _ ?_
 refine kp [(0,_),(1,_),(2,_),(4,_),(8,_),(10,_)] [(8,_),(320,_),(321,_),(322,_),(1000,_),(1001,_),(1002,_),(1003,_)] ?_
 refine j6 hn ?_
 obtain ⟨r1,hr2,h⟩:=j4 h
 show l7 Try.prog _ _ _ _
 refine cA ((G9 N (⟨a0.w,a0.m,a0.out,(wr (a0.temps+(wr ((wr ((1:Int)+a4.args))+a4.temps)))),a0.at_,a0.fix⟩:F4) (18:Int) a1 a3.a a2 r1 hr2).swl [(1001,320),(1002,321),(1003,322),(2,501),(3,502),(4,503)] rfl) ?_
 refine j6 hn ?_
 obtain ⟨r3,hr4,h⟩:=j4 h
 show l7 Try.prog _ _ _ _
 refine cA ((G9 N (⟨r1.w,r1.m,r1.out,r1.temps,r1.at_,r1.fix⟩:F4) (21:Int) (0:Int) (0:Int) (0:Int) r3 hr4).swl [(1001,501),(1002,502),(1003,503),(2,504),(3,505),(4,506)] rfl) ?_
 refine j5.seqQ fun _ A1 _ _=>?_
 refine j6 hn ?_
 obtain ⟨o26,h27,h⟩:=j4 h
 refine jk (ι:={ s // o26=s }) hn (fun s=>[]) (fun s=>[(504,.row 5 (List.map J2 s.1.2.2.1) 60),(505,.row 1 (List.map C8 s.1.2.2.2.2.1) 3),(506,.row 1 (List.map C8 s.1.2.2.2.2.2) 3),(1000,.box [.fp (P5 s.1.1),.fp (O1 s.1.2.1),.own 504,.int s.1.2.2.2.1,.own 505,.own 506] 113)]) [(0,_),(4,_),(10,_)] [(1001,_),(1002,_),(1003,_)] (fun _ A2 _ _=>?_) ?_
 ·refine j5.blkQ fun _ _ E3 _ _=>?_
  refine lq (ι:={ q:(Nat×Wd×Me×(List Ins)×Int×(List Int)×(List Int)×Int) // O4 N a0 q.1 q.2.1 q.2.2.1 q.2.2.2.1 q.2.2.2.2.1 q.2.2.2.2.2.1 q.2.2.2.2.2.2.1 q.2.2.2.2.2.2.2=some o26 }) hn (fun q=>[(11,.int q.1.2.2.2.2.2.2.2)]) (fun q=>[(504,.row 5 (List.map J2 q.1.2.2.2.1) 60),(505,.row 1 (List.map C8 q.1.2.2.2.2.2.1) 3),(506,.row 1 (List.map C8 q.1.2.2.2.2.2.2.1) 3),(1000,.box [.fp (P5 q.1.2.1),.fp (O1 q.1.2.2.1),.own 504,.int q.1.2.2.2.2.1,.own 505,.own 506] 113)]) (fun q=>q.1.1) [(0,_),(4,_),(10,_)] [(1001,_),(1002,_),(1003,_)] ⟨(N,r3.w,r3.m,r3.out,r3.temps,r3.at_,r3.fix,a4.args),h27⟩ [] ?_
  rintro ⟨⟨n_,v6,v7,v8,v9,v10,v11,v12⟩,h27⟩ _ A4 X4 _
  rcases n_ with _|n30
  ·rw [O4.eq_1] at h27
   cases h27
  ·replace h27:=(O4.eq_2 _ _ _ _ _ _ _ _ _ _).symm.trans h27
   refine j5.seqQ fun _ A5 X5 _=>?_
   refine j6 hn ?_
   refine l8 hn ?_
   refine l5 h27 (fun hb31 h27=>?_) (fun hb31 h27=>?_)
   ·refine q8 hn ?_
    refine A5 _ _ ?_
    refine j5.seqQ fun _ A6 _ _=>?_
    refine j5.blkQ fun _ A7 _ _ _=>?_
    refine q9 hn ?_
    refine Or.inr ?_
    obtain ⟨r32,hr33,h27⟩:=j4 h27
    show l7 Try.prog _ _ _ _
    refine cA ((G9 N (⟨v6,v7,v8,v9,v10,v11⟩:F4) (11:Int) (wr (a0.temps+v12)) (0:Int) (0:Int) r32 hr33).swl [(1001,504),(1002,505),(1003,506),(2,507),(3,508),(4,509)] rfl) ?_
    refine A7 _ _ ?_
    refine A6 _ _ ?_
    refine q9 hn ?_
    refine Or.inr ?_
    refine A4 _ _ ?_
    exact jn ⟨(n30,r32.w,r32.m,r32.out,r32.temps,r32.at_,r32.fix,(wr (v12 - (1:Int)))),h27⟩ [(504,507),(505,508),(506,509)] (by show n30 < n30+1; omega)
   refine K8 hn ?_
   refine X5 _ _ _ ?_
   refine X4 _ _ _ ?_
   refine E3 _ _ ?_
   refine A2 _ _ ?_
   exact jn ⟨_,sj h27⟩ []
 rintro ⟨⟨v20,v21,v22,v23,v24,v25⟩,rfl⟩
 refine A1 _ _ ?_
 refine j5.seqQ fun _ A8 _ _=>?_
 refine j6 hn ?_
 refine j5.rng 61 rfl (fun hrn=>?_)
 obtain ⟨o53,h54,h⟩:=j4 h
 refine jk (ι:={ s // o53=s }) hn (fun s=>[]) (fun s=>[(504,.row 5 (List.map J2 s.1.2.2.1) 60),(505,.row 1 (List.map C8 s.1.2.2.2.2.1) 3),(506,.row 1 (List.map C8 s.1.2.2.2.2.2) 3),(1000,.box [.fp (P5 s.1.1),.fp (O1 s.1.2.1),.own 504,.int s.1.2.2.2.1,.own 505,.own 506] 113)]) [(0,_),(4,_),(10,_)] [(1001,_),(1002,_),(1003,_)] (fun _ A9 _ _=>?_) ?_
 ·refine j5.blkQ fun _ _ E10 _ _=>?_
  refine lq (ι:={ q:(Nat×Nat×Wd×Me×(List Ins)×Int×(List Int)×(List Int)) // q.1=(a4.temps - (q.2.1:Int)).toNat∧O3 N a0 a4 q.1 q.2.1 q.2.2.1 q.2.2.2.1 q.2.2.2.2.1 q.2.2.2.2.2.1 q.2.2.2.2.2.2.1 q.2.2.2.2.2.2.2=some o53 }) hn (fun q=>[(62,.int (q.1.2.1:Int))]) (fun q=>[(504,.row 5 (List.map J2 q.1.2.2.2.2.1) 60),(505,.row 1 (List.map C8 q.1.2.2.2.2.2.2.1) 3),(506,.row 1 (List.map C8 q.1.2.2.2.2.2.2.2) 3),(1000,.box [.fp (P5 q.1.2.2.1),.fp (O1 q.1.2.2.2.1),.own 504,.int q.1.2.2.2.2.2.1,.own 505,.own 506] 113)]) (fun q=>q.1.1) [(0,_),(4,_),(10,_),(61,_)] [(1001,_),(1002,_),(1003,_)] ⟨((a4.temps - ((0:Nat):Int)).toNat,0,v20,v21,v22,v23,v24,v25),rfl,h54⟩ [] ?_
  rintro ⟨⟨n_,k34,v35,v36,v37,v38,v39,v40⟩,hd56,h54⟩ _ A11 X11 _
  replace hd56:n_=(a4.temps - (k34:Int)).toNat:=hd56
  rcases n_ with _|n57
  ·have hlt60:=cI8 hd56
   replace h54:=(O3.eq_1 _ _ _ _ _ _ _ _ _ _).symm.trans h54
   refine j6 hn ?_
   refine j5.seqQ fun _ _ X12 _=>?_
   refine l8 hn ?_
   refine d9 hlt60 ?_
   refine K8 hn ?_
   refine X12 _ _ _ ?_
   refine X11 _ _ _ ?_
   refine E10 _ _ ?_
   refine A9 _ _ ?_
   exact jn ⟨_,sj h54⟩ []
  ·obtain ⟨hd2,hlt60⟩:=b73 hd56
   replace h54:=(O3.eq_2 _ _ _ _ _ _ _ _ _ _ _).symm.trans h54
   refine j6 hn ?_
   refine j5.seqQ fun _ A13 _ _=>?_
   refine l8 hn ?_
   refine j3 hlt60 ?_
   refine q8 hn ?_
   refine A13 _ _ ?_
   refine j5.seqQ fun _ A14 _ _=>?_
   refine j5.blkQ fun _ A15 _ _ _=>?_
   refine j6 hn ?_
   refine j6 hn ?_
   obtain ⟨r61,hr62,h54⟩:=j4 h54
   show l7 Try.prog _ _ _ _
   refine cA ((G9 N (⟨v35,v36,v37,v38,v39,v40⟩:F4) (6:Int) (0:Int) (0:Int) (0:Int) r61 hr62).swl [(1001,504),(1002,505),(1003,506),(2,510),(3,511),(4,512)] rfl) ?_
   refine q9 hn ?_
   refine Or.inr ?_
   refine Or.inr ?_
   refine Or.inr ?_
   obtain ⟨r63,hr64,h54⟩:=j4 h54
   show l7 Try.prog _ _ _ _
   refine cA ((G9 N (⟨r61.w,r61.m,r61.out,r61.temps,r61.at_,r61.fix⟩:F4) (11:Int) (wr ((wr ((wr (a0.temps+(1:Int)))+a4.args))+(k34:Int))) (0:Int) (0:Int) r63 hr64).swl [(1001,510),(1002,511),(1003,512),(2,513),(3,514),(4,515)] rfl) ?_
   refine A15 _ _ ?_
   refine A14 _ _ ?_
   refine kp [(0,_),(4,_),(10,_),(61,_),(62,_)] [(513,_),(514,_),(515,_),(1000,_),(1001,_),(1002,_),(1003,_)] ?_
   refine q9 hn ?_
   refine Or.inl (And.intro (cV1 hlt60 hrn) ?_)
   refine A11 _ _ ?_
   exact jn ⟨(n57,k34+1,r63.w,r63.m,r63.out,r63.temps,r63.at_,r63.fix),hd2,h54⟩ [(504,513),(505,514),(506,515)] (by show n57 < n57+1; omega)
 rintro ⟨⟨v47,v48,v49,v50,v51,v52⟩,rfl⟩
 refine A8 _ _ ?_
 refine j6 hn ?_
 refine u7 (fun _=>?_)
 refine j6 hn ?_
 refine u7 (fun hl66=>?_)
 obtain ⟨o86,h87,h⟩:=j4 h
 refine jk (ι:={ s // o86=s }) hn (fun s=>[]) (fun s=>[(504,.row 5 (List.map J2 s.1.2.2.1) 60),(505,.row 1 (List.map C8 s.1.2.2.2.2.1) 3),(506,.row 1 (List.map C8 s.1.2.2.2.2.2) 3),(1000,.box [.fp (P5 s.1.1),.fp (O1 s.1.2.1),.own 504,.int s.1.2.2.2.1,.own 505,.own 506] 113)]) [(0,_)] [(1001,_),(1002,_),(1003,_)] (fun _ A16 _ _=>?_) ?_
 ·refine j5.blkQ fun _ _ E17 _ _=>?_
  refine lq (ι:={ q:((List Ins)×Nat×Wd×Me×(List Ins)×Int×(List Int)×(List Int)) // q.1=a4.code.drop q.2.1∧M4 N a0 a4 v49 q.1 q.2.1 q.2.2.1 q.2.2.2.1 q.2.2.2.2.1 q.2.2.2.2.2.1 q.2.2.2.2.2.2.1 q.2.2.2.2.2.2.2=some o86 }) hn (fun q=>[(89,.int (q.1.2.1:Int))]) (fun q=>[(504,.row 5 (List.map J2 q.1.2.2.2.2.1) 60),(505,.row 1 (List.map C8 q.1.2.2.2.2.2.2.1) 3),(506,.row 1 (List.map C8 q.1.2.2.2.2.2.2.2) 3),(1000,.box [.fp (P5 q.1.2.2.1),.fp (O1 q.1.2.2.2.1),.own 504,.int q.1.2.2.2.2.2.1,.own 505,.own 506] 113)]) (fun q=>q.1.1.length) [(0,_),(4,_),(10,_),(13,_),(87,_),(88,_)] [(1001,_),(1002,_),(1003,_)] ⟨(a4.code,0,v47,v48,v49,v50,v51,v52),rfl,h87⟩ [] ?_
  rintro ⟨⟨rest_,k67,v68,v69,v70,v71,v72,v73⟩,hd89,h87⟩ _ A18 X18 _
  replace hd89:rest_=a4.code.drop k67:=hd89
  rcases rest_ with _|⟨x91,rest88⟩
  ·have hlt93:=H5 hd89
   replace h87:=(M4.eq_1 _ _ _ _ _ _ _ _ _ _ _).symm.trans h87
   refine j6 hn ?_
   refine j5.seqQ fun _ _ X19 _=>?_
   refine l8 hn ?_
   refine d9 hlt93 ?_
   refine K8 hn ?_
   refine X19 _ _ _ ?_
   refine X18 _ _ _ ?_
   refine E17 _ _ ?_
   refine A16 _ _ ?_
   exact jn ⟨_,sj h87⟩ []
  ·obtain ⟨hx92,hd2,hlt93⟩:=F3 hd89
   replace h87:=(M4.eq_2 _ _ _ _ _ _ _ _ _ _ _ _ _).symm.trans h87
   refine j6 hn ?_
   refine j5.seqQ fun _ A20 _ _=>?_
   refine l8 hn ?_
   refine j3 hlt93 ?_
   refine q8 hn ?_
   refine A20 _ _ ?_
   refine j5.seqQ fun _ A21 _ _=>?_
   obtain ⟨o101,h100,h87⟩:=j4 h87
   refine jk (ι:={ s // o101=s }) hn (fun s=>[]) (fun s=>[(516,.row 5 (List.map J2 s.1.2.2.1) 60),(517,.row 1 (List.map C8 s.1.2.2.2.2.1) 3),(518,.row 1 (List.map C8 s.1.2.2.2.2.2) 3),(1000,.box [.fp (P5 s.1.1),.fp (O1 s.1.2.1),.own 516,.int s.1.2.2.2.1,.own 517,.own 518] 113)]) [(0,_),(4,_),(10,_),(13,_),(87,_),(88,_),(89,_)] [(1001,_),(1002,_),(1003,_)] (fun _ A22 _ _=>?_) ?_
   ·refine j5.blkQ fun _ A23 _ _ _=>?_
    refine j6 hn ?_
    refine Z4 hx92 ?_
    refine j6 hn ?_
    obtain ⟨o109,h108,h100⟩:=j4 h100
    refine jk (ι:={ s // o109=s }) hn (fun s=>[]) (fun s=>[(516,.row 5 (List.map J2 s.1.2.2.1) 60),(517,.row 1 (List.map C8 s.1.2.2.2.2.1) 3),(518,.row 1 (List.map C8 s.1.2.2.2.2.2) 3),(1000,.box [.fp (P5 s.1.1),.fp (O1 s.1.2.1),.own 516,.int s.1.2.2.2.1,.own 517,.own 518] 113)]) [(0,_),(4,_),(10,_),(13,_),(87,_),(88,_),(89,_)] [(1001,_),(1002,_),(1003,_)] (fun _ A24 _ _=>?_) ?_
    ·refine j5.blkQ fun _ A25 _ _ _=>?_
     refine j6 hn ?_
     obtain ⟨o117,h116,h108⟩:=j4 h108
     refine jk (ι:={ s // o117=s }) hn (fun s=>[]) (fun s=>[(516,.row 5 (List.map J2 s.1.2.2.1) 60),(517,.row 1 (List.map C8 s.1.2.2.2.2.1) 3),(518,.row 1 (List.map C8 s.1.2.2.2.2.2) 3),(1000,.box [.fp (P5 s.1.1),.fp (O1 s.1.2.1),.own 516,.int s.1.2.2.2.1,.own 517,.own 518] 113)]) [(0,_),(4,_),(10,_),(13,_),(87,_),(88,_),(89,_)] [(1001,_),(1002,_),(1003,_)] (fun _ A26 _ _=>?_) ?_
     ·refine l8 hn ?_
      refine l5 h116 (fun hb118 h116=>?_) (fun hb118 h116=>?_)
      ·refine q9 hn ?_
       obtain ⟨r119,hr120,h116⟩:=j4 h116
       show l7 Try.prog _ _ _ _
       refine cA ((G9 N (⟨v68,v69,v70,v71,v72,v73⟩:F4) (3:Int) a0.temps (0:Int) (0:Int) r119 hr120).swl [(1001,504),(1002,505),(1003,506),(2,516),(3,517),(4,518)] rfl) ?_
       refine A26 _ _ ?_
       exact jn ⟨_,sj h116⟩ []
      refine j6 hn ?_
      obtain ⟨o128,h127,h116⟩:=j4 h116
      refine jk (ι:={ s // o128=s }) hn (fun s=>[]) (fun s=>[(519,.row 5 (List.map J2 s.1.2.2.1) 60),(520,.row 1 (List.map C8 s.1.2.2.2.2.1) 3),(521,.row 1 (List.map C8 s.1.2.2.2.2.2) 3),(1000,.box [.fp (P5 s.1.1),.fp (O1 s.1.2.1),.own 519,.int s.1.2.2.2.1,.own 520,.own 521] 113)]) [(0,_),(4,_),(10,_),(13,_),(87,_),(88,_),(89,_)] [(1001,_),(1002,_),(1003,_)] (fun _ A27 _ _=>?_) ?_
      ·refine l8 hn ?_
       refine l5 h127 (fun hb129 h127=>?_) (fun hb129 h127=>?_)
       ·refine kp [(0,_),(4,_),(10,_),(13,_),(15,_),(87,_),(88,_),(89,_)] [(15,_),(504,_),(505,_),(506,_),(1000,_),(1001,_),(1002,_),(1003,_)] ?_
        refine q9 hn ?_
        refine Or.inr ?_
        refine Or.inr ?_
        obtain ⟨r130,hr131,h127⟩:=j4 h127
        show l7 Try.prog _ _ _ _
        refine cA ((G9 N (⟨v68,v69,v70,v71,v72,v73⟩:F4) (3:Int) (wr ((wr (a0.temps+(1:Int)))+x91.a)) (0:Int) (0:Int) r130 hr131).swl [(1001,504),(1002,505),(1003,506),(2,519),(3,520),(4,521)] rfl) ?_
        refine A27 _ _ ?_
        exact jn ⟨_,sj h127⟩ []
       refine j5.seqQ fun _ A28 _ _=>?_
       refine kp [(0,_),(4,_),(10,_),(13,_),(15,_),(87,_),(88,_),(89,_),(94,_)] [(15,_),(504,_),(505,_),(506,_),(1000,_),(1001,_),(1002,_),(1003,_)] ?_
       refine j6 hn ?_
       obtain ⟨o134,h133,h127⟩:=j4 h127
       refine jk (ι:={ s // o134=s }) hn (fun s=>[(115,.bool s.1)]) (fun s=>[]) [(0,_),(4,_),(10,_),(13,_),(15,_),(87,_),(88,_),(89,_),(94,_)] [(15,_),(504,_),(505,_),(506,_),(1000,_),(1001,_),(1002,_),(1003,_)] (fun _ A29 _ _=>?_) ?_
       ·refine l8 hn ?_
        refine l5 h133 (fun hb135 h133=>?_) (fun hb135 h133=>?_)
        ·refine q8 hn ?_
         refine A29 _ _ ?_
         exact jn ⟨_,sj h133⟩ []
        refine q9 hn ?_
        refine A29 _ _ ?_
        exact jn ⟨_,sj h133⟩ []
       rintro ⟨v132,hv_⟩
       replace hv_:=hv_.symm
       subst hv_
       refine A28 _ _ ?_
       obtain ⟨o143,h142,h127⟩:=j4 h127
       refine jk (ι:={ s // o143=s }) hn (fun s=>[]) (fun s=>[(522,.row 5 (List.map J2 s.1.2.2.1) 60),(523,.row 1 (List.map C8 s.1.2.2.2.2.1) 3),(524,.row 1 (List.map C8 s.1.2.2.2.2.2) 3),(1000,.box [.fp (P5 s.1.1),.fp (O1 s.1.2.1),.own 522,.int s.1.2.2.2.1,.own 523,.own 524] 113)]) [(0,_),(4,_),(10,_),(13,_),(87,_),(88,_),(89,_)] [(1001,_),(1002,_),(1003,_)] (fun _ A30 _ _=>?_) ?_
       ·refine l8 hn ?_
        refine l5 h142 (fun hb144 h142=>?_) (fun hb144 h142=>?_)
        ·refine H7 hn (by kernel_rfl) ?_
         refine Or.inr ?_
         refine Or.inr ?_
         refine Or.inr ?_
         obtain ⟨r145,hr146,h142⟩:=j4 h142
         show l7 Try.prog _ _ _ _
         refine cA ((G9 N (⟨v68,v69,v70,v71,v72,v73⟩:F4) x91.op (wr ((wr ((wr (a0.temps+(1:Int)))+a4.args))+x91.a)) (0:Int) (0:Int) r145 hr146).swl [(1001,504),(1002,505),(1003,506),(2,522),(3,523),(4,524)] rfl) ?_
         refine A30 _ _ ?_
         exact jn ⟨_,sj h142⟩ []
        refine j6 hn ?_
        obtain ⟨o154,h153,h142⟩:=j4 h142
        refine jk (ι:={ s // o154=s }) hn (fun s=>[]) (fun s=>[(525,.row 5 (List.map J2 s.1.2.2.1) 60),(526,.row 1 (List.map C8 s.1.2.2.2.2.1) 3),(527,.row 1 (List.map C8 s.1.2.2.2.2.2) 3),(1000,.box [.fp (P5 s.1.1),.fp (O1 s.1.2.1),.own 525,.int s.1.2.2.2.1,.own 526,.own 527] 113)]) [(0,_),(4,_),(10,_),(13,_),(87,_),(88,_),(89,_)] [(1001,_),(1002,_),(1003,_)] (fun _ A31 _ _=>?_) ?_
        ·refine l8 hn ?_
         refine l5 h153 (fun hb155 h153=>?_) (fun hb155 h153=>?_)
         ·refine q9 hn ?_
          obtain ⟨r156,hr157,h153⟩:=j4 h153
          show l7 Try.prog _ _ _ _
          refine cA ((G9 N (⟨v68,v69,v70,v71,v72,v73⟩:F4) (19:Int) a0.temps x91.a (0:Int) r156 hr157).swl [(1001,504),(1002,505),(1003,506),(2,525),(3,526),(4,527)] rfl) ?_
          refine A31 _ _ ?_
          exact jn ⟨_,sj h153⟩ []
         refine j6 hn ?_
         obtain ⟨o165,h164,h153⟩:=j4 h153
         refine jk (ι:={ s // o165=s }) hn (fun s=>[]) (fun s=>[(528,.row 5 (List.map J2 s.1.2.2.1) 60),(529,.row 1 (List.map C8 s.1.2.2.2.2.1) 3),(530,.row 1 (List.map C8 s.1.2.2.2.2.2) 3),(1000,.box [.fp (P5 s.1.1),.fp (O1 s.1.2.1),.own 528,.int s.1.2.2.2.1,.own 529,.own 530] 113)]) [(0,_),(4,_),(10,_),(13,_),(87,_),(88,_),(89,_)] [(1001,_),(1002,_),(1003,_)] (fun _ A32 _ _=>?_) ?_
         ·refine l8 hn ?_
          refine l5 h164 (fun hb166 h164=>?_) (fun hb166 h164=>?_)
          ·refine q9 hn ?_
           obtain ⟨r167,hr168,h164⟩:=j4 h164
           show l7 Try.prog _ _ _ _
           refine cA ((G9 N (⟨v68,v69,v70,v71,v72,v73⟩:F4) (20:Int) a0.temps x91.a (0:Int) r167 hr168).swl [(1001,504),(1002,505),(1003,506),(2,528),(3,529),(4,530)] rfl) ?_
           refine A32 _ _ ?_
           exact jn ⟨_,sj h164⟩ []
          refine j5.seqQ fun _ A33 _ _=>?_
          refine j6 hn ?_
          obtain ⟨o171,h170,h164⟩:=j4 h164
          refine jk (ι:={ s // o171=s }) hn (fun s=>[(146,.bool s.1)]) (fun s=>[]) [(0,_),(4,_),(10,_),(13,_),(15,_),(87,_),(88,_),(89,_),(94,_)] [(15,_),(504,_),(505,_),(506,_),(1000,_),(1001,_),(1002,_),(1003,_)] (fun _ A34 _ _=>?_) ?_
          ·refine l8 hn ?_
           refine l5 h170 (fun hb172 h170=>?_) (fun hb172 h170=>?_)
           ·refine q8 hn ?_
            refine A34 _ _ ?_
            exact jn ⟨_,sj h170⟩ []
           refine q9 hn ?_
           refine A34 _ _ ?_
           exact jn ⟨_,sj h170⟩ []
          rintro ⟨v169,hv_⟩
          replace hv_:=hv_.symm
          subst hv_
          refine A33 _ _ ?_
          obtain ⟨o180,h179,h164⟩:=j4 h164
          refine jk (ι:={ s // o180=s }) hn (fun s=>[]) (fun s=>[(531,.row 5 (List.map J2 s.1.2.2.1) 60),(532,.row 1 (List.map C8 s.1.2.2.2.2.1) 3),(533,.row 1 (List.map C8 s.1.2.2.2.2.2) 3),(1000,.box [.fp (P5 s.1.1),.fp (O1 s.1.2.1),.own 531,.int s.1.2.2.2.1,.own 532,.own 533] 113)]) [(0,_),(4,_),(10,_),(13,_),(87,_),(88,_),(89,_)] [(1001,_),(1002,_),(1003,_)] (fun _ A35 _ _=>?_) ?_
          ·refine l8 hn ?_
           refine l5 h179 (fun hb181 h179=>?_) (fun hb181 h179=>?_)
           ·refine q9 hn ?_
            refine Or.inr ?_
            obtain ⟨r182,hr183,h179⟩:=j4 h179
            show l7 Try.prog _ _ _ _
            refine cA ((G9 N (⟨v68,v69,v70,v71,v72,v73⟩:F4) x91.op (wr ((v49.length:Int)+x91.a)) (0:Int) (0:Int) r182 hr183).swl [(1001,504),(1002,505),(1003,506),(2,531),(3,532),(4,533)] rfl) ?_
            refine A35 _ _ ?_
            exact jn ⟨_,sj h179⟩ []
           refine j6 hn ?_
           obtain ⟨o191,h190,h179⟩:=j4 h179
           refine jk (ι:={ s // o191=s }) hn (fun s=>[]) (fun s=>[(534,.row 5 (List.map J2 s.1.2.2.1) 60),(535,.row 1 (List.map C8 s.1.2.2.2.2.1) 3),(536,.row 1 (List.map C8 s.1.2.2.2.2.2) 3),(1000,.box [.fp (P5 s.1.1),.fp (O1 s.1.2.1),.own 534,.int s.1.2.2.2.1,.own 535,.own 536] 113)]) [(0,_),(4,_),(10,_),(13,_),(87,_),(88,_),(89,_)] [(1001,_),(1002,_),(1003,_)] (fun _ A36 _ _=>?_) ?_
           ·refine l8 hn ?_
            refine l5 h190 (fun hb192 h190=>?_) (fun hb192 h190=>?_)
            ·refine q9 hn ?_
             refine u7 (fun _=>?_)
             refine Or.inr ?_
             obtain ⟨r194,hr195,h190⟩:=j4 h190
             show l7 Try.prog _ _ _ _
             refine cA ((G9 N (⟨v68,v69,v70,v71,v72,v73⟩:F4) (15:Int) (wr ((v49.length:Int)+(a4.code.length:Int))) (0:Int) (0:Int) r194 hr195).swl [(1001,504),(1002,505),(1003,506),(2,534),(3,535),(4,536)] rfl) ?_
             refine A36 _ _ ?_
             exact jn ⟨_,sj h190⟩ []
            refine q9 hn ?_
            obtain ⟨r196,hr197,h190⟩:=j4 h190
            show l7 Try.prog _ _ _ _
            refine cA ((G9 N (⟨v68,v69,v70,v71,v72,v73⟩:F4) x91.op x91.a (0:Int) (0:Int) r196 hr197).swl [(1001,504),(1002,505),(1003,506),(2,537),(3,538),(4,539)] rfl) ?_
            refine A36 _ _ ?_
            exact jn ⟨_,sj h190⟩ [(534,537),(535,538),(536,539)]
           rintro ⟨⟨v184,v185,v186,v187,v188,v189⟩,rfl⟩
           refine A35 _ _ ?_
           exact jn ⟨_,sj h179⟩ [(531,534),(532,535),(533,536)]
          rintro ⟨⟨v173,v174,v175,v176,v177,v178⟩,rfl⟩
          refine A32 _ _ ?_
          exact jn ⟨_,sj h164⟩ [(528,531),(529,532),(530,533)]
         rintro ⟨⟨v158,v159,v160,v161,v162,v163⟩,rfl⟩
         refine A31 _ _ ?_
         exact jn ⟨_,sj h153⟩ [(525,528),(526,529),(527,530)]
        rintro ⟨⟨v147,v148,v149,v150,v151,v152⟩,rfl⟩
        refine A30 _ _ ?_
        exact jn ⟨_,sj h142⟩ [(522,525),(523,526),(524,527)]
       rintro ⟨⟨v136,v137,v138,v139,v140,v141⟩,rfl⟩
       refine A27 _ _ ?_
       exact jn ⟨_,sj h127⟩ [(519,522),(520,523),(521,524)]
      rintro ⟨⟨v121,v122,v123,v124,v125,v126⟩,rfl⟩
      refine A26 _ _ ?_
      exact jn ⟨_,sj h116⟩ [(516,519),(517,520),(518,521)]
     rintro ⟨⟨v110,v111,v112,v113,v114,v115⟩,rfl⟩
     refine A25 _ _ ?_
     refine A24 _ _ ?_
     exact jn ⟨_,sj h108⟩ []
    rintro ⟨⟨v102,v103,v104,v105,v106,v107⟩,rfl⟩
    refine A23 _ _ ?_
    refine A22 _ _ ?_
    exact jn ⟨_,sj h100⟩ []
   rintro ⟨⟨v94,v95,v96,v97,v98,v99⟩,rfl⟩
   refine A21 _ _ ?_
   refine q9 hn ?_
   refine Or.inl (And.intro (T9 hx92 hl66) ?_)
   refine A18 _ _ ?_
   exact jn ⟨(rest88,k67+1,v94,v95,v96,v97,v98,v99),hd2,h87⟩ [(504,516),(505,517),(506,518)] (by show rest88.length < rest88.length+1; omega)
 rintro ⟨⟨v80,v81,v82,v83,v84,v85⟩,rfl⟩
 obtain rfl:=Option.some.inj h
 exact ⟨[(2,504),(3,505),(4,506)],_,fm⟩

/- inline.Method -/
set_option maxRecDepth 100000 in
set_option maxHeartbeats 8000000 in
theorem b55 (N:Nat) (a0:Wd) (a1:Int) (a2:Int) (a3:(List Int)) (r:(Fs×Bool)) (h:aQ5 N a0 a1 a2 a3=some r):Spec Try.prog 24 [] [.agg (P5 a0),.int a1,.int a2,.sl 1 (List.map C8 a3)] (.tup [.agg (eFs r.1),.bool r.2]) [] []:=by
 refine Spec.of D5 Try.func24 rfl Try.ntmps24 (by kernel_rfl) rfl rfl rfl fun Γ hn=>?_
 unfold aQ5 at h
 refine j6 hn ?_
 refine j5.seqQ fun _ A0 _ R0=>?_
 refine j5.seqQ fun _ A1 _ _=>?_
 obtain ⟨o3,h2,h⟩:=j4 h
 refine jk (ι:={ s // o3=s }) hn (fun s=>[(41,.bool s.1)]) (fun s=>[]) [(1,_),(2,_),(3,_),(4,_),(8,_)] [(4,_),(8,_)] (fun _ A2 _ _=>?_) ?_
 ·refine q9 hn ?_
  refine l5 h2 (fun hb4 h2=>?_) (fun hb4 h2=>?_)
  ·refine j3 hb4 ?_
   refine j3 hb4 ?_
   refine j3 hb4 ?_
   refine j3 hb4 ?_
   refine j3 hb4 ?_
   refine A2 _ _ ?_
   exact jn ⟨_,sj h2⟩ []
  refine d9 hb4 ?_
  refine d9 hb4 ?_
  refine d9 hb4 ?_
  refine u7 (fun _=>?_)
  refine d9 hb4 ?_
  refine d9 hb4 ?_
  refine l5 h2 (fun hb6 h2=>?_) (fun hb6 h2=>?_)
  ·refine j3 hb6 ?_
   refine j3 hb6 ?_
   refine A2 _ _ ?_
   exact jn ⟨_,sj h2⟩ []
  refine d9 hb6 ?_
  refine d9 hb6 ?_
  refine l5 h2 (fun hb7 h2=>?_) (fun hb7 h2=>?_)
  ·refine j3 hb7 ?_
   refine j3 hb7 ?_
   refine j3 hb7 ?_
   refine j3 hb7 ?_
   refine j3 hb7 ?_
   refine j3 hb7 ?_
   refine j3 hb7 ?_
   refine j3 hb7 ?_
   refine j3 hb7 ?_
   refine A2 _ _ ?_
   exact jn ⟨_,sj h2⟩ []
  refine d9 hb7 ?_
  refine d9 hb7 ?_
  refine d9 hb7 ?_
  refine d9 hb7 ?_
  obtain ⟨x8,hx9,h2⟩:=j4 h2
  refine I8 hx9 ?_
  refine d9 hb7 ?_
  refine d9 hb7 ?_
  refine d9 hb7 ?_
  refine u7 (fun _=>?_)
  refine d9 hb7 ?_
  refine d9 hb7 ?_
  refine A2 _ _ ?_
  exact jn ⟨_,sj h2⟩ []
 rintro ⟨v1,hv_⟩
 replace hv_:=hv_.symm
 subst hv_
 refine A1 _ _ ?_
 refine l8 hn ?_
 refine l5 h (fun hb11 h=>?_) (fun hb11 h=>?_)
 ·refine j6 hn ?_
  refine got hn ?_
  refine R0 _ _ ?_
  obtain rfl:=Option.some.inj h
  exact ⟨[],_,fm⟩
 refine q8 hn ?_
 refine A0 _ _ ?_
 refine j6 hn ?_
 obtain ⟨x12,hx13,h⟩:=j4 h
 refine I8 hx13 ?_
 obtain ⟨x14,hx15,h⟩:=j4 h
 refine I8 hx15 ?_
 refine j5.gh (Gh.fzBox 4 4 rfl rfl rfl) (fun _=>?_)
 refine kp [(1,_),(3,_),(4,_),(8,_),(10,_)] [(8,_)] ?_
 refine j6 hn ?_
 refine j6 hn ?_
 refine j5.seqQ fun _ A3 _ _=>?_
 refine j6 hn ?_
 refine u7 (fun hl16=>?_)
 refine j5.nilrowB 57 2 501 5 60 rfl rfl rfl rfl rfl rfl ?_
 refine j5.nilrowB 57 4 502 1 3 rfl rfl rfl rfl rfl rfl ?_
 refine j5.nilrowB 57 5 503 1 3 rfl rfl rfl rfl rfl rfl ?_
 obtain ⟨o39,h40,h⟩:=j4 h
 refine jk (ι:={ s // o39=s }) hn (fun s=>[(12,.bool s.1.2.2.2.2.2.2)]) (fun s=>[(57,.box [.fp (P5 s.1.1),.fp (O1 s.1.2.1),.own 501,.int s.1.2.2.2.1,.own 502,.own 503] 113),(501,.row 5 (List.map J2 s.1.2.2.1) 60),(502,.row 1 (List.map C8 s.1.2.2.2.2.1) 3),(503,.row 1 (List.map C8 s.1.2.2.2.2.2.1) 3)]) [(1,_),(4,_),(8,_),(10,_),(11,_)] [(8,_)] (fun _ A4 _ _=>?_) ?_
 ·refine j5.blkQ fun _ _ E5 _ _=>?_
  refine lq (ι:={ q:((List Ins)×Nat×Wd×Me×(List Ins)×Int×(List Int)×(List Int)×Bool) // q.1=x14.code.drop q.2.1∧U1 N a3 x14 q.1 q.2.1 q.2.2.1 q.2.2.2.1 q.2.2.2.2.1 q.2.2.2.2.2.1 q.2.2.2.2.2.2.1 q.2.2.2.2.2.2.2.1 q.2.2.2.2.2.2.2.2=some o39 }) hn (fun q=>[(12,.bool q.1.2.2.2.2.2.2.2.2),(63,.int (q.1.2.1:Int))]) (fun q=>[(57,.box [.fp (P5 q.1.2.2.1),.fp (O1 q.1.2.2.2.1),.own 501,.int q.1.2.2.2.2.2.1,.own 502,.own 503] 113),(501,.row 5 (List.map J2 q.1.2.2.2.2.1) 60),(502,.row 1 (List.map C8 q.1.2.2.2.2.2.2.1) 3),(503,.row 1 (List.map C8 q.1.2.2.2.2.2.2.2.1) 3)]) (fun q=>q.1.1.length) [(1,_),(3,_),(4,_),(8,_),(10,_),(11,_),(61,_),(62,_)] [(8,_)] ⟨(x14.code,0,a0,x14,([]:List Ins),x14.temps,([]:List Int),([]:List Int),false),rfl,h40⟩ [] ?_
  rintro ⟨⟨rest_,k17,v18,v19,v20,v21,v22,v23,v24⟩,hd42,h40⟩ _ A6 X6 _
  replace hd42:rest_=x14.code.drop k17:=hd42
  rcases rest_ with _|⟨x44,rest41⟩
  ·have hlt46:=H5 hd42
   replace h40:=(U1.eq_1 _ _ _ _ _ _ _ _ _ _ _).symm.trans h40
   refine j6 hn ?_
   refine j5.seqQ fun _ _ X7 _=>?_
   refine l8 hn ?_
   refine d9 hlt46 ?_
   refine K8 hn ?_
   refine X7 _ _ _ ?_
   refine X6 _ _ _ ?_
   refine E5 _ _ ?_
   refine A4 _ _ ?_
   exact jn ⟨_,sj h40⟩ []
  ·obtain ⟨hx45,hd2,hlt46⟩:=F3 hd42
   replace h40:=(U1.eq_2 _ _ _ _ _ _ _ _ _ _ _ _ _).symm.trans h40
   refine j6 hn ?_
   refine j5.seqQ fun _ A8 _ _=>?_
   refine l8 hn ?_
   refine j3 hlt46 ?_
   refine q8 hn ?_
   refine A8 _ _ ?_
   refine j5.seqQ fun _ A9 _ _=>?_
   obtain ⟨o55,h54,h40⟩:=j4 h40
   refine jk (ι:={ s // o55=s }) hn (fun s=>[(12,.bool s.1.2.2.2.2.2.2)]) (fun s=>[(57,.box [.fp (P5 s.1.1),.fp (O1 s.1.2.1),.own 203,.int s.1.2.2.2.1,.own 505,.own 188] 113),(188,.row 1 (List.map C8 s.1.2.2.2.2.2.1) 3),(203,.row 5 (List.map J2 s.1.2.2.1) 60),(505,.row 1 (List.map C8 s.1.2.2.2.2.1) 3)]) [(1,_),(3,_),(4,_),(8,_),(10,_),(11,_),(61,_),(62,_),(63,_)] [(8,_)] (fun _ A10 _ _=>?_) ?_
   ·refine j5.blkQ fun _ A11 E11 _ _=>?_
    refine j6 hn ?_
    refine Z4 hx45 ?_
    refine j5.seqQ fun _ A12 _ _=>?_
    refine H7 hn (by kernel_rfl) ?_
    refine u7 (fun _=>?_)
    refine Exists.intro (List.map C8 [(v20.length:Int)]) (And.intro (by repeat (first|exact trivial|exact rfl|(refine And.intro ?_ ?_))) ?_)
    obtain ⟨hg57,h54⟩:=C9 h54
    refine O7 (l2:=[(v20.length:Int)]) hg57 (z8 _) ?_
    refine A12 _ _ ?_
    refine j5.seqQ fun _ A13 X13 _=>?_
    refine j5.seqQ fun _ A14 _ _=>?_
    obtain ⟨o60,h59,h54⟩:=j4 h54
    refine jk (ι:={ s // o60=s }) hn (fun s=>[(97,.bool s.1)]) (fun s=>[]) [(1,_),(3,_),(4,_),(8,_),(10,_),(11,_),(12,_),(13,_),(14,_),(61,_),(62,_),(63,_)] [(8,_),(14,_),(57,_),(79,_),(501,_),(503,_)] (fun _ A15 _ _=>?_) ?_
    ·refine kp [(1,_),(3,_),(4,_),(8,_),(10,_),(11,_),(12,_),(13,_),(14,_),(61,_),(62,_),(63,_)] [(8,_),(14,_),(57,_),(79,_),(501,_),(503,_)] ?_
     refine q9 hn ?_
     refine l5 h59 (fun hb61 h59=>?_) (fun hb61 h59=>?_)
     ·refine j3 hb61 ?_
      refine j3 hb61 ?_
      refine u7 (fun _=>?_)
      refine j3 hb61 ?_
      refine j3 hb61 ?_
      refine l5 h59 (fun hb63 h59=>?_) (fun hb63 h59=>?_)
      ·refine j3 hb63 ?_
       refine j3 hb63 ?_
       obtain ⟨x64,hx65,h59⟩:=j4 h59
       refine I8 hx65 ?_
       refine j3 hb63 ?_
       refine j3 hb63 ?_
       refine j3 hb63 ?_
       refine A15 _ _ ?_
       exact jn ⟨_,sj h59⟩ []
      refine d9 hb63 ?_
      refine d9 hb63 ?_
      refine d9 hb63 ?_
      refine d9 hb63 ?_
      refine d9 hb63 ?_
      refine A15 _ _ ?_
      exact jn ⟨_,sj h59⟩ []
     refine d9 hb61 ?_
     refine d9 hb61 ?_
     refine d9 hb61 ?_
     refine d9 hb61 ?_
     refine A15 _ _ ?_
     exact jn ⟨_,sj h59⟩ []
    rintro ⟨v58,hv_⟩
    replace hv_:=hv_.symm
    subst hv_
    refine A14 _ _ ?_
    refine l8 hn ?_
    refine l5 h54 (fun hb66 h54=>?_) (fun hb66 h54=>?_)
    ·refine j5.seqQ fun _ A16 _ _=>?_
     refine H7 hn (by kernel_rfl) ?_
     obtain ⟨x67,hx68,h54⟩:=j4 h54
     refine I8 hx68 ?_
     obtain ⟨r69,hr70,h54⟩:=j4 h54
     show l7 Try.prog _ _ _ _
     refine cA ((bJ4 N (⟨v18,v19,v20,v21,(v22++[(v20.length:Int)]),v23⟩:F4) x67 x44.name r69 hr70).swl [(1000,57),(1001,501),(1002,79),(1003,503),(2,504),(3,505),(4,506)] rfl) ?_
     rcases r69 with ⟨_|x72,w71⟩
     ·refine A16 _ _ ?_
      refine j5.seqQ fun _ A17 _ _=>?_
      refine kp [(1,_),(3,_),(4,_),(8,_),(10,_),(11,_),(12,_),(13,_),(14,_),(15,_),(61,_),(62,_),(63,_)] [(8,_),(14,_),(57,_),(504,_),(505,_),(506,_)] ?_
      refine H7 hn (by kernel_rfl) ?_
      refine A17 _ _ ?_
      refine l8 hn ?_
      refine q8 hn ?_
      refine A13 _ _ ?_
      refine j5.seqQ fun _ A18 _ _=>?_
      refine j5.seqQ fun _ A19 _ _=>?_
      obtain ⟨o75,h74,h54⟩:=j4 h54
      refine jk (ι:={ s // o75=s }) hn (fun s=>[(176,.bool s.1)]) (fun s=>[]) [(1,_),(3,_),(4,_),(8,_),(10,_),(11,_),(12,_),(13,_),(14,_),(61,_),(62,_),(63,_)] [(8,_),(14,_),(57,_),(504,_),(505,_),(506,_)] (fun _ A20 _ _=>?_) ?_
      ·refine kp [(1,_),(3,_),(4,_),(8,_),(10,_),(11,_),(12,_),(13,_),(14,_),(61,_),(62,_),(63,_)] [(8,_),(14,_),(57,_),(504,_),(505,_),(506,_)] ?_
       refine q9 hn ?_
       refine l5 h74 (fun hb76 h74=>?_) (fun hb76 h74=>?_)
       ·refine j3 hb76 ?_
        refine j3 hb76 ?_
        refine j3 hb76 ?_
        refine A20 _ _ ?_
        exact jn ⟨_,sj h74⟩ []
       refine d9 hb76 ?_
       refine d9 hb76 ?_
       refine d9 hb76 ?_
       refine A20 _ _ ?_
       exact jn ⟨_,sj h74⟩ []
      rintro ⟨v73,hv_⟩
      replace hv_:=hv_.symm
      subst hv_
      refine A19 _ _ ?_
      obtain ⟨o79,h78,h54⟩:=j4 h54
      refine jk (ι:={ s // o79=s }) hn (fun s=>[]) (fun s=>[(57,.box [.fp (P5 w71.w),.fp (O1 w71.m),.own 504,.int w71.temps,.own 505,.own 188] 113),(188,.row 1 (List.map C8 s.1) 3)]) [(1,_),(3,_),(4,_),(8,_),(10,_),(11,_),(12,_),(13,_),(14,_),(61,_),(62,_),(63,_)] [(8,_),(14,_),(504,_),(505,_)] (fun _ A21 _ _=>?_) ?_
      ·refine l8 hn ?_
       refine l5 h78 (fun hb80 h78=>?_) (fun hb80 h78=>?_)
       ·refine H7 hn (by kernel_rfl) ?_
        refine u7 (fun _=>?_)
        refine Exists.intro (List.map C8 [(w71.out.length:Int)]) (And.intro (by repeat (first|exact trivial|exact rfl|(refine And.intro ?_ ?_))) ?_)
        obtain ⟨hg82,h78⟩:=C9 h78
        refine O7 (l2:=[(w71.out.length:Int)]) hg82 (z8 _) ?_
        refine A21 _ _ ?_
        exact jn ⟨_,sj h78⟩ []
       refine q8 hn ?_
       refine A21 _ _ ?_
       exact jn ⟨_,sj h78⟩ [(188,506)]
      rintro ⟨v77,hv_⟩
      replace hv_:=hv_.symm
      subst hv_
      refine A18 _ _ ?_
      refine j5.seqQ fun _ A22 _ _=>?_
      refine j6 hn ?_
      obtain ⟨o85,h84,h54⟩:=j4 h54
      refine jk (ι:={ s // o85=s }) hn (fun s=>[]) (fun s=>[(14,.box (J2 s.1) 60)]) [(1,_),(3,_),(4,_),(8,_),(10,_),(11,_),(12,_),(14,_),(61,_),(62,_),(63,_)] [(8,_),(57,_),(188,_),(504,_),(505,_)] (fun _ A23 _ _=>?_) ?_
      ·refine l8 hn ?_
       refine l5 h84 (fun hb86 h84=>?_) (fun hb86 h84=>?_)
       ·refine q9 hn ?_
        refine A23 _ _ ?_
        exact jn ⟨_,sj h84⟩ []
       refine q8 hn ?_
       refine A23 _ _ ?_
       exact jn ⟨_,sj h84⟩ []
      rintro ⟨v83,hv_⟩
      replace hv_:=hv_.symm
      subst hv_
      refine A22 _ _ ?_
      refine H7 hn (by kernel_rfl) ?_
      refine Exists.intro (List.map J2 [v83]) (And.intro (by repeat (first|exact trivial|exact rfl|(refine And.intro ?_ ?_))) ?_)
      obtain ⟨hg87,h54⟩:=C9 h54
      refine O7 (l2:=[v83]) hg87 (z8 _) ?_
      refine A11 _ _ ?_
      refine A10 _ _ ?_
      exact jn ⟨_,sj h54⟩ []
     refine A16 _ _ ?_
     refine j5.seqQ fun _ A24 _ _=>?_
     obtain ⟨o90,h89,h54⟩:=j4 h54
     refine jk (ι:={ s // o90=s }) hn (fun s=>[(159,.bool s.1)]) (fun s=>[]) [(1,_),(3,_),(4,_),(8,_),(10,_),(11,_),(12,_),(13,_),(14,_),(15,_),(61,_),(62,_),(63,_)] [(8,_),(14,_),(57,_),(504,_),(505,_),(506,_)] (fun _ A25 _ _=>?_) ?_
     ·refine kp [(1,_),(3,_),(4,_),(8,_),(10,_),(11,_),(12,_),(13,_),(14,_),(15,_),(61,_),(62,_),(63,_)] [(8,_),(14,_),(57,_),(504,_),(505,_),(506,_)] ?_
      refine H7 hn (by kernel_rfl) ?_
      obtain ⟨r91,hr92,h89⟩:=j4 h89
      show l7 Try.prog _ _ _ _
      refine cA (bN8 N x72 r91 hr92) ?_
      refine l5 h89 (fun hb93 h89=>?_) (fun hb93 h89=>?_)
      ·refine j3 hb93 ?_
       refine j3 hb93 ?_
       refine j3 hb93 ?_
       refine j3 hb93 ?_
       refine j3 hb93 ?_
       refine j3 hb93 ?_
       refine j3 hb93 ?_
       refine l5 h89 (fun hb94 h89=>?_) (fun hb94 h89=>?_)
       ·refine j3 hb94 ?_
        refine j3 hb94 ?_
        refine j3 hb94 ?_
        refine j3 hb94 ?_
        refine u7 (fun _=>?_)
        refine j3 hb94 ?_
        refine j3 hb94 ?_
        obtain ⟨r96,hr97,h89⟩:=j4 h89
        show l7 Try.prog _ _ _ _
        refine cA (cA8 N x72 r96 hr97) ?_
        refine j3 hb94 ?_
        refine Or.inr ?_
        refine j3 hb94 ?_
        refine j3 hb94 ?_
        refine j3 hb94 ?_
        refine j3 hb94 ?_
        refine j3 hb94 ?_
        refine u7 (fun _=>?_)
        refine j3 hb94 ?_
        refine Or.inr ?_
        refine j3 hb94 ?_
        refine j3 hb94 ?_
        refine Or.inr ?_
        refine j3 hb94 ?_
        refine j3 hb94 ?_
        refine l5 h89 (fun hb99 h89=>?_) (fun hb99 h89=>?_)
        ·refine j3 hb99 ?_
         refine j3 hb99 ?_
         refine j3 hb99 ?_
         refine j3 hb99 ?_
         refine Or.inr ?_
         refine j3 hb99 ?_
         refine j3 hb99 ?_
         refine j3 hb99 ?_
         refine j3 hb99 ?_
         refine j3 hb99 ?_
         refine Or.inr ?_
         refine j3 hb99 ?_
         refine j3 hb99 ?_
         refine j3 hb99 ?_
         refine j3 hb99 ?_
         refine j3 hb99 ?_
         refine Or.inr ?_
         refine j3 hb99 ?_
         refine j3 hb99 ?_
         refine A25 _ _ ?_
         exact jn ⟨_,sj h89⟩ []
        refine d9 hb99 ?_
        refine d9 hb99 ?_
        refine d9 hb99 ?_
        refine d9 hb99 ?_
        refine d9 hb99 ?_
        refine d9 hb99 ?_
        refine d9 hb99 ?_
        refine d9 hb99 ?_
        refine d9 hb99 ?_
        refine d9 hb99 ?_
        refine d9 hb99 ?_
        refine d9 hb99 ?_
        refine d9 hb99 ?_
        refine d9 hb99 ?_
        refine d9 hb99 ?_
        refine d9 hb99 ?_
        refine A25 _ _ ?_
        exact jn ⟨_,sj h89⟩ []
       refine d9 hb94 ?_
       refine d9 hb94 ?_
       refine d9 hb94 ?_
       refine d9 hb94 ?_
       refine d9 hb94 ?_
       refine d9 hb94 ?_
       refine d9 hb94 ?_
       refine d9 hb94 ?_
       refine d9 hb94 ?_
       refine d9 hb94 ?_
       refine d9 hb94 ?_
       refine d9 hb94 ?_
       refine d9 hb94 ?_
       refine d9 hb94 ?_
       refine d9 hb94 ?_
       refine d9 hb94 ?_
       refine d9 hb94 ?_
       refine A25 _ _ ?_
       exact jn ⟨_,sj h89⟩ []
      refine d9 hb93 ?_
      refine d9 hb93 ?_
      refine d9 hb93 ?_
      refine d9 hb93 ?_
      refine d9 hb93 ?_
      refine d9 hb93 ?_
      refine d9 hb93 ?_
      refine A25 _ _ ?_
      exact jn ⟨_,sj h89⟩ []
     rintro ⟨v88,hv_⟩
     replace hv_:=hv_.symm
     subst hv_
     refine A24 _ _ ?_
     refine l8 hn ?_
     refine l5 h54 (fun hb100 h54=>?_) (fun hb100 h54=>?_)
     ·refine j5.seqQ fun _ A26 _ _=>?_
      refine H7 hn (by kernel_rfl) ?_
      obtain ⟨x101,hx102,h54⟩:=j4 h54
      refine I8 hx102 ?_
      obtain ⟨r103,hr104,h54⟩:=j4 h54
      show l7 Try.prog _ _ _ _
      refine cA ((bO3 N (⟨w71.w,w71.m,w71.out,w71.temps,w71.at_,w71.fix⟩:F4) x101 (k17:Int) x44 x72 r103 hr104).swl [(1000,57),(1001,504),(1002,505),(1003,506),(2,507),(3,508),(4,509)] rfl) ?_
      refine A26 _ _ ?_
      refine kp [(1,_),(3,_),(4,_),(8,_),(10,_),(11,_),(61,_),(62,_),(63,_)] [(8,_),(57,_),(507,_),(508,_),(509,_)] ?_
      refine j6 hn ?_
      refine K8 hn ?_
      refine X13 _ _ _ ?_
      refine E11 _ _ ?_
      refine A10 _ _ ?_
      exact jn ⟨_,sj h54⟩ [(203,507),(505,508),(188,509)]
     refine q8 hn ?_
     refine A13 _ _ ?_
     refine j5.seqQ fun _ A27 _ _=>?_
     refine j5.seqQ fun _ A28 _ _=>?_
     obtain ⟨o107,h106,h54⟩:=j4 h54
     refine jk (ι:={ s // o107=s }) hn (fun s=>[(176,.bool s.1)]) (fun s=>[]) [(1,_),(3,_),(4,_),(8,_),(10,_),(11,_),(12,_),(13,_),(14,_),(61,_),(62,_),(63,_)] [(8,_),(14,_),(57,_),(504,_),(505,_),(506,_)] (fun _ A29 _ _=>?_) ?_
     ·refine q9 hn ?_
      refine l5 h106 (fun hb108 h106=>?_) (fun hb108 h106=>?_)
      ·refine j3 hb108 ?_
       refine j3 hb108 ?_
       refine j3 hb108 ?_
       refine A29 _ _ ?_
       exact jn ⟨_,sj h106⟩ []
      refine d9 hb108 ?_
      refine d9 hb108 ?_
      refine d9 hb108 ?_
      refine A29 _ _ ?_
      exact jn ⟨_,sj h106⟩ []
     rintro ⟨v105,hv_⟩
     replace hv_:=hv_.symm
     subst hv_
     refine A28 _ _ ?_
     obtain ⟨o111,h110,h54⟩:=j4 h54
     refine jk (ι:={ s // o111=s }) hn (fun s=>[]) (fun s=>[(57,.box [.fp (P5 w71.w),.fp (O1 w71.m),.own 504,.int w71.temps,.own 505,.own 188] 113),(188,.row 1 (List.map C8 s.1) 3)]) [(1,_),(3,_),(4,_),(8,_),(10,_),(11,_),(12,_),(13,_),(14,_),(61,_),(62,_),(63,_)] [(8,_),(14,_),(504,_),(505,_)] (fun _ A30 _ _=>?_) ?_
     ·refine l8 hn ?_
      refine l5 h110 (fun hb112 h110=>?_) (fun hb112 h110=>?_)
      ·refine H7 hn (by kernel_rfl) ?_
       refine u7 (fun _=>?_)
       refine Exists.intro (List.map C8 [(w71.out.length:Int)]) (And.intro (by repeat (first|exact trivial|exact rfl|(refine And.intro ?_ ?_))) ?_)
       obtain ⟨hg114,h110⟩:=C9 h110
       refine O7 (l2:=[(w71.out.length:Int)]) hg114 (z8 _) ?_
       refine A30 _ _ ?_
       exact jn ⟨_,sj h110⟩ []
      refine q8 hn ?_
      refine A30 _ _ ?_
      exact jn ⟨_,sj h110⟩ [(188,506)]
     rintro ⟨v109,hv_⟩
     replace hv_:=hv_.symm
     subst hv_
     refine A27 _ _ ?_
     refine j5.seqQ fun _ A31 _ _=>?_
     refine j6 hn ?_
     obtain ⟨o117,h116,h54⟩:=j4 h54
     refine jk (ι:={ s // o117=s }) hn (fun s=>[]) (fun s=>[(14,.box (J2 s.1) 60)]) [(1,_),(3,_),(4,_),(8,_),(10,_),(11,_),(12,_),(14,_),(61,_),(62,_),(63,_)] [(8,_),(57,_),(188,_),(504,_),(505,_)] (fun _ A32 _ _=>?_) ?_
     ·refine l8 hn ?_
      refine l5 h116 (fun hb118 h116=>?_) (fun hb118 h116=>?_)
      ·refine q9 hn ?_
       refine A32 _ _ ?_
       exact jn ⟨_,sj h116⟩ []
      refine q8 hn ?_
      refine A32 _ _ ?_
      exact jn ⟨_,sj h116⟩ []
     rintro ⟨v115,hv_⟩
     replace hv_:=hv_.symm
     subst hv_
     refine A31 _ _ ?_
     refine H7 hn (by kernel_rfl) ?_
     refine Exists.intro (List.map J2 [v115]) (And.intro (by repeat (first|exact trivial|exact rfl|(refine And.intro ?_ ?_))) ?_)
     obtain ⟨hg119,h54⟩:=C9 h54
     refine O7 (l2:=[v115]) hg119 (z8 _) ?_
     refine A11 _ _ ?_
     refine A10 _ _ ?_
     exact jn ⟨_,sj h54⟩ []
    refine q8 hn ?_
    refine A13 _ _ ?_
    refine j5.seqQ fun _ A33 _ _=>?_
    refine j5.seqQ fun _ A34 _ _=>?_
    obtain ⟨o122,h121,h54⟩:=j4 h54
    refine jk (ι:={ s // o122=s }) hn (fun s=>[(176,.bool s.1)]) (fun s=>[]) [(1,_),(3,_),(4,_),(8,_),(10,_),(11,_),(12,_),(13,_),(14,_),(61,_),(62,_),(63,_)] [(8,_),(14,_),(57,_),(79,_),(501,_),(503,_)] (fun _ A35 _ _=>?_) ?_
    ·refine q9 hn ?_
     refine l5 h121 (fun hb123 h121=>?_) (fun hb123 h121=>?_)
     ·refine j3 hb123 ?_
      refine j3 hb123 ?_
      refine j3 hb123 ?_
      refine A35 _ _ ?_
      exact jn ⟨_,sj h121⟩ []
     refine d9 hb123 ?_
     refine d9 hb123 ?_
     refine d9 hb123 ?_
     refine A35 _ _ ?_
     exact jn ⟨_,sj h121⟩ []
    rintro ⟨v120,hv_⟩
    replace hv_:=hv_.symm
    subst hv_
    refine A34 _ _ ?_
    obtain ⟨o126,h125,h54⟩:=j4 h54
    refine jk (ι:={ s // o126=s }) hn (fun s=>[]) (fun s=>[(57,.box [.fp (P5 v18),.fp (O1 v19),.own 501,.int v21,.own 79,.own 188] 113),(188,.row 1 (List.map C8 s.1) 3)]) [(1,_),(3,_),(4,_),(8,_),(10,_),(11,_),(12,_),(13,_),(14,_),(61,_),(62,_),(63,_)] [(8,_),(14,_),(79,_),(501,_)] (fun _ A36 _ _=>?_) ?_
    ·refine l8 hn ?_
     refine l5 h125 (fun hb127 h125=>?_) (fun hb127 h125=>?_)
     ·refine H7 hn (by kernel_rfl) ?_
      refine u7 (fun _=>?_)
      refine Exists.intro (List.map C8 [(v20.length:Int)]) (And.intro (by repeat (first|exact trivial|exact rfl|(refine And.intro ?_ ?_))) ?_)
      obtain ⟨hg129,h125⟩:=C9 h125
      refine O7 (l2:=[(v20.length:Int)]) hg129 (z8 _) ?_
      refine A36 _ _ ?_
      exact jn ⟨_,sj h125⟩ []
     refine q8 hn ?_
     refine A36 _ _ ?_
     exact jn ⟨_,sj h125⟩ [(188,503)]
    rintro ⟨v124,hv_⟩
    replace hv_:=hv_.symm
    subst hv_
    refine A33 _ _ ?_
    refine j5.seqQ fun _ A37 _ _=>?_
    refine j6 hn ?_
    obtain ⟨o132,h131,h54⟩:=j4 h54
    refine jk (ι:={ s // o132=s }) hn (fun s=>[]) (fun s=>[(14,.box (J2 s.1) 60)]) [(1,_),(3,_),(4,_),(8,_),(10,_),(11,_),(12,_),(14,_),(61,_),(62,_),(63,_)] [(8,_),(57,_),(79,_),(188,_),(501,_)] (fun _ A38 _ _=>?_) ?_
    ·refine l8 hn ?_
     refine l5 h131 (fun hb133 h131=>?_) (fun hb133 h131=>?_)
     ·refine q9 hn ?_
      refine A38 _ _ ?_
      exact jn ⟨_,sj h131⟩ []
     refine q8 hn ?_
     refine A38 _ _ ?_
     exact jn ⟨_,sj h131⟩ []
    rintro ⟨v130,hv_⟩
    replace hv_:=hv_.symm
    subst hv_
    refine A37 _ _ ?_
    refine H7 hn (by kernel_rfl) ?_
    refine Exists.intro (List.map J2 [v130]) (And.intro (by repeat (first|exact trivial|exact rfl|(refine And.intro ?_ ?_))) ?_)
    obtain ⟨hg134,h54⟩:=C9 h54
    refine O7 (l2:=[v130]) hg134 (z8 _) ?_
    refine A11 _ _ ?_
    refine A10 _ _ ?_
    exact jn ⟨_,sj h54⟩ [(505,79)]
   rintro ⟨⟨v47,v48,v49,v50,v51,v52,v53⟩,rfl⟩
   refine A9 _ _ ?_
   refine q9 hn ?_
   refine Or.inl (And.intro (T9 hx45 hl16) ?_)
   refine A6 _ _ ?_
   exact jn ⟨(rest41,k17+1,v47,v48,v49,v50,v51,v52,v53),hd2,h40⟩ [(501,203),(502,505),(503,188)] (by show rest41.length < rest41.length+1; omega)
 rintro ⟨⟨v32,v33,v34,v35,v36,v37,v38⟩,rfl⟩
 refine A3 _ _ ?_
 refine j5.seqQ fun _ A39 _ R39=>?_
 refine j6 hn ?_
 refine l8 hn ?_
 refine l5 h (fun hb135 h=>?_) (fun hb135 h=>?_)
 ·refine j6 hn ?_
  refine got hn ?_
  refine R39 _ _ ?_
  obtain rfl:=Option.some.inj h
  exact ⟨[],_,fm⟩
 refine q8 hn ?_
 refine A39 _ _ ?_
 refine j5.seqQ fun _ A40 _ _=>?_
 refine j6 hn ?_
 refine u7 (fun hl136=>?_)
 obtain ⟨o141,h142,h⟩:=j4 h
 refine jk (ι:={ s // o141=s }) hn (fun s=>[]) (fun s=>[(501,.row 5 (List.map J2 s.1) 60)]) [(1,_),(4,_),(8,_),(10,_),(11,_)] [(8,_),(57,_),(502,_),(503,_)] (fun _ A41 _ _=>?_) ?_
 ·refine j5.blkQ fun _ _ E42 _ _=>?_
  refine lq (ι:={ q:((List Int)×Nat×(List Ins)) // q.1=v37.drop q.2.1∧S9 N v36 v37 q.1 q.2.1 q.2.2=some o141 }) hn (fun q=>[(215,.int (q.1.2.1:Int))]) (fun q=>[(501,.row 5 (List.map J2 q.1.2.2) 60)]) (fun q=>q.1.1.length) [(1,_),(4,_),(8,_),(10,_),(11,_),(213,_),(214,_)] [(8,_),(57,_),(502,_),(503,_)] ⟨(v37,0,v34),rfl,h142⟩ [] ?_
  rintro ⟨⟨rest_,k137,v138⟩,hd144,h142⟩ _ A43 X43 _
  replace hd144:rest_=v37.drop k137:=hd144
  rcases rest_ with _|⟨x146,rest143⟩
  ·have hlt148:=H5 hd144
   replace h142:=(S9.eq_1 _ _ _ _ _).symm.trans h142
   refine j6 hn ?_
   refine j5.seqQ fun _ _ X44 _=>?_
   refine l8 hn ?_
   refine d9 hlt148 ?_
   refine K8 hn ?_
   refine X44 _ _ _ ?_
   refine X43 _ _ _ ?_
   refine E42 _ _ ?_
   refine A41 _ _ ?_
   exact jn ⟨_,sj h142⟩ []
  ·obtain ⟨hx147,hd2,hlt148⟩:=F3 hd144
   replace h142:=(S9.eq_2 _ _ _ _ _ _ _).symm.trans h142
   refine j6 hn ?_
   refine j5.seqQ fun _ A45 _ _=>?_
   refine l8 hn ?_
   refine j3 hlt148 ?_
   refine q8 hn ?_
   refine A45 _ _ ?_
   refine j5.seqQ fun _ A46 _ _=>?_
   refine j5.blkQ fun _ A47 _ _ _=>?_
   refine j6 hn ?_
   obtain ⟨x149,hx150,h142⟩:=j4 h142
   refine V6 hx150 ?_
   refine U3 (u6 hx150).2 ?_
   refine kp [(1,_),(4,_),(8,_),(10,_),(11,_),(17,_),(213,_),(214,_),(215,_)] [(8,_),(57,_),(501,_),(502,_),(503,_)] ?_
   refine H7 hn (by kernel_rfl) ?_
   obtain ⟨x151,hx152,h142⟩:=j4 h142
   refine V6 hx152 ?_
   refine U3 (u6 hx152).2 ?_
   obtain ⟨x153,hx154,h142⟩:=j4 h142
   refine V6 hx154 ?_
   refine U3 (u6 hx154).2 ?_
   obtain ⟨x155,hx156,h142⟩:=j4 h142
   refine V6 hx156 ?_
   refine U3 (u6 hx156).2 ?_
   refine Exists.intro (List.map J2 (v138.set x149.toNat (⟨x155.op,x153,x155.b,x155.c,x155.name⟩:Ins))) (And.intro (aP3 (u6 hx156).2 (by repeat (first|exact trivial|exact rfl|(refine And.intro ?_ ?_)))) ?_)
   refine A47 _ _ ?_
   refine A46 _ _ ?_
   refine kp [(1,_),(4,_),(8,_),(10,_),(11,_),(213,_),(214,_),(215,_)] [(8,_),(57,_),(501,_),(502,_),(503,_)] ?_
   refine q9 hn ?_
   refine Or.inl (And.intro (T9 hx147 hl136) ?_)
   refine A43 _ _ ?_
   exact jn ⟨(rest143,k137+1,(v138.set x149.toNat (⟨x155.op,x153,x155.b,x155.c,x155.name⟩:Ins))),hd2,h142⟩ [] (by show rest143.length < rest143.length+1; omega)
 rintro ⟨v140,hv_⟩
 replace hv_:=hv_.symm
 subst hv_
 refine A40 _ _ ?_
 refine j5.seqQ fun _ A48 _ _=>?_
 refine kp [(1,_),(4,_),(8,_),(10,_),(11,_)] [(8,_),(57,_),(501,_),(502,_),(503,_)] ?_
 refine H7 hn (by kernel_rfl) ?_
 refine A48 _ _ ?_
 refine j5.fzAll 501 rfl ?_
 refine got hn ?_
 obtain rfl:=Option.some.inj h
 exact ⟨[],_,fm⟩
end Go.Proofs.Ytkecefjmcimemaa
